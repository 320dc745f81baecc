/- Package heap, fourth text: less. No condition. -/
import Derived.Test.YtiebpmbongmgkaaHpC
set_option linter.unusedVariables false
set_option linter.unusedSimpArgs false
namespace Go.Proofs.Ytiebpmbongmgkaa.HpD
open Go.RowKit Go.Proofs.Ytiebpmbongmgkaa.Kit Go.Proofs.Ytiebpmbongmgkaa.Kit3 Go.Proofs.Ytiebpmbongmgkaa.Kit4 HpPlain Go.Maps Go.Proofs.Ytiebpmbongmgkaa.HpA Go.Proofs.Ytiebpmbongmgkaa.Cmp Go.Proofs.Ytiebpmbongmgkaa.Rank
open Go.Proofs.YtiebpmbongmgkaaW.PrintLast
theorem cmp3_neg (x y : Int) : cmp3 x y < 0 ↔ x < y := by unfold cmp3; split <;> (try split) <;> omega
theorem cmp3_zero (x y : Int) : cmp3 x y = 0 ↔ x = y := by unfold cmp3; split <;> (try split) <;> omega
theorem or2_neg (x y : Int) : or2 x y < 0 ↔ x < 0 ∨ (x = 0 ∧ y < 0) := by unfold or2; split <;> omega
theorem or2_zero (x y : Int) : or2 x y = 0 ↔ x = 0 ∧ y = 0 := by unfold or2; split <;> omega
def rk (x : It) : R := ⟨x.2.1, x.2.2.1, x.2.2.2.1, x.2.2.2.2⟩
theorem rcmp_neg (x y : R) : rcmp x y < 0 ↔ (x.d < y.d ∨ (x.d = y.d ∧ (y.b < x.b ∨ (y.b = x.b ∧ ((x.b = 1 ∧ (y.g < x.g ∨ (y.g = x.g ∧ x.i < y.i))) ∨ (x.b ≠ 1 ∧ x.i < y.i)))))) := by
  unfold rcmp c2
  rw [or2_neg]
  have h0 : c1 x y = 0 ↔ x.d = y.d ∧ y.b = x.b := by unfold c1; rw [or2_zero, cmp3_zero, cmp3_zero]
  have h1 : c1 x y < 0 ↔ x.d < y.d ∨ (x.d = y.d ∧ y.b < x.b) := by unfold c1; rw [or2_neg, cmp3_neg, cmp3_zero, cmp3_neg]
  have g0 := cmp3_zero y.g x.g
  have g1 := cmp3_neg y.g x.g
  have i1 := cmp3_neg x.i y.i
  split <;> rename_i h <;> omega
theorem lt_iff (k : Int) (x y : It) : lt k x y = true ↔ klt (key k x) (key k y) := by unfold lt; exact decide_eq_true_iff
theorem lt_rank (k : Int) (hk : k ≠ 2) (x y : It) : lt k x y = if rcmp (rk x) (rk y) < 0 ∨ rcmp (rk y) (rk x) < 0 then decide (rcmp (rk x) (rk y) < 0) else decide (x.1 < y.1) := by
  have h1 := rcmp_neg (rk x) (rk y)
  have h2 := rcmp_neg (rk y) (rk x)
  generalize rcmp (rk x) (rk y) = c at *
  generalize rcmp (rk y) (rk x) = d at *
  obtain ⟨x0, x1, x2, x3, x4⟩ := x
  obtain ⟨y0, y1, y2, y3, y4⟩ := y
  simp only [rk] at h1 h2
  have h3 := lt_iff k (x0, x1, x2, x3, x4) (y0, y1, y2, y3, y4)
  unfold key at h3
  rw [if_neg hk, if_neg hk] at h3
  simp only [klt, Int.lt_irrefl, false_or, true_and, and_true, or_false, false_and, and_false, ne_eq, not_true_eq_false, not_false_eq_true] at h3
  rw [Bool.eq_iff_iff, h3]
  clear h3
  by_cases b1 : x2 = 1 <;> by_cases b2 : y2 = 1 <;> simp only [b1, b2, if_true, if_false, false_or, true_and, and_true, or_false, false_and, and_false, ne_eq, not_true_eq_false, not_false_eq_true] at h1 h2 ⊢ <;> split <;> rename_i h <;> rw [decide_eq_true_eq] <;> omega
theorem lt_cases (kind : Int) (hk : kind ≠ 2) (x y : It) : (decide (rcmp (rk x) (rk y) < 0) = true ∧ Side (lt kind x y = true)) ∨ (decide (rcmp (rk x) (rk y) < 0) = false ∧ decide (rcmp (rk y) (rk x) < 0) = true ∧ Side (lt kind x y = false)) ∨ (decide (rcmp (rk x) (rk y) < 0) = false ∧ decide (rcmp (rk y) (rk x) < 0) = false ∧ Side (lt kind x y = decide (x.1 < y.1))) := by
  rw [lt_rank kind hk x y]
  by_cases h1 : rcmp (rk x) (rk y) < 0
  · exact .inl ⟨decide_eq_true h1, ⟨by rw [if_pos (.inl h1), decide_eq_true h1]⟩⟩
  · by_cases h2 : rcmp (rk y) (rk x) < 0
    · exact .inr (.inl ⟨decide_eq_false h1, decide_eq_true h2, ⟨by rw [if_pos (.inr h2), decide_eq_false h1]⟩⟩)
    · exact .inr (.inr ⟨decide_eq_false h1, decide_eq_false h2, ⟨by rw [if_neg (by omega)]⟩⟩)
theorem lt_time (x y : It) : lt 2 x y = decide (or2 (or2 (cmp3 x.2.1 y.2.1) (cmp3 x.2.2.2.2 y.2.2.2.2)) (cmp3 x.1 y.1) < 0) := by
  have h3 := lt_iff 2 x y
  unfold key at h3
  rw [if_pos rfl, if_pos rfl] at h3
  simp only [klt, Int.lt_irrefl, false_or, true_and, and_true, or_false, false_and, and_false, ne_eq, not_true_eq_false, not_false_eq_true] at h3
  rw [Bool.eq_iff_iff, h3, decide_eq_true_eq, or2_neg, or2_neg, or2_zero, cmp3_neg, cmp3_neg, cmp3_neg, cmp3_zero, cmp3_zero]
  omega
set_option maxRecDepth 100000 in
theorem Or3_at (g : Nat) (x y z : Int) (w : World) (h0 : w.cell? ⟨g, 0, none⟩ = some (.int .i64 x)) (h1 : w.cell? ⟨g, 1, none⟩ = some (.int .i64 y)) (h2 : w.cell? ⟨g, 2, none⟩ = some (.int .i64 z)) :
    Calls Try.prog 22 #[.slice (some ⟨g, 0, none⟩) 3 3] w fun r w' => r = .returned (.int .i64 (or2 (or2 x y) z)) ∧ w = w' := by
  go_enter Try.func22, Try.ntmps22
  go_wp2
  go_loop [5, 8] (fun _ v8 => ∃ k : Nat, v8 = .int .i64 k ∧ Side (k = 0 ∨ (k = 1 ∧ x = 0) ∨ (k = 2 ∧ x = 0 ∧ y = 0) ∨ (k = 3 ∧ x = 0 ∧ y = 0 ∧ z = 0))) (fun _ v8 => (3 - intOf v8).toNat)
  case atStart => exact ⟨0, rfl, ⟨.inl rfl⟩⟩
  case round =>
    obtain ⟨k, rfl, HK⟩ := hrel
    rcases HK.out with rfl | ⟨rfl, hx⟩ | ⟨rfl, hx, hy⟩ | ⟨rfl, hx, hy, hz⟩
    · by_cases hx : x = 0
      · have b1 : (x != 0) = false := bne_eq_false_iff_eq.2 hx
        have X := Side.mk hx
        clear hx HK
        go_wp2
        go_round
        case rel => exact ⟨1, rfl, ⟨.inr (.inl ⟨rfl, X.out⟩)⟩⟩
        case measure => decide
      · have b1 : (x != 0) = true := bne_iff_ne.2 hx
        have R : Side (x = or2 (or2 x y) z) := ⟨by unfold or2; rw [if_neg hx, if_neg hx]⟩
        clear hx HK
        go_wp2
        go_ret
        exact ⟨ret_int R.out, rfl⟩
    · by_cases hy : y = 0
      · have b1 : (y != 0) = false := bne_eq_false_iff_eq.2 hy
        have X := Side.mk hx
        have Y := Side.mk hy
        clear hx hy HK
        go_wp2
        go_round
        case rel => exact ⟨2, rfl, ⟨.inr (.inr (.inl ⟨rfl, X.out, Y.out⟩))⟩⟩
        case measure => decide
      · have b1 : (y != 0) = true := bne_iff_ne.2 hy
        have R : Side (y = or2 (or2 x y) z) := ⟨by unfold or2; rw [if_pos hx, if_neg hy]⟩
        clear hx hy HK
        go_wp2
        go_ret
        exact ⟨ret_int R.out, rfl⟩
    · by_cases hz : z = 0
      · have b1 : (z != 0) = false := bne_eq_false_iff_eq.2 hz
        have X := Side.mk hx
        have Y := Side.mk hy
        have Z := Side.mk hz
        clear hx hy hz HK
        go_wp2
        go_round
        case rel => exact ⟨3, rfl, ⟨.inr (.inr (.inr ⟨rfl, X.out, Y.out, Z.out⟩))⟩⟩
        case measure => decide
      · have b1 : (z != 0) = true := bne_iff_ne.2 hz
        have R : Side (z = or2 (or2 x y) z) := ⟨by unfold or2; rw [if_pos hx, if_pos hy]⟩
        clear hx hy hz HK
        go_wp2
        go_ret
        exact ⟨ret_int R.out, rfl⟩
    · have R : Side (0 = or2 (or2 x y) z) := ⟨by unfold or2; rw [if_pos hx, if_pos hy, hz]⟩
      clear hx hy hz HK
      go_wp2
      go_ret
      exact ⟨ret_int R.out, rfl⟩
set_option maxHeartbeats 4000000 in
set_option maxRecDepth 100000 in
theorem less_time (w : World) (gh : Nat) (x y : It) (hc : w.cell? ⟨gh, 0, none⟩ = some (.int .i64 2)) (hg : gh < w.heap.size) :
    Calls Try.prog 21 #[.pointer (some ⟨gh, 0, none⟩), vl x, vl y] w fun r w' => r = .returned (.bool (lt 2 x y)) ∧ Below w.heap.size w w' := by
  have HL := Side.mk (lt_time x y)
  obtain ⟨x0, x1, x2, x3, x4⟩ := x
  obtain ⟨y0, y1, y2, y3, y4⟩ := y
  have CC := fun x y w => Side.mk (Compare_at x y w)
  have hcell : ∀ o1 o2 : Obj, ((w.alloc o1).alloc o2).cell? ⟨gh, 0, none⟩ = some (.int .i64 2) := fun o1 o2 => by
    have h1 := (World.cell?_alloc_some w _ o1 (by rw [hc]; rfl)).trans hc
    exact (World.cell?_alloc_some _ _ o2 (by rw [h1]; rfl)).trans h1
  clear hc
  go_enter Try.func21, Try.ntmps21
  go_upto_region 2 with (fail)
  obtain ⟨W1, hW⟩ : ∃ W1, W1 = (w.alloc (.cells #[.int .i64 x0, .int .i64 x1, .int .i64 x2, .int .i64 x3, .int .i64 x4] 56)).alloc (.cells #[.int .i64 y0, .int .i64 y1, .int .i64 y2, .int .i64 y3, .int .i64 y4] 56) := ⟨_, rfl⟩
  have HB : Side (Below w.heap.size w W1) := ⟨by rw [hW]; exact ((Below.refl _ w).alloc (Nat.le_refl _) _).alloc (by simp) _⟩
  have a0 : W1.cell? ⟨w.heap.size, 0, none⟩ = some (.int .i64 x0) := by rw [hW]; go_simp
  have a1 : W1.cell? ⟨w.heap.size, 1, none⟩ = some (.int .i64 x1) := by rw [hW]; go_simp
  have a4 : W1.cell? ⟨w.heap.size, 4, none⟩ = some (.int .i64 x4) := by rw [hW]; go_simp
  have c0 : W1.cell? ⟨w.heap.size + 1, 0, none⟩ = some (.int .i64 y0) := by rw [hW]; go_simp
  have c1 : W1.cell? ⟨w.heap.size + 1, 1, none⟩ = some (.int .i64 y1) := by rw [hW]; go_simp
  have c4 : W1.cell? ⟨w.heap.size + 1, 4, none⟩ = some (.int .i64 y4) := by rw [hW]; go_simp
  rw [← hW]
  clear hW hcell
  generalize w.heap.size + 1 = q at *
  generalize hp : w.heap.size = p at *
  obtain ⟨O, hO⟩ : ∃ O : Obj, O = .cells #[.int .i64 (cmp3 x1 y1), .int .i64 (cmp3 x4 y4), .int .i64 (cmp3 x0 y0)] 3 := ⟨_, rfl⟩
  have s0 : (W1.drew.alloc O).cell? ⟨W1.heap.size, 0, none⟩ = some (.int .i64 (cmp3 x1 y1)) := by rw [hO]; exact (World.cell?_alloc_at _ _ _ _ rfl).trans rfl
  have s1 : (W1.drew.alloc O).cell? ⟨W1.heap.size, 1, none⟩ = some (.int .i64 (cmp3 x4 y4)) := by rw [hO]; exact (World.cell?_alloc_at _ _ _ _ rfl).trans rfl
  have s2 : (W1.drew.alloc O).cell? ⟨W1.heap.size, 2, none⟩ = some (.int .i64 (cmp3 x0 y0)) := by rw [hO]; exact (World.cell?_alloc_at _ _ _ _ rfl).trans rfl
  have HS := Side.mk (Or3_at W1.heap.size _ _ _ _ s0 s1 s2)
  have HO := Side.mk hO
  have HPp := Side.mk hp
  clear s0 s1 s2 hO hp
  refine start_ (n := 23) (S := fun w' => True) (ds := []) #[false, false, false, false, false, false, false, false, false, false, false, false, false, false, false, false, false, false, false, false, false, false, false] (by kernel_rfl) rfl rfl trivial (fun _ => ?_)
  refine inv_at (B := [0, 1, 3, 0, 8, 24, 63, 0, 128, 384, 0, 1024, 3072, 8191, 0, 16384, 0, 65536, 262143, 524287, 1048575, 2097151, 4194303]) [0, 1, 2, 3, 4, 5, 6, 7, 8, 9, 10, 11, 12, 13, 14, 15, 16, 17, 18, 19, 20, 21, 22] (fun a0_ b a w' => a = putSel a0_ b [(0, 12, .pointer (some ⟨p, 1, none⟩)), (1, 13, .pointer (some ⟨p, 1, none⟩)), (2, 14, .int .i64 x1), (3, 15, .pointer (some ⟨q, 1, none⟩)), (4, 16, .pointer (some ⟨q, 1, none⟩)), (5, 17, .int .i64 y1), (6, 18, .int .i64 (cmp3 x1 y1)), (7, 19, .pointer (some ⟨p, 1, none⟩)), (8, 20, .pointer (some ⟨p, 1 + 3, none⟩)), (9, 21, .int .i64 x4), (10, 22, .pointer (some ⟨q, 1, none⟩)), (11, 23, .pointer (some ⟨q, 1 + 3, none⟩)), (12, 24, .int .i64 y4), (13, 25, .int .i64 (cmp3 x4 y4)), (14, 26, .pointer (some ⟨p, 0, none⟩)), (15, 27, .int .i64 x0), (16, 28, .pointer (some ⟨q, 0, none⟩)), (17, 29, .int .i64 y0), (18, 30, .int .i64 (cmp3 x0 y0)), (19, 31, .slice (some ⟨W1.heap.size, 0, none⟩) 3 3), (20, 32, .int .i64 (or2 (or2 (cmp3 x1 y1) (cmp3 x4 y4)) (cmp3 x0 y0))), (21, 33, .bool (decide (or2 (or2 (cmp3 x1 y1) (cmp3 x4 y4)) (cmp3 x0 y0) < 0))), (22, 6, .bool (decide (or2 (or2 (cmp3 x1 y1) (cmp3 x4 y4)) (cmp3 x0 y0) < 0)))] ∧ One W1.drew (fun w' => w' = W1.drew.alloc O) 19 b w') rfl (by kernel_rfl) (by kernel_rfl) (by kernel_rfl) ?_ ?_ ?_
  · exact ⟨by simp only [putSel, Bool.false_eq_true, if_false], One.start⟩
  · refine steps_cons (by rintro b a w' ⟨ha, HI⟩ hb hon hoff; refine ⟨_, rfl, fun K hK => ?_⟩; have e4 := poff ha (t := 4) rfl rfl; obtain rfl := HI.n (hoff 19 rfl); exact value_ (v := .pointer (some ⟨p, 1, none⟩)) (by rfl) rfl (by clear HI ha; go_simp) (hK.out _ _ ⟨upk ha 0 hb rfl rfl, HI.low (by decide)⟩)) ?_
    refine steps_cons (by rintro b a w' ⟨ha, HI⟩ hb hon hoff; refine ⟨_, rfl, fun K hK => ?_⟩; have e12 := pon ha 0 (hon 0 rfl) rfl rfl rfl; obtain rfl := HI.n (hoff 19 rfl); exact value_ (v := .pointer (some ⟨p, 1, none⟩)) (by rfl) rfl (by clear HI ha; go_simp) (hK.out _ _ ⟨upk ha 1 hb rfl rfl, HI.low (by decide)⟩)) ?_
    refine steps_cons (by rintro b a w' ⟨ha, HI⟩ hb hon hoff; refine ⟨_, rfl, fun K hK => ?_⟩; have e13 := pon ha 1 (hon 1 rfl) rfl rfl rfl; obtain rfl := HI.n (hoff 19 rfl); exact value_ (v := .int .i64 x1) (by rfl) rfl (by clear HI ha; go_simp) (hK.out _ _ ⟨upk ha 2 hb rfl rfl, HI.low (by decide)⟩)) ?_
    refine steps_cons (by rintro b a w' ⟨ha, HI⟩ hb hon hoff; refine ⟨_, rfl, fun K hK => ?_⟩; have e5 := poff ha (t := 5) rfl rfl; obtain rfl := HI.n (hoff 19 rfl); exact value_ (v := .pointer (some ⟨q, 1, none⟩)) (by rfl) rfl (by clear HI ha; go_simp) (hK.out _ _ ⟨upk ha 3 hb rfl rfl, HI.low (by decide)⟩)) ?_
    refine steps_cons (by rintro b a w' ⟨ha, HI⟩ hb hon hoff; refine ⟨_, rfl, fun K hK => ?_⟩; have e15 := pon ha 3 (hon 3 rfl) rfl rfl rfl; obtain rfl := HI.n (hoff 19 rfl); exact value_ (v := .pointer (some ⟨q, 1, none⟩)) (by rfl) rfl (by clear HI ha; go_simp) (hK.out _ _ ⟨upk ha 4 hb rfl rfl, HI.low (by decide)⟩)) ?_
    refine steps_cons (by rintro b a w' ⟨ha, HI⟩ hb hon hoff; refine ⟨_, rfl, fun K hK => ?_⟩; have e16 := pon ha 4 (hon 4 rfl) rfl rfl rfl; obtain rfl := HI.n (hoff 19 rfl); exact value_ (v := .int .i64 y1) (by rfl) rfl (by clear HI ha; go_simp) (hK.out _ _ ⟨upk ha 5 hb rfl rfl, HI.low (by decide)⟩)) ?_
    refine steps_cons (by rintro b a w' ⟨ha, HI⟩ hb hon hoff; refine ⟨_, rfl, fun K hK => ?_⟩; have e14 := pon ha 2 (hon 2 rfl) rfl rfl rfl; have e17 := pon ha 5 (hon 5 rfl) rfl rfl rfl; obtain rfl := HI.n (hoff 19 rfl); refine goes_ Try.func23 (by kernel_rfl) rfl #[.int .i64 x1, .int .i64 y1] (by rfl) rfl rfl (by simp [Act.eval, e14, e17]) ((CC _ _ _).out.mono ?_); rintro e_ w'' ⟨rfl, rfl⟩; exact ⟨_, rfl, hK.out _ _ ⟨upk ha 6 hb rfl rfl, HI.low (by decide)⟩⟩) ?_
    refine steps_cons (by rintro b a w' ⟨ha, HI⟩ hb hon hoff; refine ⟨_, rfl, fun K hK => ?_⟩; have e4 := poff ha (t := 4) rfl rfl; obtain rfl := HI.n (hoff 19 rfl); exact value_ (v := .pointer (some ⟨p, 1, none⟩)) (by rfl) rfl (by clear HI ha; go_simp) (hK.out _ _ ⟨upk ha 7 hb rfl rfl, HI.low (by decide)⟩)) ?_
    refine steps_cons (by rintro b a w' ⟨ha, HI⟩ hb hon hoff; refine ⟨_, rfl, fun K hK => ?_⟩; have e19 := pon ha 7 (hon 7 rfl) rfl rfl rfl; obtain rfl := HI.n (hoff 19 rfl); exact value_ (v := .pointer (some ⟨p, 1 + 3, none⟩)) (by rfl) rfl (by clear HI ha; go_simp) (hK.out _ _ ⟨upk ha 8 hb rfl rfl, HI.low (by decide)⟩)) ?_
    refine steps_cons (by rintro b a w' ⟨ha, HI⟩ hb hon hoff; refine ⟨_, rfl, fun K hK => ?_⟩; have e20 := pon ha 8 (hon 8 rfl) rfl rfl rfl; obtain rfl := HI.n (hoff 19 rfl); exact value_ (v := .int .i64 x4) (by rfl) rfl (by clear HI ha; go_simp) (hK.out _ _ ⟨upk ha 9 hb rfl rfl, HI.low (by decide)⟩)) ?_
    refine steps_cons (by rintro b a w' ⟨ha, HI⟩ hb hon hoff; refine ⟨_, rfl, fun K hK => ?_⟩; have e5 := poff ha (t := 5) rfl rfl; obtain rfl := HI.n (hoff 19 rfl); exact value_ (v := .pointer (some ⟨q, 1, none⟩)) (by rfl) rfl (by clear HI ha; go_simp) (hK.out _ _ ⟨upk ha 10 hb rfl rfl, HI.low (by decide)⟩)) ?_
    refine steps_cons (by rintro b a w' ⟨ha, HI⟩ hb hon hoff; refine ⟨_, rfl, fun K hK => ?_⟩; have e22 := pon ha 10 (hon 10 rfl) rfl rfl rfl; obtain rfl := HI.n (hoff 19 rfl); exact value_ (v := .pointer (some ⟨q, 1 + 3, none⟩)) (by rfl) rfl (by clear HI ha; go_simp) (hK.out _ _ ⟨upk ha 11 hb rfl rfl, HI.low (by decide)⟩)) ?_
    refine steps_cons (by rintro b a w' ⟨ha, HI⟩ hb hon hoff; refine ⟨_, rfl, fun K hK => ?_⟩; have e23 := pon ha 11 (hon 11 rfl) rfl rfl rfl; obtain rfl := HI.n (hoff 19 rfl); exact value_ (v := .int .i64 y4) (by rfl) rfl (by clear HI ha; go_simp) (hK.out _ _ ⟨upk ha 12 hb rfl rfl, HI.low (by decide)⟩)) ?_
    refine steps_cons (by rintro b a w' ⟨ha, HI⟩ hb hon hoff; refine ⟨_, rfl, fun K hK => ?_⟩; have e21 := pon ha 9 (hon 9 rfl) rfl rfl rfl; have e24 := pon ha 12 (hon 12 rfl) rfl rfl rfl; obtain rfl := HI.n (hoff 19 rfl); refine goes_ Try.func23 (by kernel_rfl) rfl #[.int .i64 x4, .int .i64 y4] (by rfl) rfl rfl (by simp [Act.eval, e21, e24]) ((CC _ _ _).out.mono ?_); rintro e_ w'' ⟨rfl, rfl⟩; exact ⟨_, rfl, hK.out _ _ ⟨upk ha 13 hb rfl rfl, HI.low (by decide)⟩⟩) ?_
    refine steps_cons (by rintro b a w' ⟨ha, HI⟩ hb hon hoff; refine ⟨_, rfl, fun K hK => ?_⟩; have e4 := poff ha (t := 4) rfl rfl; obtain rfl := HI.n (hoff 19 rfl); exact value_ (v := .pointer (some ⟨p, 0, none⟩)) (by rfl) rfl (by clear HI ha; go_simp) (hK.out _ _ ⟨upk ha 14 hb rfl rfl, HI.low (by decide)⟩)) ?_
    refine steps_cons (by rintro b a w' ⟨ha, HI⟩ hb hon hoff; refine ⟨_, rfl, fun K hK => ?_⟩; have e26 := pon ha 14 (hon 14 rfl) rfl rfl rfl; obtain rfl := HI.n (hoff 19 rfl); exact value_ (v := .int .i64 x0) (by rfl) rfl (by clear HI ha; go_simp) (hK.out _ _ ⟨upk ha 15 hb rfl rfl, HI.low (by decide)⟩)) ?_
    refine steps_cons (by rintro b a w' ⟨ha, HI⟩ hb hon hoff; refine ⟨_, rfl, fun K hK => ?_⟩; have e5 := poff ha (t := 5) rfl rfl; obtain rfl := HI.n (hoff 19 rfl); exact value_ (v := .pointer (some ⟨q, 0, none⟩)) (by rfl) rfl (by clear HI ha; go_simp) (hK.out _ _ ⟨upk ha 16 hb rfl rfl, HI.low (by decide)⟩)) ?_
    refine steps_cons (by rintro b a w' ⟨ha, HI⟩ hb hon hoff; refine ⟨_, rfl, fun K hK => ?_⟩; have e28 := pon ha 16 (hon 16 rfl) rfl rfl rfl; obtain rfl := HI.n (hoff 19 rfl); exact value_ (v := .int .i64 y0) (by rfl) rfl (by clear HI ha; go_simp) (hK.out _ _ ⟨upk ha 17 hb rfl rfl, HI.low (by decide)⟩)) ?_
    refine steps_cons (by rintro b a w' ⟨ha, HI⟩ hb hon hoff; refine ⟨_, rfl, fun K hK => ?_⟩; have e27 := pon ha 15 (hon 15 rfl) rfl rfl rfl; have e29 := pon ha 17 (hon 17 rfl) rfl rfl rfl; obtain rfl := HI.n (hoff 19 rfl); refine goes_ Try.func23 (by kernel_rfl) rfl #[.int .i64 x0, .int .i64 y0] (by rfl) rfl rfl (by simp [Act.eval, e27, e29]) ((CC _ _ _).out.mono ?_); rintro e_ w'' ⟨rfl, rfl⟩; exact ⟨_, rfl, hK.out _ _ ⟨upk ha 18 hb rfl rfl, HI.low (by decide)⟩⟩) ?_
    refine steps_cons (by rintro b a w' ⟨ha, HI⟩ hb hon hoff; refine ⟨_, rfl, fun K hK => ?_⟩; have e18 := pon ha 6 (hon 6 rfl) rfl rfl rfl; have e25 := pon ha 13 (hon 13 rfl) rfl rfl rfl; have e30 := pon ha 18 (hon 18 rfl) rfl rfl rfl; obtain rfl := HI.n hb; exact value_ (w1 := W1.drew.alloc O) (v := .slice (some ⟨W1.heap.size, 0, none⟩) 3 3) (by rfl) rfl (by rw [HO.out]; clear HI ha; go_simp) (hK.out _ _ ⟨upk ha 19 hb rfl rfl, One.set rfl⟩)) ?_
    refine steps_cons (by rintro b a w' ⟨ha, HI⟩ hb hon hoff; refine ⟨_, rfl, fun K hK => ?_⟩; have e31 := pon ha 19 (hon 19 rfl) rfl rfl rfl; obtain rfl := HI.y (hon 19 rfl); refine goes_ Try.func22 (by kernel_rfl) rfl #[.slice (some ⟨W1.heap.size, 0, none⟩) 3 3] (by rfl) rfl rfl (by simp [Act.eval, e31]) (HS.out.mono ?_); rintro e_ w'' ⟨rfl, rfl⟩; exact ⟨_, rfl, hK.out _ _ ⟨upk ha 20 hb rfl rfl, HI.low (by decide)⟩⟩) ?_
    refine steps_cons (by rintro b a w' ⟨ha, HI⟩ hb hon hoff; refine ⟨_, rfl, fun K hK => ?_⟩; have e32 := pon ha 20 (hon 20 rfl) rfl rfl rfl; skip; exact value_ (v := .bool (decide (or2 (or2 (cmp3 x1 y1) (cmp3 x4 y4)) (cmp3 x0 y0) < 0))) (by rfl) rfl (by clear HI ha; go_simp) (hK.out _ _ ⟨upk ha 21 hb rfl rfl, HI.low (by decide)⟩)) ?_
    refine steps_cons (by rintro b a w' ⟨ha, HI⟩ hb hon hoff; refine ⟨_, rfl, fun K hK => ?_⟩; have e33 := pon ha 21 (hon 21 rfl) rfl rfl rfl; skip; exact value_ (v := .bool (decide (or2 (or2 (cmp3 x1 y1) (cmp3 x4 y4)) (cmp3 x0 y0) < 0))) (by rfl) rfl (by clear HI ha; go_simp) (hK.out _ _ ⟨upk ha 22 hb rfl rfl, HI.low (by decide)⟩)) ?_
    exact steps_nil
  · rintro b a w' hall ⟨ha, HI⟩
    have hb0_ := hall 0 rfl; have hb1_ := hall 1 rfl; have hb2_ := hall 2 rfl; have hb3_ := hall 3 rfl; have hb4_ := hall 4 rfl; have hb5_ := hall 5 rfl; have hb6_ := hall 6 rfl; have hb7_ := hall 7 rfl
    have hb8_ := hall 8 rfl; have hb9_ := hall 9 rfl; have hb10_ := hall 10 rfl; have hb11_ := hall 11 rfl; have hb12_ := hall 12 rfl; have hb13_ := hall 13 rfl; have hb14_ := hall 14 rfl; have hb15_ := hall 15 rfl
    have hb16_ := hall 16 rfl; have hb17_ := hall 17 rfl; have hb18_ := hall 18 rfl; have hb19_ := hall 19 rfl; have hb20_ := hall 20 rfl; have hb21_ := hall 21 rfl; have hb22_ := hall 22 rfl
    subst ha
    simp only [putSel, hb0_, hb1_, hb2_, hb3_, hb4_, hb5_, hb6_, hb7_, hb8_, hb9_, hb10_, hb11_, hb12_, hb13_, hb14_, hb15_, hb16_, hb17_, hb18_, hb19_, hb20_, hb21_, hb22_, if_true, Act.put, List.setIfInBounds_toArray, List.set_cons_zero, List.set_cons_succ]
    obtain rfl := HI.y hb19_
    clear hall HI hb0_ hb1_ hb2_ hb3_ hb4_ hb5_ hb6_ hb7_ hb8_ hb9_ hb10_ hb11_ hb12_ hb13_ hb14_ hb15_ hb16_ hb17_ hb18_ hb19_ hb20_ hb21_ hb22_
    refine ‹∀ (a : Act) (w : World), Code.wp Try.prog _ _ a w → _› _ _ ?_
    go_wp2
    go_ret
    exact ⟨ret_bool HL.out.symm, by have h := HB.out; rw [← HPp.out] at h; first | exact below_drew (h.alloc h.size _) | exact (below_drew h).alloc h.size _⟩
set_option maxHeartbeats 4000000 in
set_option maxRecDepth 100000 in
theorem less_rank (w : World) (gh : Nat) (kind : Int) (hk : ¬ kind = 2) (x y : It) (hc : w.cell? ⟨gh, 0, none⟩ = some (.int .i64 kind)) (hg : gh < w.heap.size) :
    Calls Try.prog 21 #[.pointer (some ⟨gh, 0, none⟩), vl x, vl y] w fun r w' => r = .returned (.bool (lt kind x y)) ∧ Below w.heap.size w w' := by
  obtain ⟨x0, x1, x2, x3, x4⟩ := x
  obtain ⟨y0, y1, y2, y3, y4⟩ := y
  have CX : ∀ w, Side (Calls Try.prog 24 #[.agg #[.int .i64 x1, .int .i64 x2, .int .i64 x3, .int .i64 x4], .agg #[.int .i64 y1, .int .i64 y2, .int .i64 y3, .int .i64 y4]] w fun r w' => r = .returned (.bool (decide (rcmp ⟨x1, x2, x3, x4⟩ ⟨y1, y2, y3, y4⟩ < 0))) ∧ Below w.heap.size w w') := fun w => ⟨Less_at ⟨x1, x2, x3, x4⟩ ⟨y1, y2, y3, y4⟩ w⟩
  have CY : ∀ w, Side (Calls Try.prog 24 #[.agg #[.int .i64 y1, .int .i64 y2, .int .i64 y3, .int .i64 y4], .agg #[.int .i64 x1, .int .i64 x2, .int .i64 x3, .int .i64 x4]] w fun r w' => r = .returned (.bool (decide (rcmp ⟨y1, y2, y3, y4⟩ ⟨x1, x2, x3, x4⟩ < 0))) ∧ Below w.heap.size w w') := fun w => ⟨Less_at ⟨y1, y2, y3, y4⟩ ⟨x1, x2, x3, x4⟩ w⟩
  have hcase : (decide (rcmp ⟨x1, x2, x3, x4⟩ ⟨y1, y2, y3, y4⟩ < 0) = true ∧ Side (lt kind (x0, x1, x2, x3, x4) (y0, y1, y2, y3, y4) = true)) ∨ (decide (rcmp ⟨x1, x2, x3, x4⟩ ⟨y1, y2, y3, y4⟩ < 0) = false ∧ decide (rcmp ⟨y1, y2, y3, y4⟩ ⟨x1, x2, x3, x4⟩ < 0) = true ∧ Side (lt kind (x0, x1, x2, x3, x4) (y0, y1, y2, y3, y4) = false)) ∨ (decide (rcmp ⟨x1, x2, x3, x4⟩ ⟨y1, y2, y3, y4⟩ < 0) = false ∧ decide (rcmp ⟨y1, y2, y3, y4⟩ ⟨x1, x2, x3, x4⟩ < 0) = false ∧ Side (lt kind (x0, x1, x2, x3, x4) (y0, y1, y2, y3, y4) = decide (x0 < y0))) := lt_cases kind hk (x0, x1, x2, x3, x4) (y0, y1, y2, y3, y4)
  have hcell : ∀ o1 o2 : Obj, ((w.alloc o1).alloc o2).cell? ⟨gh, 0, none⟩ = some (.int .i64 kind) := fun o1 o2 => by
    have h1 := (World.cell?_alloc_some w _ o1 (by rw [hc]; rfl)).trans hc
    exact (World.cell?_alloc_some _ _ o2 (by rw [h1]; rfl)).trans h1
  have hkb : (kind == 2) = false := by simpa using hk
  generalize rcmp ⟨x1, x2, x3, x4⟩ ⟨y1, y2, y3, y4⟩ = c at *
  generalize rcmp ⟨y1, y2, y3, y4⟩ ⟨x1, x2, x3, x4⟩ = d at *
  clear hc hk
  generalize lt kind (x0, x1, x2, x3, x4) (y0, y1, y2, y3, y4) = res at *
  obtain ⟨W1, hW⟩ : ∃ W1, W1 = (w.alloc (.cells #[.int .i64 x0, .int .i64 x1, .int .i64 x2, .int .i64 x3, .int .i64 x4] 56)).alloc (.cells #[.int .i64 y0, .int .i64 y1, .int .i64 y2, .int .i64 y3, .int .i64 y4] 56) := ⟨_, rfl⟩
  have HB : Side (Below w.heap.size w W1) := ⟨by rw [hW]; exact ((Below.refl _ w).alloc (Nat.le_refl _) _).alloc (by simp) _⟩
  have HW := Side.mk hW
  clear hW
  have cellX : ∀ w2, Below W1.heap.size W1 w2 → ∀ r v, (cl (x0, x1, x2, x3, x4))[r]? = some v → w2.cell? ⟨w.heap.size, r, none⟩ = some v := fun w2 hb r v hr => by
    refine (hb.cell (p := ⟨w.heap.size, r, none⟩) (by rw [HW.out]; simp; omega)).trans ?_
    rw [HW.out]
    have h0 : (w.alloc (.cells #[.int .i64 x0, .int .i64 x1, .int .i64 x2, .int .i64 x3, .int .i64 x4] 56)).cell? ⟨w.heap.size, r, none⟩ = some v := (World.cell?_alloc_at _ _ _ _ rfl).trans (by simpa [cl] using hr)
    exact (World.cell?_alloc_some _ _ _ (by rw [h0]; rfl)).trans h0
  have cellY : ∀ w2, Below W1.heap.size W1 w2 → ∀ r v, (cl (y0, y1, y2, y3, y4))[r]? = some v → w2.cell? ⟨w.heap.size + 1, r, none⟩ = some v := fun w2 hb r v hr => by
    refine (hb.cell (p := ⟨w.heap.size + 1, r, none⟩) (by rw [HW.out]; simp)).trans ?_
    rw [HW.out]
    exact (World.cell?_alloc_at _ _ _ _ (by simp)).trans (by simpa [cl] using hr)
  have FX := Side.mk cellX
  have FY := Side.mk cellY
  clear cellX cellY
  rcases hcase with ⟨b1, RR⟩ | ⟨b1, b2, RR⟩ | ⟨b1, b2, RR⟩
  · go_enter Try.func21, Try.ntmps21
    go_wp2_with fail
    refine (CX _).out.mono ?_
    rintro e w2 ⟨rfl, hb⟩
    rw [← HW.out] at hb
    have HB2 := Side.mk hb
    have u0 := FX.out w2 hb 1 _ rfl
    have u1 := FX.out w2 hb 2 _ rfl
    have u2 := FX.out w2 hb 3 _ rfl
    have u3 := FX.out w2 hb 4 _ rfl
    have v0 := FY.out w2 hb 1 _ rfl
    have v1 := FY.out w2 hb 2 _ rfl
    have v2 := FY.out w2 hb 3 _ rfl
    have v3 := FY.out w2 hb 4 _ rfl
    clear hb
    go_wp2_with fail
    refine (CX _).out.mono ?_
    rintro e w3 ⟨rfl, hb⟩
    have HB3 := Side.mk (below_then HB2.out HB2.out.size hb)
    clear hb
    go_wp2
    go_ret
    exact ⟨ret_bool (by rw [RR.out]), below_then HB.out HB.out.size HB3.out⟩
  · go_enter Try.func21, Try.ntmps21
    go_wp2_with fail
    refine (CX _).out.mono ?_
    rintro e w2 ⟨rfl, hb⟩
    rw [← HW.out] at hb
    have HB2 := Side.mk hb
    have u0 := FX.out w2 hb 1 _ rfl
    have u1 := FX.out w2 hb 2 _ rfl
    have u2 := FX.out w2 hb 3 _ rfl
    have u3 := FX.out w2 hb 4 _ rfl
    have v0 := FY.out w2 hb 1 _ rfl
    have v1 := FY.out w2 hb 2 _ rfl
    have v2 := FY.out w2 hb 3 _ rfl
    have v3 := FY.out w2 hb 4 _ rfl
    clear hb
    go_wp2_with fail
    refine (CY _).out.mono ?_
    rintro e w3 ⟨rfl, hb⟩
    have HB3 := Side.mk (below_then HB2.out HB2.out.size hb)
    clear u0 u1 u2 u3 v0 v1 v2 v3 hb
    have u0 := FX.out w3 HB3.out 1 _ rfl
    have u1 := FX.out w3 HB3.out 2 _ rfl
    have u2 := FX.out w3 HB3.out 3 _ rfl
    have u3 := FX.out w3 HB3.out 4 _ rfl
    have v0 := FY.out w3 HB3.out 1 _ rfl
    have v1 := FY.out w3 HB3.out 2 _ rfl
    have v2 := FY.out w3 HB3.out 3 _ rfl
    have v3 := FY.out w3 HB3.out 4 _ rfl
    go_wp2_with fail
    refine (CX _).out.mono ?_
    rintro e w4 ⟨rfl, hb⟩
    have HB4 := Side.mk (below_then HB3.out HB3.out.size hb)
    clear hb
    go_wp2
    go_ret
    exact ⟨ret_bool (by rw [RR.out]), below_then HB.out HB.out.size HB4.out⟩
  · go_enter Try.func21, Try.ntmps21
    go_wp2_with fail
    refine (CX _).out.mono ?_
    rintro e w2 ⟨rfl, hb⟩
    rw [← HW.out] at hb
    have HB2 := Side.mk hb
    have u0 := FX.out w2 hb 1 _ rfl
    have u1 := FX.out w2 hb 2 _ rfl
    have u2 := FX.out w2 hb 3 _ rfl
    have u3 := FX.out w2 hb 4 _ rfl
    have v0 := FY.out w2 hb 1 _ rfl
    have v1 := FY.out w2 hb 2 _ rfl
    have v2 := FY.out w2 hb 3 _ rfl
    have v3 := FY.out w2 hb 4 _ rfl
    clear hb
    go_wp2_with fail
    refine (CY _).out.mono ?_
    rintro e w3 ⟨rfl, hb⟩
    have HB3 := Side.mk (below_then HB2.out HB2.out.size hb)
    clear u0 u1 u2 u3 v0 v1 v2 v3 hb
    have u0 := FX.out w3 HB3.out 0 _ rfl
    have v0 := FY.out w3 HB3.out 0 _ rfl
    go_wp2
    go_ret
    exact ⟨ret_bool RR.out.symm, below_then HB.out HB.out.size HB3.out⟩
theorem less_at (w : World) (gh : Nat) (kind : Int) (x y : It) (hc : w.cell? ⟨gh, 0, none⟩ = some (.int .i64 kind)) (hg : gh < w.heap.size) :
    Calls Try.prog 21 #[.pointer (some ⟨gh, 0, none⟩), vl x, vl y] w fun r w' => r = .returned (.bool (lt kind x y)) ∧ Below w.heap.size w w' := by
  by_cases hk : kind = 2
  · subst hk; exact less_time w gh x y hc hg
  · exact less_rank w gh kind hk x y hc hg
end Go.Proofs.Ytiebpmbongmgkaa.HpD

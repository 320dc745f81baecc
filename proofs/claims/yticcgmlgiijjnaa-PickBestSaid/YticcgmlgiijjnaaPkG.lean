/- The law PickAlone, walked by hand. No condition. -/
import Derived.Test.YticcgmlgiijjnaaPkF
set_option linter.unusedVariables false
set_option linter.unusedSimpArgs false
namespace Go.Proofs.Yticcgmlgiijjnaa.PkG
open Go.RowKit Go.Proofs.Yticcgmlgiijjnaa.Kit Go.Proofs.Yticcgmlgiijjnaa.Kit2 Go.Proofs.Yticcgmlgiijjnaa.Kit3 Go.Proofs.Yticcgmlgiijjnaa.Kit4 Go.Proofs.Yticcgmlgiijjnaa.Kit5 HpPlain Go.Maps EvPlain Go.Proofs.Yticcgmlgiijjnaa.HpA Go.Proofs.Yticcgmlgiijjnaa.HpB Go.Proofs.Yticcgmlgiijjnaa.HpK Go.Proofs.Yticcgmlgiijjnaa.Win Go.Proofs.Yticcgmlgiijjnaa.Rank Go.Proofs.Yticcgmlgiijjnaa.Cmp Go.Proofs.Yticcgmlgiijjnaa.PkPlain Go.Proofs.Yticcgmlgiijjnaa.PkA Go.Proofs.Yticcgmlgiijjnaa.PkB Go.Proofs.Yticcgmlgiijjnaa.PkC Go.Proofs.Yticcgmlgiijjnaa.PkD Go.Proofs.Yticcgmlgiijjnaa.PkF
theorem ids_one (f : Nat → Tk) (c : Int) (y : Bool) : ids f 1 c (1 : Int).toNat y = if can (f 0) c y = true then [(f 0).id] else [] := by
  have h0 : on0 f c y 0 = can (f 0) c y := by unfold on0 fresh; simp
  have hb : bst (on0 f c y) f 1 = if can (f 0) c y = true then 0 else -1 := by
    unfold bst
    have : tst (on0 f c y) f 0 (bst (on0 f c y) f 0) = can (f 0) c y := by unfold tst bst; rw [h0]; simp
    rw [this]; rfl
  unfold ids
  rw [show (1 : Int).toNat = 0 + 1 from rfl]
  by_cases h : can (f 0) c y = true
  · rw [if_pos h] at hb ⊢
    rw [picks_some (q := 0) hb]
    simp [picks]
  · rw [if_neg h] at hb ⊢
    rw [picks_none hb]
    rfl
/-- The one task, with what it got. -/
abbrev one (e p got : Int) : Tk := ⟨3, e, p, false, false, false, true, 7, got, false, 0⟩
theorem rel_succ {e p i : Int} (h : T e p i) : rel e p i + 1 ≤ rel e p (i + 1) := by
  unfold rel
  have he := h.e1
  have h2 : (i + 1 - 1) * p = (i - 1) * p + p := by
    rw [show i + 1 - 1 = (i - 1) + 1 by omega, Int.add_mul, Int.one_mul]
  rw [h2]
  have h3 : ((i - 1) * p + e) / e = (i - 1) * p / e + 1 := Int.add_ediv_of_dvd_right (Int.dvd_refl e) |>.trans (by rw [Int.ediv_self (by omega)])
  rw [← h3]
  exact Int.ediv_le_ediv (by omega) (by have := h.ep; omega)
/-- What has been given by a clock. -/
structure Inv (e p : Int) (y : Bool) (s : Nat) (got : Int) : Prop where
  g0 : 0 ≤ got
  ge : got ≤ e
  ey : y = true → got = min e s
  en : y = false → got = e ∨ (s : Int) ≤ rel e p (got + 1)
theorem Inv.start {e p : Int} {y : Bool} (he : 1 ≤ e) : Inv e p y 0 0 := ⟨by omega, by omega, fun _ => by omega, fun _ => .inr (by unfold rel; simp)⟩
theorem can_one {e p got : Int} (he : 1 ≤ e ∧ e ≤ p ∧ p ≤ 1048575) (h0 : 0 ≤ got) (y : Bool) (s : Nat) : can (one e p got) (7 + s) y = (decide (got < e) && (y || decide (rel e p (got + 1) ≤ s))) := by
  unfold can
  by_cases h : got < e
  · have hn : nx (one e p got) := ⟨rfl, h, ⟨he.1, he.2.1, he.2.2, by show 1 ≤ got + 1; omega, by show got + 1 ≤ e; omega⟩⟩
    have h2 : decide ((one e p got).r + rel (one e p got).e (one e p got).p ((one e p got).g + 1) ≤ 7 + s) = decide (rel e p (got + 1) ≤ s) := decide_eq_decide.2 (by show 7 + rel e p (got + 1) ≤ 7 + s ↔ _; omega)
    rw [decide_eq_true hn, decide_eq_true h, decide_eq_true (show (one e p got).r ≤ 7 + s by show (7 : Int) ≤ 7 + s; omega), h2]
    simp
  · have hn : ¬ nx (one e p got) := fun hn => h hn.2.1
    rw [decide_eq_false hn, decide_eq_false h]
    simp
theorem Inv.yes {e p got : Int} {y : Bool} {s : Nat} (he : 1 ≤ e ∧ e ≤ p ∧ p ≤ 1048575) (h : Inv e p y s got) (hc : can (one e p got) (7 + s) y = true) : Inv e p y (s + 1) (got + 1) := by
  rw [can_one he h.g0] at hc
  simp only [Bool.and_eq_true, decide_eq_true_eq, Bool.or_eq_true] at hc
  have hg := h.g0
  refine ⟨by omega, by omega, fun hy => ?_, fun hy => ?_⟩
  · have := h.ey hy
    omega
  · rcases h.en hy with h1 | h1
    · omega
    · by_cases h2 : got + 1 = e
      · exact .inl h2
      · have hT : T e p (got + 1) := ⟨he.1, he.2.1, he.2.2, by omega, by omega⟩
        have := rel_succ hT
        rw [show got + 1 + 1 = (got + 1) + 1 by omega] at this
        exact .inr (by omega)
theorem Inv.no {e p got : Int} {y : Bool} {s : Nat} (he : 1 ≤ e ∧ e ≤ p ∧ p ≤ 1048575) (h : Inv e p y s got) (hc : can (one e p got) (7 + s) y = false) : Inv e p y (s + 1) got := by
  rw [can_one he h.g0] at hc
  have hg := h.ge
  refine ⟨h.g0, h.ge, fun hy => ?_, fun hy => ?_⟩
  · subst hy
    have := h.ey rfl
    simp at hc
    omega
  · subst hy
    by_cases h2 : got = e
    · exact .inl h2
    · rcases h.en rfl with h1 | h1
      · exact .inl h1
      · simp at hc
        have := hc (by omega)
        exact .inr (by omega)
theorem Inv.fin {e p got : Int} {y : Bool} {s : Nat} (he : 1 ≤ e ∧ e ≤ p ∧ p ≤ 1048575) (h : Inv e p y s got) (hs : (s : Int) = p) : got = e := by
  cases y
  · rcases h.en rfl with h1 | h1
    · exact h1
    · by_cases h2 : got = e
      · exact h2
      · have hT : T e p (got + 1) := ⟨he.1, he.2.1, he.2.2, by have := h.g0; omega, by have := h.ge; omega⟩
        have := hT.rel_le
        omega
  · have := h.ey rfl
    omega
theorem Val.set {w : World} {T p : Nat} {c : List Value} (h : Val w T p c) (i : Nat) (v : Value) : Val (w.setCell ⟨p, i, none⟩ v) T p (c.set i v) := by
  obtain ⟨cs, rfl, h2⟩ := h
  exact ⟨_, by simp, blk_set h2 i v⟩
structure Lp (W : World) (b : Nat) (e p got : Int) (w : World) : Prop where
  below : Below W.heap.size W w
  base : W.heap.size ≤ b
  vl : Val w 26 b (tcl (one e p got))
theorem Lp.step {W w w' : World} {b : Nat} {e p got : Int} (h : Lp W b e p got w) (hb : Below w.heap.size w w') : Lp W b e p got w' := ⟨below_then h.below h.below.size hb, h.base, h.vl.below hb⟩
theorem Lp.up {W w : World} {b : Nat} {e p got : Int} (h : Lp W b e p got w) : Lp W b e p (got + 1) (w.setCell ⟨b, 8, none⟩ (.int .i64 (got + 1))) := ⟨Below.setCell h.below h.base _, h.base, Val.set h.vl 8 _⟩
set_option maxHeartbeats 8000000 in
set_option maxRecDepth 100000 in
theorem walk (e p : Int) (y : Bool) (w : World) (we : (Lit.int .i64 e).wf = true) (wp : (Lit.int .i64 p).wf = true) : Calls Try.prog 7 #[.int .i64 e, .int .i64 p, .bool y] w fun r w' => r = .returned (.bool true) ∧ Below w.heap.size w w' := by
  have TM := fun w => Side.mk (TaskMay_at e p w)
  by_cases he : 1 ≤ e ∧ e ≤ p ∧ p ≤ 1048575
  case neg =>
    rw [decide_eq_false he] at TM
    clear he we wp
    go_enter Try.func7, Try.ntmps7
    go_wp2_with fail
    refine (awake_at _).mono ?_
    rintro e w0 ⟨rfl, hb0⟩
    have HB0 := Side.mk hb0
    clear hb0
    go_wp2_with fail
    refine (TM _).out.mono ?_
    rintro x w' ⟨rfl, n, rfl⟩
    go_wp2
    go_ret
    exact ⟨rfl, below_drewN HB0.out n⟩
  rw [decide_eq_true he] at TM
  by_cases hbig : 300 < p
  · clear he we wp
    go_enter Try.func7, Try.ntmps7
    go_wp2_with fail
    refine (awake_at _).mono ?_
    rintro e w0 ⟨rfl, hb0⟩
    have HB0 := Side.mk hb0
    clear hb0
    go_wp2_with fail
    refine (TM _).out.mono ?_
    rintro x w' ⟨rfl, n, rfl⟩
    go_wp2
    go_ret
    exact ⟨rfl, below_drewN HB0.out n⟩
  have e1 := he.1
  have e2 := he.2.1
  have HE := Side.mk he
  clear he we wp
  go_enter Try.func7, Try.ntmps7
  go_wp2_with fail
  refine (awake_at _).mono ?_
  rintro x w0 ⟨rfl, hb0⟩
  have HB0 := Side.mk hb0
  clear hb0
  go_wp2_with fail
  refine (TM _).out.mono ?_
  rintro x w' ⟨rfl, n, rfl⟩
  have HB1 := Side.mk (below_drewN HB0.out n)
  clear HB0 TM
  generalize w0.drewN n = w1 at *
  go_upto_region 6 with (fail)
  obtain ⟨b, hb⟩ : ∃ b, b = w1.heap.size := ⟨_, rfl⟩
  obtain ⟨W2, hW2⟩ : ∃ W2, W2 = w1.alloc (.cells #[.int .i64 3, .int .i64 e, .int .i64 p, .bool false, .bool false, .bool false, .bool true, .int .i64 7, .int .i64 0, .bool false, .int .i64 0] 26) := ⟨_, rfl⟩
  have HL : Side (Lp w b e p 0 W2) := ⟨⟨by rw [hW2]; exact HB1.out.alloc HB1.out.size _, by rw [hb]; exact HB1.out.size, ⟨_, rfl, by rw [hW2, hb]; exact heap_alloc_new w1 _⟩⟩⟩
  rw [← hW2, ← hb]
  clear hW2 hb HB1
  go_wp2_with fail
  go_loopw [8] (fun v8 wr => ∃ (s : Nat) (got : Int), v8 = .int .i64 (7 + s) ∧ (s : Int) ≤ p ∧ Side (Inv e p y s got) ∧ Side (Lp w b e p got wr)) (fun v8 _ => (7 + p - intOf v8).toNat)
  case atStart => exact ⟨0, 0, rfl, by simp; omega, ⟨Inv.start e1⟩, HL⟩
  case round =>
    clear HL
    obtain ⟨s, got, rfl, hs, HV, HL⟩ := hrel
    have hs0 : (0 : Int) ≤ s := by omega
    obtain ⟨wq, hwq⟩ : ∃ wq : World, wq = wr := ⟨_, rfl⟩
    rw [← hwq] at HL ⊢
    clear hwq
    have hg0 := HV.out.g0
    have hge := HV.out.ge
    by_cases hlt : (s : Int) < p
    · have hlt7 : 7 + (s : Int) < 7 + p := by omega
      have V := Side.mk HL.out.vl
      have hbl := V.out.lt
      have u0 : wq.cell? ⟨b, 0, none⟩ = some (.int .i64 3) := V.out.cell 0 _ rfl
      have u1 : wq.cell? ⟨b, 1, none⟩ = some (.int .i64 e) := V.out.cell 1 _ rfl
      have u2 : wq.cell? ⟨b, 2, none⟩ = some (.int .i64 p) := V.out.cell 2 _ rfl
      have u3 : wq.cell? ⟨b, 3, none⟩ = some (.bool false) := V.out.cell 3 _ rfl
      have u4 : wq.cell? ⟨b, 4, none⟩ = some (.bool false) := V.out.cell 4 _ rfl
      have u5 : wq.cell? ⟨b, 5, none⟩ = some (.bool false) := V.out.cell 5 _ rfl
      have u6 : wq.cell? ⟨b, 6, none⟩ = some (.bool true) := V.out.cell 6 _ rfl
      have u7 : wq.cell? ⟨b, 7, none⟩ = some (.int .i64 7) := V.out.cell 7 _ rfl
      have u8 : wq.cell? ⟨b, 8, none⟩ = some (.int .i64 got) := V.out.cell 8 _ rfl
      have u9 : wq.cell? ⟨b, 9, none⟩ = some (.bool false) := V.out.cell 9 _ rfl
      have u10 : wq.cell? ⟨b, 10, none⟩ = some (.int .i64 0) := V.out.cell 10 _ rfl
      go_wp2_with fail
      have HQ : QRow (wq.alloc (.cells #[.int .i64 3, .int .i64 e, .int .i64 p, .bool false, .bool false, .bool false, .bool true, .int .i64 7, .int .i64 got, .bool false, .int .i64 0] 26)) (some ⟨wq.heap.size, 0, none⟩) [one e p got] := ⟨fun j hj => ⟨wq.heap.size, 0, rfl, by simp, fun r u hr => by
        refine (World.cell?_alloc_at _ _ _ _ rfl).trans ?_
        obtain rfl : j = 0 := by simpa using hj
        match r, hr with
        | 0, hr | 1, hr | 2, hr | 3, hr | 4, hr | 5, hr | 6, hr | 7, hr | 8, hr | 9, hr | 10, hr => exact hr
        | r + 11, hr => exact absurd hr (by simp [tcl])⟩⟩
      refine (Rows_at _ 1 [one e p got] _ HQ (by simp)).mono ?_
      rintro x w2 ⟨v2, rfl, hr2, hb2⟩
      have L2 := Side.mk ((HL.out.step ((Below.refl _ _).alloc (Nat.le_refl _) _)).step hb2)
      have HR2 := Side.mk hr2
      obtain ⟨a2, c2, rfl, -, -⟩ := HR2.out.shape E11
      have IO := ids_one (PkB.at_ [one e p got]) (7 + s) y
      have HFT : Side (∀ i, i < [one e p got].length → Fit (PkB.at_ [one e p got] i)) := ⟨fun i hi => by
        obtain rfl : i = 0 := by simpa using hi
        exact ⟨by show (-9223372036854775808 : Int) ≤ got; omega, by show e ≤ 9223372036854775807; omega, by show (-1099511627776 : Int) ≤ 7; decide, by show (7 : Int) ≤ 1099511627776; decide⟩⟩
      have HWF : Side (∀ i, i < [one e p got].length → (kv (PkB.at_ [one e p got] i).id).wf = true) := ⟨fun i hi => by
        obtain rfl : i = 0 := by simpa using hi
        show (kv 3).wf = true
        decide⟩
      clear hr2 hb2 HQ V HL u0 u1 u2 u3 u4 u5 u6 u7 u8 u9 u10 hbl
      go_wp2_with fail
      refine (Best_at _ _ _ [one e p got] (7 + s) 1 y _ (GRow.lower HR2.out (Nat.zero_le _)) (by simp) HFT.out HWF.out).mono ?_
      rintro x w3 ⟨v, rfl, hr3, hb3⟩
      rw [show [one e p got].length = 1 from rfl, IO] at hr3
      have L3 := Side.mk (L2.out.step hb3)
      have V3 := Side.mk L3.out.vl
      have hbl := V3.out.lt
      have hbf : w3.frozen? ⟨b, 8, none⟩ = false := by
        obtain ⟨cs, _, hh⟩ := V3.out
        exact Go.Proofs.YticcgmlgiijjnaaW.PrintWords.blk_frozen hh 8
      clear HR2 L2 HFT HWF IO hb3
      cases hc : can (one e p got) (7 + s) y
      · rw [show PkB.at_ [one e p got] 0 = one e p got from rfl, hc, if_neg (by decide)] at hr3
        obtain ⟨a3, c3, rfl, -, -⟩ := hr3.shape E1
        have HN := Side.mk (HV.out.no HE.out hc)
        rw [can_one HE.out HV.out.g0] at hc
        have HL3 := Side.mk L3.out
        by_cases hge2 : got < e
        · rw [decide_eq_true hge2, Bool.true_and] at hc
          cases y
          · rw [Bool.false_or] at hc
            have hr : ¬ rel e p (got + 1) ≤ s := of_decide_eq_false hc
            clear hc hr3 L3
            have c8 := V3.out.cell 8 _ rfl
            obtain ⟨q, hq⟩ : ∃ q, q = rel e p (got + 1) := ⟨_, rfl⟩
            have hT : T e p (got + 1) := ⟨HE.out.1, HE.out.2.1, HE.out.2.2, by omega, by omega⟩
            have WI := fun w => Side.mk (Window_at e p (got + 1) q _ _ _ w hT hq rfl rfl rfl)
            rw [← hq] at hr
            have hqb := hT.rel_le
            rw [← hq] at hqb
            clear hq hT
            generalize dead e p (got + 1) = dv at *
            generalize bit e p (got + 1) = bv at *
            generalize group e p (got + 1) = gv at *
            clear V3
            go_wp2_with fail
            refine (WI _).out.mono ?_
            rintro x w4 ⟨rfl, n4, rfl⟩
            go_wp2
            go_roundw
            case rel => exact ⟨s + 1, got, by rw [show (7 : Int) + ((s + 1 : Nat) : Int) = 7 + s + 1 by omega], by omega, HN, ⟨HL3.out.step (below_drewN (Below.refl _ _) n4)⟩⟩
            case measure => simp [intOf]; omega
          · simp at hc
        · clear hc hr3 L3
          cases y
          · clear hbf
            have c8 := V3.out.cell 8 _ rfl
            clear V3
            go_wp2
            go_roundw
            case rel => exact ⟨s + 1, got, by rw [show (7 : Int) + ((s + 1 : Nat) : Int) = 7 + s + 1 by omega], by omega, HN, HL3⟩
            case measure => simp [intOf]; omega
          · have hmin := HN.out.ey rfl
            clear hbf
            have c8 := V3.out.cell 8 _ rfl
            clear V3
            go_wp2
            go_roundw
            case rel => exact ⟨s + 1, got, by rw [show (7 : Int) + ((s + 1 : Nat) : Int) = 7 + s + 1 by omega], by omega, HN, HL3⟩
            case measure => simp [intOf]; omega
      · rw [show PkB.at_ [one e p got] 0 = one e p got from rfl, hc, if_pos rfl] at hr3
        obtain ⟨a3, c3, rfl, -, -⟩ := hr3.shape E1
        obtain ⟨g3, rfl, hg3, -, h30⟩ := IRow.get hr3 0 3 rfl
        have HN := Side.mk (HV.out.yes HE.out hc)
        rw [can_one HE.out HV.out.g0] at hc
        have HL3 := Side.mk L3.out
        have hge2 : got < e := by
          by_cases h : got < e
          · exact h
          · rw [decide_eq_false h, Bool.false_and] at hc; cases hc
        have hg1 : got + 1 ≤ 9223372036854775807 := by omega
        have hg3b : g3 ≠ b := by
          rintro rfl
          obtain ⟨cs, _, hh⟩ := V3.out
          obtain ⟨cur, h2⟩ := GRow.cells hr3 g3 rfl
          rw [hh] at h2
          simp at h2
        rw [decide_eq_true hge2, Bool.true_and] at hc
        cases y
        · rw [Bool.false_or] at hc
          have hr : rel e p (got + 1) ≤ s := of_decide_eq_true hc
          clear hc hr3 L3
          have c8 := V3.out.cell 8 _ rfl
          obtain ⟨q, hq⟩ : ∃ q, q = rel e p (got + 1) := ⟨_, rfl⟩
          have hT : T e p (got + 1) := ⟨HE.out.1, HE.out.2.1, HE.out.2.2, by omega, by omega⟩
          have WI := fun w => Side.mk (Window_at e p (got + 1) q _ _ _ w hT hq rfl rfl rfl)
          rw [← hq] at hr
          have hqb := hT.rel_le
          rw [← hq] at hqb
          clear hq hT
          generalize dead e p (got + 1) = dv at *
          generalize bit e p (got + 1) = bv at *
          generalize group e p (got + 1) = gv at *
          clear V3
          go_wp2_with fail
          refine (WI _).out.mono ?_
          rintro x w4 ⟨rfl, n4, rfl⟩
          go_wp2
          go_roundw
          case rel => exact ⟨s + 1, got + 1, by rw [show (7 : Int) + ((s + 1 : Nat) : Int) = 7 + s + 1 by omega], by omega, HN, ⟨(HL3.out.step (below_drewN (Below.refl _ _) n4)).up⟩⟩
          case measure => simp [intOf]; omega
        · have hmin := HN.out.ey rfl
          clear hc hr3 L3
          have c8 := V3.out.cell 8 _ rfl
          clear V3
          go_wp2
          go_roundw
          case rel => exact ⟨s + 1, got + 1, by rw [show (7 : Int) + ((s + 1 : Nat) : Int) = 7 + s + 1 by omega], by omega, HN, ⟨by
            have h := HL3.out.up
            have e2 : Value.int .i64 (got + 1) = Value.int .i64 (min e ((s : Int) + 1)) := by rw [hmin]; rfl
            rw [e2] at h
            exact h⟩⟩
          case measure => simp [intOf]; omega
    · obtain rfl : got = e := HV.out.fin HE.out (by omega)
      have V := Side.mk HL.out.vl
      have hbl := V.out.lt
      have c8 := V.out.cell 8 _ rfl
      have HB := Side.mk HL.out.below
      clear V HL HV
      go_wp2
      go_ret
      exact ⟨by simp, HB.out⟩
end Go.Proofs.Yticcgmlgiijjnaa.PkG

/- Package ratio: the remainder of a size of two words. No condition but that it is by more than nought. -/
import Derived.Test.YtkgafogkeaaniaaDvDzm
import Derived.Deep.LoopGhost
set_option linter.unusedVariables false
set_option linter.unusedSimpArgs false
namespace Go.Proofs.Ytkgafogkeaaniaa.DvE
open Go.RowKit Go.Proofs.Ytkgafogkeaaniaa.Kit Go.Proofs.Ytkgafogkeaaniaa.Kit4 Go.Proofs.Ytkgafogkeaaniaa.DvA Go.Proofs.Ytkgafogkeaaniaa.DvB Go.Proofs.Ytkgafogkeaaniaa.DvC Go.Proofs.Ytkgafogkeaaniaa.DvD DvPlain
open Go.Proofs.YtkgafogkeaaniaaW.PrintLast
open Go.Proofs.YtkgafogkeaaniaaW.PrintWords (run_store_run)
theorem V_of (h l : Nat) (s : Bool) (hl : l < 18446744073709551616) : V (nat2 h l) s = W h l s := by
  obtain ⟨e1, e2⟩ := two_of h l _ hl rfl
  show W (nat2 h l / 18446744073709551616) (nat2 h l % 18446744073709551616) s = W h l s
  rw [← e1, ← e2]
theorem blen_of (h l : Nat) (hl : l < 18446744073709551616) : blen (nat2 h l) = wlen h l := by
  obtain ⟨e1, e2⟩ := two_of h l _ hl rfl
  unfold blen
  rw [← e1, ← e2]
theorem nat2_lt (h l : Nat) (hh : h < 18446744073709551616) (hl : l < 18446744073709551616) : nat2 h l < 2 ^ 128 := by
  unfold nat2
  rw [show (2 : Nat) ^ 128 = 18446744073709551616 * 18446744073709551616 by decide]
  have := Nat.mul_le_mul_right 18446744073709551616 (show h ≤ 18446744073709551615 by omega)
  omega
theorem Bx.store {w : World} {p h l : Nat} {s : Bool} (k : Bx w p h l s) (h' l' : Nat) (s' : Bool) : (Instr.storeAt 69 (.pointer (some ⟨p, 0, none⟩)) (W h' l' s')).run Try.prog w = .ok () (w.setCells p 0 [.int .u64 (h' : Int), .int .u64 (l' : Int), .bool s']) :=
  run_store_run (o := 0) 69 (W h' l' s') _ k rfl (by kernel_rfl) (by simp) (fun v hv => by simp at hv; rcases hv with rfl | rfl | rfl <;> rfl)
theorem Bx.stored {w : World} {p h l : Nat} {s : Bool} (k : Bx w p h l s) (h' l' : Nat) (s' : Bool) : Bx (w.setCells p 0 [.int .u64 (h' : Int), .int .u64 (l' : Int), .bool s']) p h' l' s' := ((k.set0 h').set1 l').set2 s'
theorem Bx.aside {w : World} {p q h l : Nat} {s : Bool} (k : Bx w p h l s) (hq : p ≠ q) (a b c : Value) : Bx (w.setCells q 0 [a, b, c]) p h l s := ((k.far q 0 a hq).far q 1 b hq).far q 2 c hq
theorem below_stored {B : Nat} {w w' : World} {q : Nat} (k : Below B w w') (hq : B ≤ q) (a b c : Value) : Below B w (w'.setCells q 0 [a, b, c]) := ((k.setCell (p := ⟨q, 0, none⟩) hq a).setCell (p := ⟨q, 0 + 1, none⟩) hq b).setCell (p := ⟨q, 0 + 1 + 1, none⟩) hq c
/-- One store at the end. -/
structure Sb (W : World) (p : Nat) (c : List Value) (j : Nat) (b : Nat → Bool) (w' : World) : Prop where
  n : b j = false → Below W.heap.size W w'
  y : b j = true → ∃ W2, Below W.heap.size W W2 ∧ w' = W2.setCells p 0 c
theorem Sb.start {W : World} {p : Nat} {c : List Value} {j : Nat} : Sb W p c j (fun _ => false) W := ⟨fun _ => Below.refl _ _, fun h => by cases h⟩
theorem Sb.low {W w' w'' : World} {p : Nat} {c : List Value} {j : Nat} {b : Nat → Bool} (h : Sb W p c j b w') (hj : b j = false) (hb : Below w'.heap.size w' w'') (i : Nat) (hi : (j != i) = true) : Sb W p c j (up b i) w'' := by
  simp only [bne_iff_ne, ne_eq] at hi
  have e := up_ne (b := b) hi
  constructor
  · rw [e]; exact fun _ => below_then (h.n hj) (h.n hj).size hb
  · rw [e, hj]; exact fun x => by cases x
theorem Sb.set {W w' : World} {p : Nat} {c : List Value} {j : Nat} {b : Nat → Bool} (h : Sb W p c j b w') (hj : b j = false) : Sb W p c j (up b j) (w'.setCells p 0 c) :=
  ⟨fun e => (by rw [up_self] at e; cases e), fun _ => ⟨w', h.n hj, rfl⟩⟩
set_option maxHeartbeats 4000000 in
set_option maxRecDepth 100000 in
theorem mod0_core (h1 l1 y : Nat) (s1 s2 : Bool) (a0 : h1 < 18446744073709551616) (a1 : l1 < 18446744073709551616) (y0 : 0 < y) (y1 : y < 18446744073709551616) (w : World) :
    Calls Try.prog 61 #[W h1 l1 s1, W 0 y s2] w fun e w' => e = .returned (W 0 (nat2 h1 l1 % y) false) ∧ Below w.heap.size w w' := by
  have t2 : ¬ (y : Int) = 0 := by omega
  have t3 : (0 : Int) ≤ (h1 : Int) % (y : Int) := Int.emod_nonneg _ t2
  have t4 : (h1 : Int) % (y : Int) < 18446744073709551616 := by have := Int.emod_lt_of_pos (h1 : Int) (show (0 : Int) < y by omega); omega
  obtain ⟨r, hr⟩ : ∃ r, r = nat2 h1 l1 % y := ⟨_, rfl⟩
  have hrl : r < y := by rw [hr]; exact Nat.mod_lt _ y0
  have e : ((h1 % y) * 2 ^ 64 + l1) % y = r := by
    rw [hr]
    unfold nat2
    rw [show (2 : Nat) ^ 64 = 18446744073709551616 by decide, Nat.add_mod, Nat.mod_mul_mod, ← Nat.add_mod]
  have C := fun w => Side.mk (Div64_at (h1 % y) l1 y w (Nat.mod_lt _ y0) (by omega) (by omega))
  rw [e] at C
  obtain ⟨q, hq⟩ : ∃ q, q = ((h1 % y) * 2 ^ 64 + l1) / y := ⟨_, rfl⟩
  rw [← hq, Int.natCast_emod] at C
  rw [← hr]
  clear hr e hq
  go_enter Try.func61, Try.ntmps61
  go_wp2_with fail
  go_quiet ((go_at_call 62; exact Calls.quiet_of (C _).out))
  go_wp2
  refine bodyPost_ret (v := W 0 r false) (by simp [results, Try.results61, go_sem]) rfl ⟨rfl, ?_⟩
  (repeat (with_reducible first | exact Below.refl _ _ | apply below_drewN | apply below_drew | apply below_alloc | refine Below.setCell ?_ ?_ _))
  all_goals (simp; omega)
set_option maxHeartbeats 4000000 in
set_option maxRecDepth 100000 in
theorem mod1_core (h1 l1 h2 l2 : Nat) (s1 s2 : Bool) (a0 : h1 < 18446744073709551616) (a1 : l1 < 18446744073709551616) (a2 : h2 < 18446744073709551616) (a3 : l2 < 18446744073709551616) (hz : 0 < h2) (w : World) :
    Calls Try.prog 61 #[W h1 l1 s1, W h2 l2 s2] w fun e w' => e = .returned (V (nat2 h1 l1 % nat2 h2 l2) false) ∧ Below w.heap.size w w' := by
  have t1 : ((h2 : Int) == 0) = false := by simp; omega
  have t2 : ¬ (h2 : Int) = 0 := by omega
  have hY : 0 < nat2 h2 l2 := by unfold nat2; omega
  go_enter Try.func61, Try.ntmps61
  go_wp2_with fail
  have P0 : Bx _ w.heap.size h1 l1 s1 := ((Bx.new w h1 l1 s1).below ((Below.refl _ _).alloc (Nat.le_refl _) (.cells #[.int .u64 (h2 : Int), .int .u64 (l2 : Int), .bool s2] 69))).below ((Below.refl _ _).alloc (Nat.le_refl _) (.cells #[.int .u64 0, .int .u64 0, .bool false] 69))
  have Q0 : Bx (((w.alloc (.cells #[.int .u64 (h1 : Int), .int .u64 (l1 : Int), .bool s1] 69)).alloc (.cells #[.int .u64 (h2 : Int), .int .u64 (l2 : Int), .bool s2] 69)).alloc (.cells #[.int .u64 0, .int .u64 0, .bool false] 69)) (w.heap.size + 1) h2 l2 s2 := by have := (Bx.new (w.alloc (.cells #[.int .u64 (h1 : Int), .int .u64 (l1 : Int), .bool s1] 69)) h2 l2 s2).below ((Below.refl _ _).alloc (Nat.le_refl _) (.cells #[.int .u64 0, .int .u64 0, .bool false] 69)); simpa using this
  have R0 : Bx (((w.alloc (.cells #[.int .u64 (h1 : Int), .int .u64 (l1 : Int), .bool s1] 69)).alloc (.cells #[.int .u64 (h2 : Int), .int .u64 (l2 : Int), .bool s2] 69)).alloc (.cells #[.int .u64 0, .int .u64 0, .bool false] 69)) (w.heap.size + 1 + 1) 0 0 false := by have := Bx.new ((w.alloc (.cells #[.int .u64 (h1 : Int), .int .u64 (l1 : Int), .bool s1] 69)).alloc (.cells #[.int .u64 (h2 : Int), .int .u64 (l2 : Int), .bool s2] 69)) 0 0 false; simpa using this
  have HP0 := Side.mk P0
  have HQ0 := Side.mk Q0
  have HR0 := Side.mk R0
  clear P0 Q0 R0
  go_loopg [] (nat2 h1 l1) (fun gn wr => ∃ (h l : Nat) (s : Bool), nat2 h l = gn ∧ h < 18446744073709551616 ∧ l < 18446744073709551616 ∧ Side (gn % nat2 h2 l2 = nat2 h1 l1 % nat2 h2 l2) ∧ Side (Bx wr w.heap.size h l s) ∧ Side (Bx wr (w.heap.size + 1) h2 l2 s2) ∧ Side (Bx wr (w.heap.size + 1 + 1) 0 0 false) ∧ Side (Below w.heap.size w wr))
  case atStart => exact ⟨h1, l1, s1, rfl, a0, a1, ⟨rfl⟩, HP0, HQ0, HR0, ⟨by (repeat (with_reducible first | exact Below.refl _ _ | apply below_drewN | apply below_drew | apply below_alloc))⟩⟩
  case round =>
    clear HP0 HQ0 HR0
    obtain ⟨h, l, s, hg, hh, hl, HE, HP, HQ, HR, HB⟩ := hrel
    have HG := Side.mk hg
    clear hg
    obtain ⟨wz, hwz⟩ : ∃ wz : World, wz = wr := ⟨_, rfl⟩
    rw [← hwz] at HP HQ HR HB ⊢
    clear hwz
    have p0 := HP.out.c0
    have p1 := HP.out.c1
    have p2 := HP.out.c2
    have q0 := HQ.out.c0
    have q1 := HQ.out.c1
    have q2 := HQ.out.c2
    have pl := HP.out.lt
    have ql := HQ.out.lt
    have zl := HR.out.lt
    obtain ⟨t, ht⟩ : ∃ t : Bool, t = decide (nat2 h l < nat2 h2 l2) := ⟨_, rfl⟩
    have CL := Side.mk (fun w => less_at h l h2 l2 s s2 hl a3 t ht w)
    have HT := Side.mk ht
    clear ht
    go_wp2_with fail
    refine (CL.out _).mono ?_
    rintro e w2 ⟨rfl, hb⟩
    have hb2 : Below wz.heap.size wz w2 := below_then (by (repeat (with_reducible first | exact Below.refl _ _ | apply below_drewN | apply below_drew | apply below_alloc))) (by first | exact Nat.le_refl _ | (simp; omega)) hb
    have HP2 := Side.mk (HP.out.below hb2)
    have HQ2 := Side.mk (HQ.out.below hb2)
    have HR2 := Side.mk (HR.out.below hb2)
    have HB2 : Side (Below w.heap.size w w2) := ⟨below_then HB.out HB.out.size hb2⟩
    clear hb hb2 HP HQ HR HB p0 p1 p2 q0 q1 q2 pl ql zl CL
    have p0 := HP2.out.c0
    have p1 := HP2.out.c1
    have p2 := HP2.out.c2
    have q0 := HQ2.out.c0
    have q1 := HQ2.out.c1
    have q2 := HQ2.out.c2
    have pl := HP2.out.lt
    have ql := HQ2.out.lt
    have zl := HR2.out.lt
    cases t
    · have hle : nat2 h2 l2 ≤ nat2 h l := by have := of_decide_eq_false HT.out.symm; omega
      obtain ⟨m1, m2, m3, m4, m5⟩ := mod_step (nat2 h l) (nat2 h2 l2) (nat2_lt h l hh hl) hY hle
      rw [blen_of h l hl, blen_of h2 l2 a3] at m1 m2 m3 m4 m5
      obtain ⟨n, hn⟩ : ∃ n, n = wlen h l - wlen h2 l2 := ⟨_, rfl⟩
      rw [← hn] at m2 m3 m4 m5
      obtain ⟨u, hu⟩ : ∃ u, u = nat2 h2 l2 * 2 ^ n := ⟨_, rfl⟩
      rw [← hu] at m2 m3 m4 m5
      obtain ⟨d, hd⟩ : ∃ d, d = nat2 h l - cut (nat2 h l) u := ⟨_, rfl⟩
      rw [← hd] at m4 m5
      have hw1 := blen_at (nat2 h l) (nat2_lt h l hh hl)
      rw [blen_of h l hl] at hw1
      have CU := fun w => Side.mk (up_V (nat2 h2 l2) n (nat2_lt h2 l2 a2 a3) s2 (by omega) (by rw [← hu]; exact m2) w)
      have CM := fun w => Side.mk (minus_V (nat2 h l) u (nat2_lt h l hh hl) m2 s s2 m3 w)
      rw [← hu, V_of h2 l2 s2 a3] at CU
      rw [← hd, V_of h l s hl] at CM
      have hdl : d < 2 ^ 128 := by have := nat2_lt h l hh hl; omega
      obtain ⟨b3, b4⟩ := V_lt d hdl
      have e9 := nat2_V d
      obtain ⟨uh, huh⟩ : ∃ uh, uh = u / 18446744073709551616 := ⟨_, rfl⟩
      obtain ⟨ul, hul⟩ : ∃ ul, ul = u % 18446744073709551616 := ⟨_, rfl⟩
      obtain ⟨mh, hmh⟩ : ∃ mh, mh = d / 18446744073709551616 := ⟨_, rfl⟩
      obtain ⟨ml, hml⟩ : ∃ ml, ml = d % 18446744073709551616 := ⟨_, rfl⟩
      have eu : V u s2 = W uh ul s2 := by rw [huh, hul]
      have ed : V d false = W mh ml false := by rw [hmh, hml]
      rw [eu] at CU CM
      rw [ed] at CM
      rw [← hmh, ← hml] at e9
      rw [← hmh] at b3
      rw [← hml] at b4
      have CA := fun w => Side.mk (length_at h l s hh hl w)
      have CB := fun w => Side.mk (length_at h2 l2 s2 a2 a3 w)
      obtain ⟨x1, hx1⟩ : ∃ x1, x1 = wlen h l := ⟨_, rfl⟩
      obtain ⟨x2, hx2⟩ : ∃ x2, x2 = wlen h2 l2 := ⟨_, rfl⟩
      rw [← hx1] at CA
      rw [← hx2] at CB
      have HWN : Side (IntKind.i64.wrap ((x1 : Int) - x2) = (n : Int)) := ⟨by rw [hx1, hx2, Go.IntWalk.i64_in _ (by omega)]; omega⟩
      have HN : Side (nat2 mh ml = d ∧ mh < 18446744073709551616 ∧ ml < 18446744073709551616 ∧ d < nat2 h l ∧ d % nat2 h2 l2 = nat2 h l % nat2 h2 l2) := ⟨e9, b3, b4, m4, m5⟩
      have HST := Side.mk (fun w' (hb : Below w2.drew.heap.size w2.drew w') => Bx.store ((HP2.out.below (below_drew (Below.refl _ w2))).below hb) mh ml false)
      have f0 := HP2.out.fz 0
      clear hn hu hd hw1 e9 huh hul hmh hml eu ed hx1 hx2 m1 m2 m3 m4 m5 hle HT b3 b4 hdl
      go_upto_region 5 with (fail)
      refine start_ (n := 10) (S := fun w' => True) (ds := []) #[false, false, false, false, false, false, false, false, false, false] (by kernel_rfl) rfl rfl trivial (fun _ => ?_)
      refine inv_at (B := [0, 0, 0, 4, 0, 28, 60, 126, 255, 511]) [0, 1, 2, 3, 4, 5, 6, 7, 8, 9] (fun a0_ b a w' => a = putSel a0_ b [(0, 29, .agg #[.int .u64 h, .int .u64 l, .bool s]), (1, 30, .agg #[.int .u64 h2, .int .u64 l2, .bool s2]), (2, 31, .agg #[.int .u64 h, .int .u64 l, .bool s]), (3, 32, .int .i64 x1), (4, 33, .agg #[.int .u64 h2, .int .u64 l2, .bool s2]), (5, 34, .int .i64 x2), (6, 35, .int .i64 n), (7, 36, .agg #[.int .u64 uh, .int .u64 ul, .bool s2]), (8, 37, .agg #[.int .u64 mh, .int .u64 ml, .bool false])] ∧ Sb w2.drew w.heap.size [.int .u64 (mh : Int), .int .u64 (ml : Int), .bool false] 9 b w') rfl (by kernel_rfl) (by kernel_rfl) (by kernel_rfl) ?_ ?_ ?_
      · exact ⟨by simp only [putSel, Bool.false_eq_true, if_false], Sb.start⟩
      · refine steps_cons (by rintro b a w' ⟨ha, HI⟩ hb hon hoff; refine ⟨_, rfl, fun K hK => ?_⟩; have e2 := poff ha (t := 2) rfl rfl; have k0_ := bc (HI.n (hoff 9 rfl)) pl p0; have k1_ := bc (HI.n (hoff 9 rfl)) pl p1; have k2_ := bc (HI.n (hoff 9 rfl)) pl p2; have kz_ := bz (HI.n (hoff 9 rfl)) pl; exact value_ (v := .agg #[.int .u64 h, .int .u64 l, .bool s]) (by rfl) rfl (by clear HI ha; go_simp) (hK.out _ _ ⟨upk ha 0 hb rfl rfl, HI.low (hoff 9 rfl) (Below.refl _ _) 0 (by decide)⟩)) ?_
        refine steps_cons (by rintro b a w' ⟨ha, HI⟩ hb hon hoff; refine ⟨_, rfl, fun K hK => ?_⟩; have e3 := poff ha (t := 3) rfl rfl; have k0_ := bc (HI.n (hoff 9 rfl)) ql q0; have k1_ := bc (HI.n (hoff 9 rfl)) ql q1; have k2_ := bc (HI.n (hoff 9 rfl)) ql q2; have kz_ := bz (HI.n (hoff 9 rfl)) ql; exact value_ (v := .agg #[.int .u64 h2, .int .u64 l2, .bool s2]) (by rfl) rfl (by clear HI ha; go_simp) (hK.out _ _ ⟨upk ha 1 hb rfl rfl, HI.low (hoff 9 rfl) (Below.refl _ _) 1 (by decide)⟩)) ?_
        refine steps_cons (by rintro b a w' ⟨ha, HI⟩ hb hon hoff; refine ⟨_, rfl, fun K hK => ?_⟩; have e2 := poff ha (t := 2) rfl rfl; have k0_ := bc (HI.n (hoff 9 rfl)) pl p0; have k1_ := bc (HI.n (hoff 9 rfl)) pl p1; have k2_ := bc (HI.n (hoff 9 rfl)) pl p2; have kz_ := bz (HI.n (hoff 9 rfl)) pl; exact value_ (v := .agg #[.int .u64 h, .int .u64 l, .bool s]) (by rfl) rfl (by clear HI ha; go_simp) (hK.out _ _ ⟨upk ha 2 hb rfl rfl, HI.low (hoff 9 rfl) (Below.refl _ _) 2 (by decide)⟩)) ?_
        refine steps_cons (by rintro b a w' ⟨ha, HI⟩ hb hon hoff; refine ⟨_, rfl, fun K hK => ?_⟩; have e31 := pon ha 2 (hon 2 rfl) rfl rfl rfl; refine goes_ Try.func63 (by kernel_rfl) rfl #[.agg #[.int .u64 h, .int .u64 l, .bool s]] (by rfl) rfl rfl (by simp [Act.eval, e31]) ((CA w').out.mono ?_); rintro e_ w'' ⟨rfl, hbc⟩; exact ⟨_, rfl, hK.out _ _ ⟨upk ha 3 hb rfl rfl, HI.low (hoff 9 rfl) hbc 3 (by decide)⟩⟩) ?_
        refine steps_cons (by rintro b a w' ⟨ha, HI⟩ hb hon hoff; refine ⟨_, rfl, fun K hK => ?_⟩; have e3 := poff ha (t := 3) rfl rfl; have k0_ := bc (HI.n (hoff 9 rfl)) ql q0; have k1_ := bc (HI.n (hoff 9 rfl)) ql q1; have k2_ := bc (HI.n (hoff 9 rfl)) ql q2; have kz_ := bz (HI.n (hoff 9 rfl)) ql; exact value_ (v := .agg #[.int .u64 h2, .int .u64 l2, .bool s2]) (by rfl) rfl (by clear HI ha; go_simp) (hK.out _ _ ⟨upk ha 4 hb rfl rfl, HI.low (hoff 9 rfl) (Below.refl _ _) 4 (by decide)⟩)) ?_
        refine steps_cons (by rintro b a w' ⟨ha, HI⟩ hb hon hoff; refine ⟨_, rfl, fun K hK => ?_⟩; have e33 := pon ha 4 (hon 4 rfl) rfl rfl rfl; refine goes_ Try.func63 (by kernel_rfl) rfl #[.agg #[.int .u64 h2, .int .u64 l2, .bool s2]] (by rfl) rfl rfl (by simp [Act.eval, e33]) ((CB w').out.mono ?_); rintro e_ w'' ⟨rfl, hbc⟩; exact ⟨_, rfl, hK.out _ _ ⟨upk ha 5 hb rfl rfl, HI.low (hoff 9 rfl) hbc 5 (by decide)⟩⟩) ?_
        refine steps_cons (by rintro b a w' ⟨ha, HI⟩ hb hon hoff; refine ⟨_, rfl, fun K hK => ?_⟩; have e32 := pon ha 3 (hon 3 rfl) rfl rfl rfl; have e34 := pon ha 5 (hon 5 rfl) rfl rfl rfl; exact value_ (v := .int .i64 n) (by rfl) rfl (by clear HI ha; go_simp; exact HWN.out) (hK.out _ _ ⟨upk ha 6 hb rfl rfl, HI.low (hoff 9 rfl) (Below.refl _ _) 6 (by decide)⟩)) ?_
        refine steps_cons (by rintro b a w' ⟨ha, HI⟩ hb hon hoff; refine ⟨_, rfl, fun K hK => ?_⟩; have e30 := pon ha 1 (hon 1 rfl) rfl rfl rfl; have e35 := pon ha 6 (hon 6 rfl) rfl rfl rfl; refine goes_ Try.func64 (by kernel_rfl) rfl #[.agg #[.int .u64 h2, .int .u64 l2, .bool s2], .int .i64 n] (by rfl) rfl rfl (by simp [Act.eval, e30, e35]) ((CU w').out.mono ?_); rintro e_ w'' ⟨rfl, hbc⟩; exact ⟨_, rfl, hK.out _ _ ⟨upk ha 7 hb rfl rfl, HI.low (hoff 9 rfl) hbc 7 (by decide)⟩⟩) ?_
        refine steps_cons (by rintro b a w' ⟨ha, HI⟩ hb hon hoff; refine ⟨_, rfl, fun K hK => ?_⟩; have e29 := pon ha 0 (hon 0 rfl) rfl rfl rfl; have e36 := pon ha 7 (hon 7 rfl) rfl rfl rfl; refine goes_ Try.func66 (by kernel_rfl) rfl #[.agg #[.int .u64 h, .int .u64 l, .bool s], .agg #[.int .u64 uh, .int .u64 ul, .bool s2]] (by rfl) rfl rfl (by simp [Act.eval, e29, e36]) ((CM w').out.mono ?_); rintro e_ w'' ⟨rfl, hbc⟩; exact ⟨_, rfl, hK.out _ _ ⟨upk ha 8 hb rfl rfl, HI.low (hoff 9 rfl) hbc 8 (by decide)⟩⟩) ?_
        refine steps_cons (by rintro b a w' ⟨ha, HI⟩ hb hon hoff; refine ⟨_, rfl, fun K hK => ?_⟩; have e2 := poff ha (t := 2) rfl rfl; have e37 := pon ha 8 (hon 8 rfl) rfl rfl rfl; exact skip_ (by rfl) rfl (by unfold execOp; simp [Act.eval, e2, e37, HST.out w' (HI.n hb)]) (hK.out _ _ ⟨ups ha rfl, HI.set hb⟩)) ?_
        exact steps_nil
      · rintro b a w' hall ⟨ha, HI⟩
        have hb0_ := hall 0 rfl; have hb1_ := hall 1 rfl; have hb2_ := hall 2 rfl; have hb3_ := hall 3 rfl; have hb4_ := hall 4 rfl; have hb5_ := hall 5 rfl; have hb6_ := hall 6 rfl; have hb7_ := hall 7 rfl
        have hb8_ := hall 8 rfl; have hb9_ := hall 9 rfl
        subst ha
        simp only [putSel, hb0_, hb1_, hb2_, hb3_, hb4_, hb5_, hb6_, hb7_, hb8_, if_true, Act.put, List.setIfInBounds_toArray, List.set_cons_zero, List.set_cons_succ]
        obtain ⟨w6, hb6, rfl⟩ := HI.y hb9_
        clear hall HI hb0_ hb1_ hb2_ hb3_ hb4_ hb5_ hb6_ hb7_ hb8_ hb9_
        have hb7 : Below w2.heap.size w2 w6 := below_then (below_drew (Below.refl _ w2)) (Nat.le_refl _) hb6
        have HP3 := Side.mk (Bx.stored (HP2.out.below hb7) mh ml false)
        have HQ3 := Side.mk (Bx.aside (HQ2.out.below hb7) (q := w.heap.size) (by omega) (.int .u64 (mh : Int)) (.int .u64 (ml : Int)) (.bool false))
        have HR3 := Side.mk (Bx.aside (HR2.out.below hb7) (q := w.heap.size) (by omega) (.int .u64 (mh : Int)) (.int .u64 (ml : Int)) (.bool false))
        have HB3 := Side.mk (below_stored (q := w.heap.size) (below_then HB2.out HB2.out.size hb7) (Nat.le_refl _) (.int .u64 (mh : Int)) (.int .u64 (ml : Int)) (.bool false))
        generalize w6.setCells w.heap.size 0 [.int .u64 (mh : Int), .int .u64 (ml : Int), .bool false] = w8 at *
        go_wp2
        go_roundg d
        case measure => have := HN.out.2.2.2.1; have := HG.out; omega
        case rel => exact ⟨mh, ml, false, HN.out.1, HN.out.2.1, HN.out.2.2.1, ⟨by rw [HN.out.2.2.2.2, HG.out]; exact HE.out⟩, HP3, HQ3, HR3, HB3⟩
    · have hlt := of_decide_eq_true HT.out.symm
      have z0 := HR2.out.c0
      have z1 := HR2.out.c1
      have z2 := HR2.out.c2
      have g0 := HR2.out.fz 0
      have g1 := HR2.out.fz 1
      have g2 := HR2.out.fz 2
      have HV : Side (W h l false = V (nat2 h1 l1 % nat2 h2 l2) false) := ⟨by rw [← HE.out, ← HG.out, Nat.mod_eq_of_lt hlt, V_of h l false hl]⟩
      clear HT hlt
      go_wp2_with fail
      have R9 := ((HR2.out.set0 h).set1 l).set2 false
      have HBR : Side (Below w.heap.size w (((w2.setCell ⟨w.heap.size + 1 + 1, 0, none⟩ (.int .u64 h)).setCell ⟨w.heap.size + 1 + 1, 1, none⟩ (.int .u64 l)).setCell ⟨w.heap.size + 1 + 1, 2, none⟩ (.bool false))) := ⟨((HB2.out.setCell (by simp; omega) _).setCell (by simp; omega) _).setCell (by simp; omega) _⟩
      generalize (((w2.setCell ⟨w.heap.size + 1 + 1, 0, none⟩ (.int .u64 h)).setCell ⟨w.heap.size + 1 + 1, 1, none⟩ (.int .u64 l)).setCell ⟨w.heap.size + 1 + 1, 2, none⟩ (.bool false)) = w9 at *
      have r0 := R9.c0
      have r1 := R9.c1
      have r2 := R9.c2
      have rl := R9.lt
      refine bodyPost_ret (v := W h l false) (by simp [results, Try.results61, go_sem, r0, r1, r2, rl]) rfl ⟨by rw [HV.out], HBR.out⟩
end Go.Proofs.Ytkgafogkeaaniaa.DvE

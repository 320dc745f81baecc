/- Package ledger, fourth text: Can. No condition. -/
import Derived.Test.YtfgmenndmcjggaaLeC
import Derived.BigQuiet
import Derived.StillTailTactics
import Derived.Deep.RegionHeld3
set_option linter.unusedVariables false
set_option linter.unusedSimpArgs false
namespace Go.Proofs.Ytfgmenndmcjggaa.LeD
open Go.RowKit Go.Proofs.Ytfgmenndmcjggaa.Kit Go.Proofs.Ytfgmenndmcjggaa.Kit3 Go.Proofs.Ytfgmenndmcjggaa.Kit4 Go.Proofs.Ytfgmenndmcjggaa.LeP Go.Maps Go.Proofs.Ytfgmenndmcjggaa.LeA Go.Proofs.Ytfgmenndmcjggaa.LeB Go.Proofs.Ytfgmenndmcjggaa.LeC
open Go.Proofs.Ytfgmenndmcjggaa.PR WhPlain RaPlain Go.Proofs.Ytfgmenndmcjggaa.RaK
open Go.Proofs.Ytfgmenndmcjggaa.RaC (Fr)
open Go.Proofs.YtfgmenndmcjggaaW.PrintLast
open Go.Proofs.YtfgmenndmcjggaaW.PrintWords (run_store_run)
abbrev CC (f : Nat) (args : Array Value) (v : Value) : Prop := ∀ w, Side (Calls Try.prog f args w fun r w' => r = .returned v ∧ Below w.heap.size w w')
theorem cell2 {w : World} {g o : Nat} {a b : Value} (h0 : w.cell? ⟨g, o, none⟩ = some a) (h1 : w.cell? ⟨g, o + 1, none⟩ = some b) : w.cell? ⟨g, o, none⟩ = some a ∧ w.cell? ⟨g, o + 1, none⟩ = some b := ⟨h0, h1⟩
set_option maxHeartbeats 4000000 in
set_option maxRecDepth 100000 in
/-- The tests that stand ahead of the sum. -/
theorem can_no (w : World) (B gh bl bm n : Nat) (k : Int) (s : Int × Int) (ms : List Wt) (h : LS w B gh bl bm n k s ms) (e p : Int) (c : Int) (hc : canV k ms e p = c) (h27 : ¬ may e p ∨ 16777216 < Nat.lcm p.natAbs (ll ms)) :
    Calls Try.prog 9 #[.pointer (some ⟨gh, 0, none⟩), .int .i64 e, .int .i64 p] w fun r w' => r = .returned (.int .i64 c) ∧ Below w.heap.size w w' := by
  obtain ⟨Dl, Dm, h1, h2⟩ := h.h
  have HG := Side.mk h.g
  have HC := Side.mk hc
  have H27 := Side.mk h27
  by_cases hm : may e p
  · have HK : Side (∀ w', Below w.heap.size w w' → Calls Try.prog 21 #[.pointer (some ⟨gh, 0, none⟩), .int .i64 p] w' fun r w'' => r = .returned (.tuple #[.int .i64 0, .bool false]) ∧ Below w'.heap.size w' w'') := ⟨fun w' hb => by
      have h3 : 16777216 < Nat.lcm p.natAbs (ll ms) := by rcases h27 with h4 | h4; exact absurd hm h4; exact h4
      refine mult_at w' B gh bl bm n k s Dl Dm ms (h1.below hb) h2 h.g.may p (by unfold may at hm; omega) _ rfl 0 false (decide_eq_false (by omega)) rfl⟩
    have HM : CC 20 #[.int .i64 e, .int .i64 p] (.bool true) := fun w => MayK e p true (decide_eq_true hm) w
    have hv : c = 7 := by
      rw [← hc]; unfold canV
      rw [if_neg (by simpa using hm), if_pos (by rcases h27 with h4 | h4; exact absurd hm h4; exact h4)]
    subst hv
    clear h h1 h2 hc h27 hm
    go_enter Try.func9, Try.ntmps9
    go_wp2_with (first
      | (go_at_call 20; (with_reducible refine (HM _).out.mono ?_); rintro e w2 ⟨rfl, hb2⟩)
      | (go_at_call 21; (with_reducible refine (HK.out _ (by assumption)).mono ?_); rintro e w3 ⟨rfl, hb3⟩))
    go_ret
    exact ⟨rfl, below_then hb2 hb2.size hb3⟩
  · have HM : CC 20 #[.int .i64 e, .int .i64 p] (.bool false) := fun w => MayK e p false (decide_eq_false hm) w
    have hv : c = 2 := by
      rw [← hc]; unfold canV
      rw [if_pos hm]
    subst hv
    clear h h1 h2 hc h27 hm
    go_enter Try.func9, Try.ntmps9
    go_wp2_with (go_at_call 20; (with_reducible refine (HM _).out.mono ?_); rintro e w2 ⟨rfl, hb2⟩)
    go_ret
    exact ⟨rfl, hb2⟩
set_option maxHeartbeats 4000000 in
set_option maxRecDepth 100000 in
theorem can_yes (w : World) (B gh bl bm n : Nat) (k : Int) (s : Int × Int) (ms : List Wt) (h : LS w B gh bl bm n k s ms) (e p : Int) (c : Int) (hc : canV k ms e p = c) (hm : may e p) (h7 : Nat.lcm p.natAbs (ll ms) ≤ 16777216) :
    Calls Try.prog 9 #[.pointer (some ⟨gh, 0, none⟩), .int .i64 e, .int .i64 p] w fun r w' => r = .returned (.int .i64 c) ∧ Below w.heap.size w w' := by
  obtain ⟨Dl, Dm, h1, h2⟩ := h.h
  obtain ⟨L, hL⟩ : ∃ L : Int, (Nat.lcm p.natAbs (ll ms) : Int) = L := ⟨_, rfl⟩
  have HK : Side (∀ w', Below w.heap.size w w' → Calls Try.prog 21 #[.pointer (some ⟨gh, 0, none⟩), .int .i64 p] w' fun r w'' => r = .returned (.tuple #[.int .i64 L, .bool true]) ∧ Below w'.heap.size w' w'') := ⟨fun w' hb =>
    mult_at w' B gh bl bm n k s Dl Dm ms (h1.below hb) h2 h.g.may p (by unfold may at hm; omega) L hL L true (decide_eq_true (by omega)) rfl⟩
  have HM : CC 20 #[.int .i64 e, .int .i64 p] (.bool true) := fun w => MayK e p true (decide_eq_true hm) w
  obtain ⟨x, hx⟩ : ∃ x, q e p = x := ⟨_, rfl⟩
  obtain ⟨z, hz⟩ : ∃ z, RaK.add s x = z := ⟨_, rfl⟩
  have hsx : Sm x 1048575 1048575 := by rw [← hx]; exact qsm hm
  have hsz : Sm z (1073741824 * 1048575 + 1048575 * 16777216) (16777216 * 1048575) := by rw [← hz]; exact add_sm h.g.sm hsx
  obtain ⟨v, hv⟩ : ∃ v, cmp3 (z.1 * 1) (k * z.2) = v := ⟨_, rfl⟩
  have HQ : Side (if 0 < v then c = 8 else c = 0) := ⟨by
    have hQ := h.g.addQ (i := 0) hm
    rw [hx, hz] at hQ
    have hk : Q ((k, 1) : Int × Int) k 1 := Q.self ⟨by show (0 : Int) < 1; omega, Int.gcd_one_right _⟩
    have h3 := Q.cmp hQ hk
    have h4 : cmp3 (z.1 * 1) (k * z.2) = v := hv
    rw [show (z.1 * ((k, 1) : Int × Int).2) = z.1 * 1 from rfl, show (((k, 1) : Int × Int).1 * z.2) = k * z.2 from rfl, h4] at h3
    rw [← hc, h3]
    unfold canV cmp3
    rw [if_neg (not_not_intro hm), if_neg (show ¬ 16777216 < Nat.lcm p.natAbs (ll ms) by omega), Int.mul_one]
    generalize num (ll (ms ++ [(0, e, p)])) (ms ++ [(0, e, p)]) = N
    generalize k * (ll (ms ++ [(0, e, p)]) : Int) = K
    by_cases h5 : K < N
    · rw [if_neg (show ¬ N < K by omega), if_pos h5, if_pos h5, if_pos (by decide)]
    · rw [if_neg h5]
      by_cases h6 : N < K
      · rw [if_pos h6, if_neg (by decide), if_neg h5]
      · rw [if_neg h6, if_neg h5, if_neg (by decide)]⟩
  have C23 : CC 23 #[.int .i64 e, .int .i64 p] (.agg #[.int .i64 x.1, .int .i64 x.2]) := fun w => FracK hm x hx w
  have C22 : CC 22 #[.agg #[.int .i64 s.1, .int .i64 s.2], .agg #[.int .i64 x.1, .int .i64 x.2]] (.tuple #[.agg #[.int .i64 z.1, .int .i64 z.2], .int .i64 0]) := fun w => AddK h.g.sm hsx z hz w
  have C24 : CC 24 #[.agg #[.int .i64 z.1, .int .i64 z.2], .agg #[.int .i64 k, .int .i64 1]] (.int .i64 v) := fun w => CmpK (hsz.fr (by decide) (by decide)) h.g.k1 v hv w
  have HLG := Side.mk h1
  clear h h1 h2 hc hm h7 hL hx hz hsx hsz hv
  obtain ⟨s0, s1⟩ := s
  obtain ⟨z0, z1⟩ := z
  obtain ⟨x0, x1⟩ := x
  go_enter Try.func9, Try.ntmps9
  go_upto_region 6 with (first
    | (go_at_call 20; (with_reducible refine (HM _).out.mono ?_); rintro e w2 ⟨rfl, hb2⟩)
    | (go_at_call 21; (with_reducible refine (HK.out _ (by assumption)).mono ?_); rintro e w3 ⟨rfl, hb3⟩))
  have hb := below_then hb2 hb2.size hb3
  have HB := Side.mk hb
  have HLG3 := Side.mk (HLG.out.below hb)
  clear hb hb2 hb3 HM HK HLG
  generalize w3 = W at *
  have hgl := HLG3.out.lt
  have hc0 := HLG3.out.c0
  have hc3 := HLG3.out.c3
  have hc4 := HLG3.out.c4
  go_cut [9] (fun v9 we => ∃ g : Nat, v9 = .pointer (some ⟨g, 0, none⟩) ∧ Side (Below W.heap.size W we ∧ Val we 30 g [.int .i64 z0, .int .i64 z1]))
  case first =>
    refine start_ (n := 14) (S := fun w' => True) (ds := []) #[false, false, false, false, false, false, false, false, false, false, false, false, false, false] (by kernel_rfl) rfl rfl trivial (fun _ => ?_)
    refine inv_at (B := [0, 1, 3, 7, 0, 0, 48, 127, 255, 511, 511, 0, 3071, 8191]) [0, 1, 2, 3, 4, 5, 6, 7, 8, 9, 10, 11, 12, 13] (fun a0_ b a w' => ∃ p_, a = putSel a0_ b [(0, 28, .pointer (some ⟨gh, 0, none⟩)), (1, 29, .pointer (some ⟨gh, 0, none⟩)), (2, 30, .pointer (some ⟨gh, 3, none⟩)), (3, 31, .agg #[.int .i64 s0, .int .i64 s1]), (4, 32, .int .i64 e), (5, 33, .int .i64 p), (6, 34, .agg #[.int .i64 x0, .int .i64 x1]), (7, 35, .tuple #[.agg #[.int .i64 z0, .int .i64 z1], .int .i64 0]), (8, 27, .tuple #[.agg #[.int .i64 z0, .int .i64 z1], .int .i64 0]), (9, 36, .agg #[.int .i64 z0, .int .i64 z1]), (10, 37, .int .i64 0), (11, 9, .pointer (some ⟨p_, 0, none⟩)), (13, 10, .int .i64 0)] ∧ TB W.drew 30 2 p_ 0 ([.int .i64 z0, .int .i64 z1]) [] 11 1000 12 1001 b w') rfl (by kernel_rfl) (by kernel_rfl) (by kernel_rfl) ?_ ?_ ?_
    · exact ⟨0, by simp only [putSel, Bool.false_eq_true, if_false], TB.start⟩
    · refine steps_cons (by rintro b a w' ⟨p_, ha, HI⟩ hb hon hoff; refine ⟨_, rfl, fun K hK => ?_⟩; have e0 := poff ha (t := 0) rfl rfl; exact value_ (v := .pointer (some ⟨gh, 0, none⟩)) (by rfl) rfl (by clear HI ha; go_simp) (hK.out _ _ ⟨p_, upk ha 0 hb rfl rfl, HI.low (Below.refl _ _) 0 (by decide)⟩)) ?_
      refine steps_cons (by rintro b a w' ⟨p_, ha, HI⟩ hb hon hoff; refine ⟨_, rfl, fun K hK => ?_⟩; have e28 := pon ha 0 (hon 0 rfl) rfl rfl rfl; exact value_ (v := .pointer (some ⟨gh, 0, none⟩)) (by rfl) rfl (by clear HI ha; go_simp) (hK.out _ _ ⟨p_, upk ha 1 hb rfl rfl, HI.low (Below.refl _ _) 1 (by decide)⟩)) ?_
      refine steps_cons (by rintro b a w' ⟨p_, ha, HI⟩ hb hon hoff; refine ⟨_, rfl, fun K hK => ?_⟩; have e29 := pon ha 1 (hon 1 rfl) rfl rfl rfl; exact value_ (v := .pointer (some ⟨gh, 3, none⟩)) (by rfl) rfl (by clear HI ha; go_simp) (hK.out _ _ ⟨p_, upk ha 2 hb rfl rfl, HI.low (Below.refl _ _) 2 (by decide)⟩)) ?_
      refine steps_cons (by rintro b a w' ⟨p_, ha, HI⟩ hb hon hoff; refine ⟨_, rfl, fun K hK => ?_⟩; have e30 := pon ha 2 (hon 2 rfl) rfl rfl rfl; have k0_ := bc HI.bel hgl hc3; have k1_ := bc HI.bel hgl hc4; have kz_ := bz HI.bel hgl; exact value_ (v := .agg #[.int .i64 s0, .int .i64 s1]) (by rfl) rfl (by clear HI ha; go_simp) (hK.out _ _ ⟨p_, upk ha 3 hb rfl rfl, HI.low (Below.refl _ _) 3 (by decide)⟩)) ?_
      refine steps_cons (by rintro b a w' ⟨p_, ha, HI⟩ hb hon hoff; refine ⟨_, rfl, fun K hK => ?_⟩; have e1 := poff ha (t := 1) rfl rfl; exact value_ (v := .int .i64 e) (by rfl) rfl (by clear HI ha; go_simp) (hK.out _ _ ⟨p_, upk ha 4 hb rfl rfl, HI.low (Below.refl _ _) 4 (by decide)⟩)) ?_
      refine steps_cons (by rintro b a w' ⟨p_, ha, HI⟩ hb hon hoff; refine ⟨_, rfl, fun K hK => ?_⟩; have e2 := poff ha (t := 2) rfl rfl; exact value_ (v := .int .i64 p) (by rfl) rfl (by clear HI ha; go_simp) (hK.out _ _ ⟨p_, upk ha 5 hb rfl rfl, HI.low (Below.refl _ _) 5 (by decide)⟩)) ?_
      refine steps_cons (by rintro b a w' ⟨p_, ha, HI⟩ hb hon hoff; refine ⟨_, rfl, fun K hK => ?_⟩; have e32 := pon ha 4 (hon 4 rfl) rfl rfl rfl; have e33 := pon ha 5 (hon 5 rfl) rfl rfl rfl; refine goes_ Try.func23 (by kernel_rfl) rfl #[.int .i64 e, .int .i64 p] (by rfl) rfl rfl (by simp [Act.eval, e32, e33]) ((C23 _).out.mono ?_); rintro e_ w'' ⟨rfl, hbc⟩; exact ⟨_, rfl, hK.out _ _ ⟨p_, upk ha 6 hb rfl rfl, HI.low hbc 6 (by decide)⟩⟩) ?_
      refine steps_cons (by rintro b a w' ⟨p_, ha, HI⟩ hb hon hoff; refine ⟨_, rfl, fun K hK => ?_⟩; have e31 := pon ha 3 (hon 3 rfl) rfl rfl rfl; have e34 := pon ha 6 (hon 6 rfl) rfl rfl rfl; refine goes_ Try.func22 (by kernel_rfl) rfl #[.agg #[.int .i64 s0, .int .i64 s1], .agg #[.int .i64 x0, .int .i64 x1]] (by rfl) rfl rfl (by simp [Act.eval, e31, e34]) ((C22 _).out.mono ?_); rintro e_ w'' ⟨rfl, hbc⟩; exact ⟨_, rfl, hK.out _ _ ⟨p_, upk ha 7 hb rfl rfl, HI.low hbc 7 (by decide)⟩⟩) ?_
      refine steps_cons (by rintro b a w' ⟨p_, ha, HI⟩ hb hon hoff; refine ⟨_, rfl, fun K hK => ?_⟩; have e35 := pon ha 7 (hon 7 rfl) rfl rfl rfl; exact value_ (v := .tuple #[.agg #[.int .i64 z0, .int .i64 z1], .int .i64 0]) (by rfl) rfl (by clear HI ha; go_simp) (hK.out _ _ ⟨p_, upk ha 8 hb rfl rfl, HI.low (Below.refl _ _) 8 (by decide)⟩)) ?_
      refine steps_cons (by rintro b a w' ⟨p_, ha, HI⟩ hb hon hoff; refine ⟨_, rfl, fun K hK => ?_⟩; have e27 := pon ha 8 (hon 8 rfl) rfl rfl rfl; exact value_ (v := .agg #[.int .i64 z0, .int .i64 z1]) (by rfl) rfl (by clear HI ha; go_simp) (hK.out _ _ ⟨p_, upk ha 9 hb rfl rfl, HI.low (Below.refl _ _) 9 (by decide)⟩)) ?_
      refine steps_cons (by rintro b a w' ⟨p_, ha, HI⟩ hb hon hoff; refine ⟨_, rfl, fun K hK => ?_⟩; have e27 := pon ha 8 (hon 8 rfl) rfl rfl rfl; exact value_ (v := .int .i64 0) (by rfl) rfl (by clear HI ha; go_simp) (hK.out _ _ ⟨p_, upk ha 10 hb rfl rfl, HI.low (Below.refl _ _) 10 (by decide)⟩)) ?_
      refine steps_cons (by rintro b a w' ⟨p_, ha, HI⟩ hb hon hoff; refine ⟨_, rfl, fun K hK => ?_⟩; exact value_ (w1 := w'.alloc (.cells #[.int .i64 0, .int .i64 0] 30)) (v := .pointer (some ⟨w'.heap.size, 0, none⟩)) (by rfl) rfl (by clear HI ha; go_simp) (hK.out _ _ ⟨w'.heap.size, by rw [ha]; exact putSel_upk 11 hb rfl rfl rfl, HI.al1 #[.int .i64 0, .int .i64 0] rfl (hoff 12 rfl) (by decide)⟩)) ?_
      refine steps_cons (by rintro b a w' ⟨p_, ha, HI⟩ hb hon hoff; refine ⟨_, rfl, fun K hK => ?_⟩; have e9 := pon ha 11 (hon 11 rfl) rfl rfl rfl; have e36 := pon ha 9 (hon 9 rfl) rfl rfl rfl; have hst := run_own (P := Try.prog) (c := [.int .i64 z0, .int .i64 z1]) (HI.o1 (hon 11 rfl)) (.agg #[.int .i64 z0, .int .i64 z1]) rfl (by kernel_rfl) rfl (by intro q hq; simp at hq; rcases hq with rfl | rfl | rfl | rfl | rfl <;> rfl); exact skip_ (w1 := w'.setCells p_ 0 ([.int .i64 z0, .int .i64 z1])) (by rfl) rfl (by unfold execOp; simp [Act.eval, e9, e36, hst]) (hK.out _ _ ⟨p_, ups ha rfl, HI.st1 rfl (hon 11 rfl) (by decide)⟩)) ?_
      refine steps_cons (by rintro b a w' ⟨p_, ha, HI⟩ hb hon hoff; refine ⟨_, rfl, fun K hK => ?_⟩; have e37 := pon ha 10 (hon 10 rfl) rfl rfl rfl; exact value_ (v := .int .i64 0) (by rfl) rfl (by clear HI ha; go_simp) (hK.out _ _ ⟨p_, upk ha 12 hb rfl rfl, HI.low (Below.refl _ _) 13 (by decide)⟩)) ?_
      exact steps_nil
    · rintro b a w' hall ⟨p_, ha, HI⟩
      have hb0_ := hall 0 rfl; have hb1_ := hall 1 rfl; have hb2_ := hall 2 rfl; have hb3_ := hall 3 rfl; have hb4_ := hall 4 rfl; have hb5_ := hall 5 rfl; have hb6_ := hall 6 rfl; have hb7_ := hall 7 rfl
      have hb8_ := hall 8 rfl; have hb9_ := hall 9 rfl; have hb10_ := hall 10 rfl; have hb11_ := hall 11 rfl; have hb12_ := hall 12 rfl; have hb13_ := hall 13 rfl
      subst ha
      simp only [putSel, hb0_, hb1_, hb2_, hb3_, hb4_, hb5_, hb6_, hb7_, hb8_, hb9_, hb10_, hb11_, hb13_, if_true, Act.put, List.setIfInBounds_toArray, List.set_cons_zero, List.set_cons_succ]
      have HBX := Side.mk HI.bel
      have HVX := Side.mk (HI.v1 hb12_)
      clear hall HI hb0_ hb1_ hb2_ hb3_ hb4_ hb5_ hb6_ hb7_ hb8_ hb9_ hb10_ hb11_ hb12_ hb13_
      refine ‹∀ (a' : Act) (w' : World), Met _ a' w' → _› _ _ ?_
      go_meet
      case rel => exact ⟨_, rfl, ⟨below_then (below_drew (Below.refl _ W)) (Nat.le_refl _) HBX.out, HVX.out⟩⟩
  case rest =>
    obtain ⟨g, rfl, HBV⟩ := hcut
    have HBE := Side.mk (below_then HB.out HB.out.size HBV.out.1)
    have d0 := bc HBV.out.1 hgl hc0
    have dgl := bz HBV.out.1 hgl
    have v0 := HBV.out.2.cell 0 _ rfl
    have v1 := HBV.out.2.cell 1 _ rfl
    have vgl := HBV.out.2.lt
    clear HBV hgl hc0 hc3 hc4 HLG3 HB C22 C23
    generalize wc = we at *
    by_cases hv : 0 < v
    · have hv1 : v > 0 := hv
      have hcv : c = 8 := by have := HQ.out; rw [if_pos hv] at this; exact this
      subst hcv
      go_upto_region 7 with (fail)
      go_cut [45] (fun v45 wf => v45 = .bool true ∧ Side (Below we.heap.size we wf))
      case first =>
        refine start_ (n := 8) (S := fun w' => True) (ds := []) #[false, false, false, false, false, false, false, false] (by kernel_rfl) rfl rfl trivial (fun _ => ?_)
        refine inv_at (B := [0, 0, 2, 6, 14, 30, 63, 127]) [0, 1, 2, 3, 4, 5, 6, 7] (fun a0_ b a w' => a = putSel a0_ b [(0, 38, .agg #[.int .i64 z0, .int .i64 z1]), (1, 39, .pointer (some ⟨gh, 0, none⟩)), (2, 40, .pointer (some ⟨gh, 0, none⟩)), (3, 41, .pointer (some ⟨gh, 0, none⟩)), (4, 42, .int .i64 k), (5, 43, .agg #[.int .i64 k, .int .i64 1]), (6, 44, .int .i64 v), (7, 45, .bool true)] ∧ Below we.drew.heap.size we.drew w') rfl (by kernel_rfl) (by kernel_rfl) (by kernel_rfl) ?_ ?_ ?_
        · exact ⟨by simp only [putSel, Bool.false_eq_true, if_false], Below.refl _ _⟩
        · refine steps_cons (by rintro b a w' ⟨ha, HI⟩ hb hon hoff; refine ⟨_, rfl, fun K hK => ?_⟩; have e9 := poff ha (t := 9) rfl rfl; have k0_ := bc HI vgl v0; have k1_ := bc HI vgl v1; have kz_ := bz HI vgl; exact value_ (v := .agg #[.int .i64 z0, .int .i64 z1]) (by rfl) rfl (by clear HI ha; go_simp) (hK.out _ _ ⟨upk ha 0 hb rfl rfl, HI⟩)) ?_
          refine steps_cons (by rintro b a w' ⟨ha, HI⟩ hb hon hoff; refine ⟨_, rfl, fun K hK => ?_⟩; have e0 := poff ha (t := 0) rfl rfl; exact value_ (v := .pointer (some ⟨gh, 0, none⟩)) (by rfl) rfl (by clear HI ha; go_simp) (hK.out _ _ ⟨upk ha 1 hb rfl rfl, HI⟩)) ?_
          refine steps_cons (by rintro b a w' ⟨ha, HI⟩ hb hon hoff; refine ⟨_, rfl, fun K hK => ?_⟩; have e39 := pon ha 1 (hon 1 rfl) rfl rfl rfl; exact value_ (v := .pointer (some ⟨gh, 0, none⟩)) (by rfl) rfl (by clear HI ha; go_simp) (hK.out _ _ ⟨upk ha 2 hb rfl rfl, HI⟩)) ?_
          refine steps_cons (by rintro b a w' ⟨ha, HI⟩ hb hon hoff; refine ⟨_, rfl, fun K hK => ?_⟩; have e40 := pon ha 2 (hon 2 rfl) rfl rfl rfl; exact value_ (v := .pointer (some ⟨gh, 0, none⟩)) (by rfl) rfl (by clear HI ha; go_simp) (hK.out _ _ ⟨upk ha 3 hb rfl rfl, HI⟩)) ?_
          refine steps_cons (by rintro b a w' ⟨ha, HI⟩ hb hon hoff; refine ⟨_, rfl, fun K hK => ?_⟩; have e41 := pon ha 3 (hon 3 rfl) rfl rfl rfl; have k0_ := bc HI dgl d0; have kz_ := bz HI dgl; exact value_ (v := .int .i64 k) (by rfl) rfl (by clear HI ha; go_simp) (hK.out _ _ ⟨upk ha 4 hb rfl rfl, HI⟩)) ?_
          refine steps_cons (by rintro b a w' ⟨ha, HI⟩ hb hon hoff; refine ⟨_, rfl, fun K hK => ?_⟩; have e42 := pon ha 4 (hon 4 rfl) rfl rfl rfl; exact value_ (v := .agg #[.int .i64 k, .int .i64 1]) (by rfl) rfl (by clear HI ha; go_simp) (hK.out _ _ ⟨upk ha 5 hb rfl rfl, HI⟩)) ?_
          refine steps_cons (by rintro b a w' ⟨ha, HI⟩ hb hon hoff; refine ⟨_, rfl, fun K hK => ?_⟩; have e38 := pon ha 0 (hon 0 rfl) rfl rfl rfl; have e43 := pon ha 5 (hon 5 rfl) rfl rfl rfl; refine goes_ Try.func24 (by kernel_rfl) rfl #[.agg #[.int .i64 z0, .int .i64 z1], .agg #[.int .i64 k, .int .i64 1]] (by rfl) rfl rfl (by simp [Act.eval, e38, e43]) ((C24 _).out.mono ?_); rintro e_ w'' ⟨rfl, hbc⟩; exact ⟨_, rfl, hK.out _ _ ⟨upk ha 6 hb rfl rfl, below_then HI HI.size hbc⟩⟩) ?_
          refine steps_cons (by rintro b a w' ⟨ha, HI⟩ hb hon hoff; refine ⟨_, rfl, fun K hK => ?_⟩; have e44 := pon ha 6 (hon 6 rfl) rfl rfl rfl; exact value_ (v := .bool true) (by rfl) rfl (by clear HI ha; go_simp) (hK.out _ _ ⟨upk ha 7 hb rfl rfl, HI⟩)) ?_
          exact steps_nil
        · rintro b a w' hall ⟨ha, HI⟩
          have hb0_ := hall 0 rfl; have hb1_ := hall 1 rfl; have hb2_ := hall 2 rfl; have hb3_ := hall 3 rfl; have hb4_ := hall 4 rfl; have hb5_ := hall 5 rfl; have hb6_ := hall 6 rfl; have hb7_ := hall 7 rfl
          subst ha
          simp only [putSel, hb0_, hb1_, hb2_, hb3_, hb4_, hb5_, hb6_, hb7_, if_true, Act.put, List.setIfInBounds_toArray, List.set_cons_zero, List.set_cons_succ]
          have hB := (below_then (below_drew (Below.refl _ we)) (Nat.le_refl _) HI : Below we.heap.size we w')
          clear hall HI hb0_ hb1_ hb2_ hb3_ hb4_ hb5_ hb6_ hb7_
          refine ‹∀ (a' : Act) (w' : World), Met _ a' w' → _› _ _ ?_
          go_meet
          case rel => exact ⟨rfl, ⟨hB⟩⟩
      case rest =>
        obtain ⟨rfl, HBF⟩ := hcut
        go_wp2
        go_ret
        exact ⟨rfl, below_then HBE.out HBE.out.size HBF.out⟩
    · have hv1 : ¬ v > 0 := hv
      have hcv : c = 0 := by have := HQ.out; rw [if_neg hv] at this; exact this
      subst hcv
      go_upto_region 7 with (fail)
      go_cut [45] (fun v45 wf => v45 = .bool false ∧ Side (Below we.heap.size we wf))
      case first =>
        refine start_ (n := 8) (S := fun w' => True) (ds := []) #[false, false, false, false, false, false, false, false] (by kernel_rfl) rfl rfl trivial (fun _ => ?_)
        refine inv_at (B := [0, 0, 2, 6, 14, 30, 63, 127]) [0, 1, 2, 3, 4, 5, 6, 7] (fun a0_ b a w' => a = putSel a0_ b [(0, 38, .agg #[.int .i64 z0, .int .i64 z1]), (1, 39, .pointer (some ⟨gh, 0, none⟩)), (2, 40, .pointer (some ⟨gh, 0, none⟩)), (3, 41, .pointer (some ⟨gh, 0, none⟩)), (4, 42, .int .i64 k), (5, 43, .agg #[.int .i64 k, .int .i64 1]), (6, 44, .int .i64 v), (7, 45, .bool false)] ∧ Below we.drew.heap.size we.drew w') rfl (by kernel_rfl) (by kernel_rfl) (by kernel_rfl) ?_ ?_ ?_
        · exact ⟨by simp only [putSel, Bool.false_eq_true, if_false], Below.refl _ _⟩
        · refine steps_cons (by rintro b a w' ⟨ha, HI⟩ hb hon hoff; refine ⟨_, rfl, fun K hK => ?_⟩; have e9 := poff ha (t := 9) rfl rfl; have k0_ := bc HI vgl v0; have k1_ := bc HI vgl v1; have kz_ := bz HI vgl; exact value_ (v := .agg #[.int .i64 z0, .int .i64 z1]) (by rfl) rfl (by clear HI ha; go_simp) (hK.out _ _ ⟨upk ha 0 hb rfl rfl, HI⟩)) ?_
          refine steps_cons (by rintro b a w' ⟨ha, HI⟩ hb hon hoff; refine ⟨_, rfl, fun K hK => ?_⟩; have e0 := poff ha (t := 0) rfl rfl; exact value_ (v := .pointer (some ⟨gh, 0, none⟩)) (by rfl) rfl (by clear HI ha; go_simp) (hK.out _ _ ⟨upk ha 1 hb rfl rfl, HI⟩)) ?_
          refine steps_cons (by rintro b a w' ⟨ha, HI⟩ hb hon hoff; refine ⟨_, rfl, fun K hK => ?_⟩; have e39 := pon ha 1 (hon 1 rfl) rfl rfl rfl; exact value_ (v := .pointer (some ⟨gh, 0, none⟩)) (by rfl) rfl (by clear HI ha; go_simp) (hK.out _ _ ⟨upk ha 2 hb rfl rfl, HI⟩)) ?_
          refine steps_cons (by rintro b a w' ⟨ha, HI⟩ hb hon hoff; refine ⟨_, rfl, fun K hK => ?_⟩; have e40 := pon ha 2 (hon 2 rfl) rfl rfl rfl; exact value_ (v := .pointer (some ⟨gh, 0, none⟩)) (by rfl) rfl (by clear HI ha; go_simp) (hK.out _ _ ⟨upk ha 3 hb rfl rfl, HI⟩)) ?_
          refine steps_cons (by rintro b a w' ⟨ha, HI⟩ hb hon hoff; refine ⟨_, rfl, fun K hK => ?_⟩; have e41 := pon ha 3 (hon 3 rfl) rfl rfl rfl; have k0_ := bc HI dgl d0; have kz_ := bz HI dgl; exact value_ (v := .int .i64 k) (by rfl) rfl (by clear HI ha; go_simp) (hK.out _ _ ⟨upk ha 4 hb rfl rfl, HI⟩)) ?_
          refine steps_cons (by rintro b a w' ⟨ha, HI⟩ hb hon hoff; refine ⟨_, rfl, fun K hK => ?_⟩; have e42 := pon ha 4 (hon 4 rfl) rfl rfl rfl; exact value_ (v := .agg #[.int .i64 k, .int .i64 1]) (by rfl) rfl (by clear HI ha; go_simp) (hK.out _ _ ⟨upk ha 5 hb rfl rfl, HI⟩)) ?_
          refine steps_cons (by rintro b a w' ⟨ha, HI⟩ hb hon hoff; refine ⟨_, rfl, fun K hK => ?_⟩; have e38 := pon ha 0 (hon 0 rfl) rfl rfl rfl; have e43 := pon ha 5 (hon 5 rfl) rfl rfl rfl; refine goes_ Try.func24 (by kernel_rfl) rfl #[.agg #[.int .i64 z0, .int .i64 z1], .agg #[.int .i64 k, .int .i64 1]] (by rfl) rfl rfl (by simp [Act.eval, e38, e43]) ((C24 _).out.mono ?_); rintro e_ w'' ⟨rfl, hbc⟩; exact ⟨_, rfl, hK.out _ _ ⟨upk ha 6 hb rfl rfl, below_then HI HI.size hbc⟩⟩) ?_
          refine steps_cons (by rintro b a w' ⟨ha, HI⟩ hb hon hoff; refine ⟨_, rfl, fun K hK => ?_⟩; have e44 := pon ha 6 (hon 6 rfl) rfl rfl rfl; exact value_ (v := .bool false) (by rfl) rfl (by clear HI ha; go_simp) (hK.out _ _ ⟨upk ha 7 hb rfl rfl, HI⟩)) ?_
          exact steps_nil
        · rintro b a w' hall ⟨ha, HI⟩
          have hb0_ := hall 0 rfl; have hb1_ := hall 1 rfl; have hb2_ := hall 2 rfl; have hb3_ := hall 3 rfl; have hb4_ := hall 4 rfl; have hb5_ := hall 5 rfl; have hb6_ := hall 6 rfl; have hb7_ := hall 7 rfl
          subst ha
          simp only [putSel, hb0_, hb1_, hb2_, hb3_, hb4_, hb5_, hb6_, hb7_, if_true, Act.put, List.setIfInBounds_toArray, List.set_cons_zero, List.set_cons_succ]
          have hB := (below_then (below_drew (Below.refl _ we)) (Nat.le_refl _) HI : Below we.heap.size we w')
          clear hall HI hb0_ hb1_ hb2_ hb3_ hb4_ hb5_ hb6_ hb7_
          refine ‹∀ (a' : Act) (w' : World), Met _ a' w' → _› _ _ ?_
          go_meet
          case rel => exact ⟨rfl, ⟨hB⟩⟩
      case rest =>
        obtain ⟨rfl, HBF⟩ := hcut
        go_wp2
        go_ret
        exact ⟨rfl, below_then HBE.out HBE.out.size HBF.out⟩
end Go.Proofs.Ytfgmenndmcjggaa.LeD

/- Package ratio: the walk of RatioMay over contracts that are handed in. No condition beyond them. -/
import Derived.Test.YtpgecjedifcilaaRaB
import Derived.Test.YtpgecjedifcilaaWMore
import Derived.Test.YtpgecjedifcilaaKit4
import Derived.Test.YtpgecjedifcilaaWInvWords
set_option linter.unusedVariables false
set_option linter.unusedSimpArgs false
namespace Go.Proofs.Ytpgecjedifcilaa.RMay
open Go.RowKit Go.Proofs.Ytpgecjedifcilaa.Kit Go.Proofs.Ytpgecjedifcilaa.Kit4 Go.Proofs.Ytpgecjedifcilaa.RaB
open Go.Proofs.YtpgecjedifcilaaW.PrintLast
/-- A call answers so, whatever the world. -/
abbrev CC (f : Nat) (args : Array Value) (v : Value) : Prop := ∀ w, Side (Calls Try.prog f args w fun r w' => r = .returned v ∧ Below w.heap.size w w')
theorem goes_v {ops : Array Oper} {Q : Exit → Act → World → Prop} {oi : Oper} {N : Option Tmp} {a : Act} {w : World} {K : Act → World → Prop} {f : FuncId} {fn : Func} {us : Array Operand} {ts : Array TypeId} {x : Operand} (hf : Try.prog.funcs[f]? = some fn) (hname : (fn.name == "runtime.NumGoroutine") = false) (hb : fn.body.isSome = true) (args : Array Value)
    (hw : Region.wanted oi (yielded ops a.tmps) = true) (hN : oi.dst = N) (hx : a.eval x = .func (.func f) #[] #[]) (hop : oi.op = .call { callee := .value x, args := us, argTypes := ts }) (hargs : us.map a.eval = args)
    (h : Calls Try.prog f args w fun e w' => ∃ v, e = .returned v ∧ K (a.put N v) w') : if Region.wanted oi (yielded ops a.tmps) = true then Oper.wp Try.prog oi a w K Q else K (a.put N undef) w := by
  refine call_ f args hw hN ?_ h
  have he := enters_ hf hname hb args w
  unfold execOp
  simp [hop, resolve, Deferred.ofValue, invoke, hx, hargs, he]
set_option maxHeartbeats 8000000 in
set_option maxRecDepth 100000 in
theorem no_a (a0 a1 b0 b1 : Int) (w : World)
    (AW : CC 9 #[] (.bool true))
    (M1 : CC 25 #[.agg #[.int .i64 a0, .int .i64 a1]] (.bool false))
    (A1 : CC 11 #[.agg #[.int .i64 a0, .int .i64 a1], .agg #[.int .i64 b0, .int .i64 b1]] (.tuple #[.agg #[.int .i64 0, .int .i64 0], .int .i64 2]))
    (A2 : CC 17 #[.agg #[.int .i64 a0, .int .i64 a1], .agg #[.int .i64 b0, .int .i64 b1]] (.tuple #[.agg #[.int .i64 0, .int .i64 0], .int .i64 2]))
    (A3 : CC 18 #[.agg #[.int .i64 a0, .int .i64 a1], .agg #[.int .i64 b0, .int .i64 b1]] (.tuple #[.agg #[.int .i64 0, .int .i64 0], .int .i64 2]))
    (MY : CC 26 #[.agg #[.int .i64 a0, .int .i64 a1]] (.bool false))
    (CM : CC 12 #[.agg #[.int .i64 a0, .int .i64 a1], .agg #[.int .i64 b0, .int .i64 b1]] (.int .i64 0))
    (FL : CC 13 #[.agg #[.int .i64 a0, .int .i64 a1]] (.int .i64 0))
    (CE : CC 14 #[.agg #[.int .i64 a0, .int .i64 a1]] (.int .i64 0))
    : Calls Try.prog 6 #[.agg #[.int .i64 a0, .int .i64 a1], .agg #[.int .i64 b0, .int .i64 b1]] w fun r w' => r = .returned (.bool true) ∧ Below w.heap.size w w' := by
  go_enter Try.func6, Try.ntmps6
  go_wp2_with fail
  refine (AW _).out.mono ?_
  rintro e w1 ⟨rfl, hb⟩
  have HB : Side (Below w.heap.size w w1) := ⟨below_then (by (repeat (with_reducible first | exact Below.refl _ _ | apply below_drewN | apply below_drew | apply below_alloc))) (by simp <;> omega) hb⟩
  have Ba : Side (Box2 w1 (w.heap.size) .i64 a0 a1) := ⟨Box2.below (w := ((w.alloc (.cells #[.int .i64 a0, .int .i64 a1] 26)).alloc (.cells #[.int .i64 b0, .int .i64 b1] 26))) ⟨by go_simp, by go_simp, by simp <;> omega⟩ hb⟩
  have Bb : Side (Box2 w1 (w.heap.size + 1) .i64 b0 b1) := ⟨Box2.below (w := ((w.alloc (.cells #[.int .i64 a0, .int .i64 a1] 26)).alloc (.cells #[.int .i64 b0, .int .i64 b1] 26))) ⟨by go_simp, by go_simp, by simp <;> omega⟩ hb⟩
  clear hb
  obtain ⟨gb, hgb⟩ : ∃ g, g = w.heap.size + 1 := ⟨_, rfl⟩
  rw [← hgb] at Bb ⊢
  clear hgb
  obtain ⟨ga, hga⟩ : ∃ g, g = w.heap.size := ⟨_, rfl⟩
  rw [← hga] at Ba ⊢
  clear hga
  have la0 := Ba.out.c0
  have la1 := Ba.out.c1
  have la2 := Ba.out.lt
  have lb0 := Bb.out.c0
  have lb1 := Bb.out.c1
  have lb2 := Bb.out.lt
  go_upto_region 3 with (fail)
  go_cut [5, 6] (fun v5 v6 we => (v5 = .bool false ∧ v6 = .bool false) ∧ Side (Below w1.heap.size w1 we))
  case first =>
    refine start_ (n := 10) (S := fun w' => True) (ds := []) #[false, false, false, false, false, false, false, false, false, false] (by kernel_rfl) rfl rfl trivial (fun _ => ?_)
    refine inv_at (B := [0, 1, 0, 7, 15, 31, 63, 127, 127, 511]) [0, 1, 2, 3, 4, 5, 6, 7, 8, 9] (fun a0_ b a w' => a = putSel a0_ b [(0, 16, .agg #[.int .i64 a0, .int .i64 a1]), (1, 17, .bool false), (2, 18, .agg #[.int .i64 a0, .int .i64 a1]), (3, 19, .bool false), (4, 20, .bool false), (5, 21, undef), (6, 22, undef), (7, 23, .bool false), (8, 5, .bool false), (9, 6, .bool false)] ∧ Below w1.drew.heap.size w1.drew w') rfl (by kernel_rfl) (by kernel_rfl) (by kernel_rfl) ?_ ?_ ?_
    · exact ⟨by simp only [putSel, Bool.false_eq_true, if_false], Below.refl _ _⟩
    · refine steps_cons (by rintro b a w' ⟨ha, HI⟩ hb hon hoff; refine ⟨_, rfl, fun K hK => ?_⟩; have e2 := poff ha (t := 2) rfl rfl; have k0_ := bc HI la2 la0; have k1_ := bc HI la2 la1; have kz_ := bz HI la2; exact value_ (v := .agg #[.int .i64 a0, .int .i64 a1]) (by rfl) rfl (by clear HI ha; go_simp) (hK.out _ _ ⟨upk ha 0 hb rfl rfl, HI⟩)) ?_
      refine steps_cons (by rintro b a w' ⟨ha, HI⟩ hb hon hoff; refine ⟨_, rfl, fun K hK => ?_⟩; have e16 := pon ha 0 (hon 0 rfl) rfl rfl rfl; refine goes_ Try.func25 (by kernel_rfl) rfl #[.agg #[.int .i64 a0, .int .i64 a1]] (by rfl) rfl rfl (by simp [Act.eval, e16]) ((M1 _).out.mono ?_); rintro e_ w'' ⟨rfl, hbc⟩; exact ⟨_, rfl, hK.out _ _ ⟨upk ha 1 hb rfl rfl, below_then HI HI.size hbc⟩⟩) ?_
      refine steps_cons (by rintro b a w' ⟨ha, HI⟩ hb hon hoff; refine ⟨_, rfl, fun K hK => ?_⟩; have e2 := poff ha (t := 2) rfl rfl; have k0_ := bc HI la2 la0; have k1_ := bc HI la2 la1; have kz_ := bz HI la2; exact value_ (v := .agg #[.int .i64 a0, .int .i64 a1]) (by rfl) rfl (by clear HI ha; go_simp) (hK.out _ _ ⟨upk ha 2 hb rfl rfl, HI⟩)) ?_
      refine steps_cons (by rintro b a w' ⟨ha, HI⟩ hb hon hoff; refine ⟨_, rfl, fun K hK => ?_⟩; have e18 := pon ha 2 (hon 2 rfl) rfl rfl rfl; refine goes_ Try.func25 (by kernel_rfl) rfl #[.agg #[.int .i64 a0, .int .i64 a1]] (by rfl) rfl rfl (by simp [Act.eval, e18]) ((M1 _).out.mono ?_); rintro e_ w'' ⟨rfl, hbc⟩; exact ⟨_, rfl, hK.out _ _ ⟨upk ha 3 hb rfl rfl, below_then HI HI.size hbc⟩⟩) ?_
      refine steps_cons (by rintro b a w' ⟨ha, HI⟩ hb hon hoff; refine ⟨_, rfl, fun K hK => ?_⟩; have e19 := pon ha 3 (hon 3 rfl) rfl rfl rfl; exact value_ (v := .bool false) (by rfl) rfl (by clear HI ha; go_simp) (hK.out _ _ ⟨upk ha 4 hb rfl rfl, HI⟩)) ?_
      refine steps_cons (by rintro b a w' ⟨ha, HI⟩ hb hon hoff; refine ⟨_, rfl, fun K hK => ?_⟩; have e3 := poff ha (t := 3) rfl rfl; have e20 := pon ha 4 (hon 4 rfl) rfl rfl rfl; exact off_ (wanted_off (t := 20) (u := true) rfl rfl rfl e20) (hK.out _ _ ⟨upk ha 5 hb rfl rfl, HI⟩)) ?_
      refine steps_cons (by rintro b a w' ⟨ha, HI⟩ hb hon hoff; refine ⟨_, rfl, fun K hK => ?_⟩; have e21 := pon ha 5 (hon 5 rfl) rfl rfl rfl; have e20 := pon ha 4 (hon 4 rfl) rfl rfl rfl; exact off_ (wanted_off (t := 20) (u := true) rfl rfl rfl e20) (hK.out _ _ ⟨upk ha 6 hb rfl rfl, HI⟩)) ?_
      refine steps_cons (by rintro b a w' ⟨ha, HI⟩ hb hon hoff; refine ⟨_, rfl, fun K hK => ?_⟩; have e20 := pon ha 4 (hon 4 rfl) rfl rfl rfl; have e22 := pon ha 6 (hon 6 rfl) rfl rfl rfl; exact value_ (v := .bool false) (by rfl) rfl (by clear HI ha; go_simp) (hK.out _ _ ⟨upk ha 7 hb rfl rfl, HI⟩)) ?_
      refine steps_cons (by rintro b a w' ⟨ha, HI⟩ hb hon hoff; refine ⟨_, rfl, fun K hK => ?_⟩; have e17 := pon ha 1 (hon 1 rfl) rfl rfl rfl; exact value_ (v := .bool false) (by rfl) rfl (by clear HI ha; go_simp) (hK.out _ _ ⟨upk ha 8 hb rfl rfl, HI⟩)) ?_
      refine steps_cons (by rintro b a w' ⟨ha, HI⟩ hb hon hoff; refine ⟨_, rfl, fun K hK => ?_⟩; have e23 := pon ha 7 (hon 7 rfl) rfl rfl rfl; exact value_ (v := .bool false) (by rfl) rfl (by clear HI ha; go_simp) (hK.out _ _ ⟨upk ha 9 hb rfl rfl, HI⟩)) ?_
      exact steps_nil
    · rintro b a w' hall ⟨ha, HI⟩
      have hb0_ := hall 0 rfl; have hb1_ := hall 1 rfl; have hb2_ := hall 2 rfl; have hb3_ := hall 3 rfl; have hb4_ := hall 4 rfl; have hb5_ := hall 5 rfl; have hb6_ := hall 6 rfl; have hb7_ := hall 7 rfl
      have hb8_ := hall 8 rfl; have hb9_ := hall 9 rfl
      subst ha
      simp only [putSel, hb0_, hb1_, hb2_, hb3_, hb4_, hb5_, hb6_, hb7_, hb8_, hb9_, if_true, Act.put, List.setIfInBounds_toArray, List.set_cons_zero, List.set_cons_succ]
      have hB := (below_then (below_drew (Below.refl _ w1)) (Nat.le_refl _) HI : Below w1.heap.size w1 w')
      clear hall HI hb0_ hb1_ hb2_ hb3_ hb4_ hb5_ hb6_ hb7_ hb8_ hb9_
      refine ‹∀ (a' : Act) (w' : World), Met _ a' w' → _› _ _ ?_
      go_meet
      case rel => exact ⟨⟨rfl, rfl⟩, ⟨hB⟩⟩
  case rest =>
    obtain ⟨⟨rfl, rfl⟩, HB1⟩ := hcut
    have HBn := Side.mk (below_then HB.out HB.out.size HB1.out)
    have Ban := Side.mk (Ba.out.below HB1.out)
    have Bbn := Side.mk (Bb.out.below HB1.out)
    clear HB Ba Bb la0 la1 la2 lb0 lb1 lb2
    have HB := HBn
    have Ba := Ban
    have Bb := Bbn
    clear HBn Ban Bbn
    have la0 := Ba.out.c0
    have la1 := Ba.out.c1
    have la2 := Ba.out.lt
    have lb0 := Bb.out.c0
    have lb1 := Bb.out.c1
    have lb2 := Bb.out.lt
    clear HB1 M1 AW
    go_wp2_with fail
    with_reducible refine (A1 _).out.mono ?_
    rintro e x1 ⟨rfl, hb⟩
    have HBn := Side.mk (below_then HB.out HB.out.size hb)
    have Ban := Side.mk (Ba.out.below hb)
    have Bbn := Side.mk (Bb.out.below hb)
    clear HB Ba Bb la0 la1 la2 lb0 lb1 lb2
    have HB := HBn
    have Ba := Ban
    have Bb := Bbn
    clear HBn Ban Bbn
    have la0 := Ba.out.c0
    have la1 := Ba.out.c1
    have la2 := Ba.out.lt
    have lb0 := Bb.out.c0
    have lb1 := Bb.out.c1
    have lb2 := Bb.out.lt
    clear hb A1
    go_upto_region 5 with (fail)
    have hb := (below_alloc2 (Below.refl _ x1) (.cells #[.int .i64 0, .int .i64 0] 26))
    have HBn := Side.mk (below_then HB.out HB.out.size hb)
    have Ban := Side.mk (Ba.out.below hb)
    have Bbn := Side.mk (Bb.out.below hb)
    clear HB Ba Bb la0 la1 la2 lb0 lb1 lb2
    have HB := HBn
    have Ba := Ban
    have Bb := Bbn
    clear HBn Ban Bbn
    have la0 := Ba.out.c0
    have la1 := Ba.out.c1
    have la2 := Ba.out.lt
    have lb0 := Bb.out.c0
    have lb1 := Bb.out.c1
    have lb2 := Bb.out.lt
    clear hb
    generalize (x1.alloc (.cells #[.int .i64 0, .int .i64 0] 26)) = y1 at *
    go_wp2_with fail
    with_reducible refine (A2 _).out.mono ?_
    rintro e x2 ⟨rfl, hb⟩
    have HBn := Side.mk (below_then HB.out HB.out.size hb)
    have Ban := Side.mk (Ba.out.below hb)
    have Bbn := Side.mk (Bb.out.below hb)
    clear HB Ba Bb la0 la1 la2 lb0 lb1 lb2
    have HB := HBn
    have Ba := Ban
    have Bb := Bbn
    clear HBn Ban Bbn
    have la0 := Ba.out.c0
    have la1 := Ba.out.c1
    have la2 := Ba.out.lt
    have lb0 := Bb.out.c0
    have lb1 := Bb.out.c1
    have lb2 := Bb.out.lt
    clear hb A2
    go_upto_region 6 with (fail)
    have hb := (below_alloc2 (Below.refl _ x2) (.cells #[.int .i64 0, .int .i64 0] 26))
    have HBn := Side.mk (below_then HB.out HB.out.size hb)
    have Ban := Side.mk (Ba.out.below hb)
    have Bbn := Side.mk (Bb.out.below hb)
    clear HB Ba Bb la0 la1 la2 lb0 lb1 lb2
    have HB := HBn
    have Ba := Ban
    have Bb := Bbn
    clear HBn Ban Bbn
    have la0 := Ba.out.c0
    have la1 := Ba.out.c1
    have la2 := Ba.out.lt
    have lb0 := Bb.out.c0
    have lb1 := Bb.out.c1
    have lb2 := Bb.out.lt
    clear hb
    generalize (x2.alloc (.cells #[.int .i64 0, .int .i64 0] 26)) = y2 at *
    go_wp2_with fail
    with_reducible refine (A3 _).out.mono ?_
    rintro e x3 ⟨rfl, hb⟩
    have HBn := Side.mk (below_then HB.out HB.out.size hb)
    have Ban := Side.mk (Ba.out.below hb)
    have Bbn := Side.mk (Bb.out.below hb)
    clear HB Ba Bb la0 la1 la2 lb0 lb1 lb2
    have HB := HBn
    have Ba := Ban
    have Bb := Bbn
    clear HBn Ban Bbn
    have la0 := Ba.out.c0
    have la1 := Ba.out.c1
    have la2 := Ba.out.lt
    have lb0 := Bb.out.c0
    have lb1 := Bb.out.c1
    have lb2 := Bb.out.lt
    clear hb A3
    go_upto_region 7 with (fail)
    have hb := (below_alloc2 (Below.refl _ x3) (.cells #[.int .i64 0, .int .i64 0] 26))
    have HBn := Side.mk (below_then HB.out HB.out.size hb)
    have Ban := Side.mk (Ba.out.below hb)
    have Bbn := Side.mk (Bb.out.below hb)
    clear HB Ba Bb la0 la1 la2 lb0 lb1 lb2
    have HB := HBn
    have Ba := Ban
    have Bb := Bbn
    clear HBn Ban Bbn
    have la0 := Ba.out.c0
    have la1 := Ba.out.c1
    have la2 := Ba.out.lt
    have lb0 := Bb.out.c0
    have lb1 := Bb.out.c1
    have lb2 := Bb.out.lt
    clear hb
    generalize (x3.alloc (.cells #[.int .i64 0, .int .i64 0] 26)) = y3 at *
    go_wp2_with fail
    with_reducible refine (MY _).out.mono ?_
    rintro e z0 ⟨rfl, hb⟩
    have HBn := Side.mk (below_then HB.out HB.out.size hb)
    have Ban := Side.mk (Ba.out.below hb)
    have Bbn := Side.mk (Bb.out.below hb)
    clear HB Ba Bb la0 la1 la2 lb0 lb1 lb2
    have HB := HBn
    have Ba := Ban
    have Bb := Bbn
    clear HBn Ban Bbn
    have la0 := Ba.out.c0
    have la1 := Ba.out.c1
    have la2 := Ba.out.lt
    have lb0 := Bb.out.c0
    have lb1 := Bb.out.c1
    have lb2 := Bb.out.lt
    clear hb MY
    go_wp2_with fail
    with_reducible refine (CM _).out.mono ?_
    rintro e z1 ⟨rfl, hb⟩
    have HBn := Side.mk (below_then HB.out HB.out.size hb)
    have Ban := Side.mk (Ba.out.below hb)
    have Bbn := Side.mk (Bb.out.below hb)
    clear HB Ba Bb la0 la1 la2 lb0 lb1 lb2
    have HB := HBn
    have Ba := Ban
    have Bb := Bbn
    clear HBn Ban Bbn
    have la0 := Ba.out.c0
    have la1 := Ba.out.c1
    have la2 := Ba.out.lt
    have lb0 := Bb.out.c0
    have lb1 := Bb.out.c1
    have lb2 := Bb.out.lt
    clear hb CM
    go_wp2_with fail
    with_reducible refine (FL _).out.mono ?_
    rintro e z2 ⟨rfl, hb⟩
    have HBn := Side.mk (below_then HB.out HB.out.size hb)
    have Ban := Side.mk (Ba.out.below hb)
    have Bbn := Side.mk (Bb.out.below hb)
    clear HB Ba Bb la0 la1 la2 lb0 lb1 lb2
    have HB := HBn
    have Ba := Ban
    have Bb := Bbn
    clear HBn Ban Bbn
    have la0 := Ba.out.c0
    have la1 := Ba.out.c1
    have la2 := Ba.out.lt
    have lb0 := Bb.out.c0
    have lb1 := Bb.out.c1
    have lb2 := Bb.out.lt
    clear hb FL
    go_wp2_with fail
    with_reducible refine (CE _).out.mono ?_
    rintro e z3 ⟨rfl, hb⟩
    have HBn := Side.mk (below_then HB.out HB.out.size hb)
    have Ban := Side.mk (Ba.out.below hb)
    have Bbn := Side.mk (Bb.out.below hb)
    clear HB Ba Bb la0 la1 la2 lb0 lb1 lb2
    have HB := HBn
    have Ba := Ban
    have Bb := Bbn
    clear HBn Ban Bbn
    have la0 := Ba.out.c0
    have la1 := Ba.out.c1
    have la2 := Ba.out.lt
    have lb0 := Bb.out.c0
    have lb1 := Bb.out.c1
    have lb2 := Bb.out.lt
    clear hb CE
    go_wp2
    go_ret
    exact ⟨rfl, HB.out⟩
set_option maxHeartbeats 8000000 in
set_option maxRecDepth 100000 in
theorem no_b (a0 a1 b0 b1 : Int) (w : World)
    (AW : CC 9 #[] (.bool true))
    (M1 : CC 25 #[.agg #[.int .i64 a0, .int .i64 a1]] (.bool true))
    (M2 : CC 25 #[.agg #[.int .i64 b0, .int .i64 b1]] (.bool false))
    (A1 : CC 11 #[.agg #[.int .i64 a0, .int .i64 a1], .agg #[.int .i64 b0, .int .i64 b1]] (.tuple #[.agg #[.int .i64 0, .int .i64 0], .int .i64 2]))
    (A2 : CC 17 #[.agg #[.int .i64 a0, .int .i64 a1], .agg #[.int .i64 b0, .int .i64 b1]] (.tuple #[.agg #[.int .i64 0, .int .i64 0], .int .i64 2]))
    (A3 : CC 18 #[.agg #[.int .i64 a0, .int .i64 a1], .agg #[.int .i64 b0, .int .i64 b1]] (.tuple #[.agg #[.int .i64 0, .int .i64 0], .int .i64 2]))
    (MY : CC 26 #[.agg #[.int .i64 a0, .int .i64 a1]] (.bool true))
    (CM : CC 12 #[.agg #[.int .i64 a0, .int .i64 a1], .agg #[.int .i64 b0, .int .i64 b1]] (.int .i64 0))
    : Calls Try.prog 6 #[.agg #[.int .i64 a0, .int .i64 a1], .agg #[.int .i64 b0, .int .i64 b1]] w fun r w' => r = .returned (.bool true) ∧ Below w.heap.size w w' := by
  go_enter Try.func6, Try.ntmps6
  go_wp2_with fail
  refine (AW _).out.mono ?_
  rintro e w1 ⟨rfl, hb⟩
  have HB : Side (Below w.heap.size w w1) := ⟨below_then (by (repeat (with_reducible first | exact Below.refl _ _ | apply below_drewN | apply below_drew | apply below_alloc))) (by simp <;> omega) hb⟩
  have Ba : Side (Box2 w1 (w.heap.size) .i64 a0 a1) := ⟨Box2.below (w := ((w.alloc (.cells #[.int .i64 a0, .int .i64 a1] 26)).alloc (.cells #[.int .i64 b0, .int .i64 b1] 26))) ⟨by go_simp, by go_simp, by simp <;> omega⟩ hb⟩
  have Bb : Side (Box2 w1 (w.heap.size + 1) .i64 b0 b1) := ⟨Box2.below (w := ((w.alloc (.cells #[.int .i64 a0, .int .i64 a1] 26)).alloc (.cells #[.int .i64 b0, .int .i64 b1] 26))) ⟨by go_simp, by go_simp, by simp <;> omega⟩ hb⟩
  clear hb
  obtain ⟨gb, hgb⟩ : ∃ g, g = w.heap.size + 1 := ⟨_, rfl⟩
  rw [← hgb] at Bb ⊢
  clear hgb
  obtain ⟨ga, hga⟩ : ∃ g, g = w.heap.size := ⟨_, rfl⟩
  rw [← hga] at Ba ⊢
  clear hga
  have la0 := Ba.out.c0
  have la1 := Ba.out.c1
  have la2 := Ba.out.lt
  have lb0 := Bb.out.c0
  have lb1 := Bb.out.c1
  have lb2 := Bb.out.lt
  go_upto_region 3 with (fail)
  go_cut [5, 6] (fun v5 v6 we => (v5 = .bool true ∧ v6 = .bool false) ∧ Side (Below w1.heap.size w1 we))
  case first =>
    refine start_ (n := 10) (S := fun w' => True) (ds := []) #[false, false, false, false, false, false, false, false, false, false] (by kernel_rfl) rfl rfl trivial (fun _ => ?_)
    refine inv_at (B := [0, 1, 0, 7, 15, 31, 63, 127, 127, 511]) [0, 1, 2, 3, 4, 5, 6, 7, 8, 9] (fun a0_ b a w' => a = putSel a0_ b [(0, 16, .agg #[.int .i64 a0, .int .i64 a1]), (1, 17, .bool true), (2, 18, .agg #[.int .i64 a0, .int .i64 a1]), (3, 19, .bool true), (4, 20, .bool true), (5, 21, .agg #[.int .i64 b0, .int .i64 b1]), (6, 22, .bool false), (7, 23, .bool false), (8, 5, .bool true), (9, 6, .bool false)] ∧ Below w1.drew.heap.size w1.drew w') rfl (by kernel_rfl) (by kernel_rfl) (by kernel_rfl) ?_ ?_ ?_
    · exact ⟨by simp only [putSel, Bool.false_eq_true, if_false], Below.refl _ _⟩
    · refine steps_cons (by rintro b a w' ⟨ha, HI⟩ hb hon hoff; refine ⟨_, rfl, fun K hK => ?_⟩; have e2 := poff ha (t := 2) rfl rfl; have k0_ := bc HI la2 la0; have k1_ := bc HI la2 la1; have kz_ := bz HI la2; exact value_ (v := .agg #[.int .i64 a0, .int .i64 a1]) (by rfl) rfl (by clear HI ha; go_simp) (hK.out _ _ ⟨upk ha 0 hb rfl rfl, HI⟩)) ?_
      refine steps_cons (by rintro b a w' ⟨ha, HI⟩ hb hon hoff; refine ⟨_, rfl, fun K hK => ?_⟩; have e16 := pon ha 0 (hon 0 rfl) rfl rfl rfl; refine goes_ Try.func25 (by kernel_rfl) rfl #[.agg #[.int .i64 a0, .int .i64 a1]] (by rfl) rfl rfl (by simp [Act.eval, e16]) ((M1 _).out.mono ?_); rintro e_ w'' ⟨rfl, hbc⟩; exact ⟨_, rfl, hK.out _ _ ⟨upk ha 1 hb rfl rfl, below_then HI HI.size hbc⟩⟩) ?_
      refine steps_cons (by rintro b a w' ⟨ha, HI⟩ hb hon hoff; refine ⟨_, rfl, fun K hK => ?_⟩; have e2 := poff ha (t := 2) rfl rfl; have k0_ := bc HI la2 la0; have k1_ := bc HI la2 la1; have kz_ := bz HI la2; exact value_ (v := .agg #[.int .i64 a0, .int .i64 a1]) (by rfl) rfl (by clear HI ha; go_simp) (hK.out _ _ ⟨upk ha 2 hb rfl rfl, HI⟩)) ?_
      refine steps_cons (by rintro b a w' ⟨ha, HI⟩ hb hon hoff; refine ⟨_, rfl, fun K hK => ?_⟩; have e18 := pon ha 2 (hon 2 rfl) rfl rfl rfl; refine goes_ Try.func25 (by kernel_rfl) rfl #[.agg #[.int .i64 a0, .int .i64 a1]] (by rfl) rfl rfl (by simp [Act.eval, e18]) ((M1 _).out.mono ?_); rintro e_ w'' ⟨rfl, hbc⟩; exact ⟨_, rfl, hK.out _ _ ⟨upk ha 3 hb rfl rfl, below_then HI HI.size hbc⟩⟩) ?_
      refine steps_cons (by rintro b a w' ⟨ha, HI⟩ hb hon hoff; refine ⟨_, rfl, fun K hK => ?_⟩; have e19 := pon ha 3 (hon 3 rfl) rfl rfl rfl; exact value_ (v := .bool true) (by rfl) rfl (by clear HI ha; go_simp) (hK.out _ _ ⟨upk ha 4 hb rfl rfl, HI⟩)) ?_
      refine steps_cons (by rintro b a w' ⟨ha, HI⟩ hb hon hoff; refine ⟨_, rfl, fun K hK => ?_⟩; have e3 := poff ha (t := 3) rfl rfl; have e20 := pon ha 4 (hon 4 rfl) rfl rfl rfl; have k0_ := bc HI lb2 lb0; have k1_ := bc HI lb2 lb1; have kz_ := bz HI lb2; exact value_ (v := .agg #[.int .i64 b0, .int .i64 b1]) (wanted_on (t := 20) (u := true) rfl rfl rfl e20) rfl (by clear HI ha; go_simp) (hK.out _ _ ⟨upk ha 5 hb rfl rfl, HI⟩)) ?_
      refine steps_cons (by rintro b a w' ⟨ha, HI⟩ hb hon hoff; refine ⟨_, rfl, fun K hK => ?_⟩; have e21 := pon ha 5 (hon 5 rfl) rfl rfl rfl; have e20 := pon ha 4 (hon 4 rfl) rfl rfl rfl; refine goes_ Try.func25 (by kernel_rfl) rfl #[.agg #[.int .i64 b0, .int .i64 b1]] (wanted_on (t := 20) (u := true) rfl rfl rfl e20) rfl rfl (by simp [Act.eval, e21, e20]) ((M2 _).out.mono ?_); rintro e_ w'' ⟨rfl, hbc⟩; exact ⟨_, rfl, hK.out _ _ ⟨upk ha 6 hb rfl rfl, below_then HI HI.size hbc⟩⟩) ?_
      refine steps_cons (by rintro b a w' ⟨ha, HI⟩ hb hon hoff; refine ⟨_, rfl, fun K hK => ?_⟩; have e20 := pon ha 4 (hon 4 rfl) rfl rfl rfl; have e22 := pon ha 6 (hon 6 rfl) rfl rfl rfl; exact value_ (v := .bool false) (by rfl) rfl (by clear HI ha; go_simp) (hK.out _ _ ⟨upk ha 7 hb rfl rfl, HI⟩)) ?_
      refine steps_cons (by rintro b a w' ⟨ha, HI⟩ hb hon hoff; refine ⟨_, rfl, fun K hK => ?_⟩; have e17 := pon ha 1 (hon 1 rfl) rfl rfl rfl; exact value_ (v := .bool true) (by rfl) rfl (by clear HI ha; go_simp) (hK.out _ _ ⟨upk ha 8 hb rfl rfl, HI⟩)) ?_
      refine steps_cons (by rintro b a w' ⟨ha, HI⟩ hb hon hoff; refine ⟨_, rfl, fun K hK => ?_⟩; have e23 := pon ha 7 (hon 7 rfl) rfl rfl rfl; exact value_ (v := .bool false) (by rfl) rfl (by clear HI ha; go_simp) (hK.out _ _ ⟨upk ha 9 hb rfl rfl, HI⟩)) ?_
      exact steps_nil
    · rintro b a w' hall ⟨ha, HI⟩
      have hb0_ := hall 0 rfl; have hb1_ := hall 1 rfl; have hb2_ := hall 2 rfl; have hb3_ := hall 3 rfl; have hb4_ := hall 4 rfl; have hb5_ := hall 5 rfl; have hb6_ := hall 6 rfl; have hb7_ := hall 7 rfl
      have hb8_ := hall 8 rfl; have hb9_ := hall 9 rfl
      subst ha
      simp only [putSel, hb0_, hb1_, hb2_, hb3_, hb4_, hb5_, hb6_, hb7_, hb8_, hb9_, if_true, Act.put, List.setIfInBounds_toArray, List.set_cons_zero, List.set_cons_succ]
      have hB := (below_then (below_drew (Below.refl _ w1)) (Nat.le_refl _) HI : Below w1.heap.size w1 w')
      clear hall HI hb0_ hb1_ hb2_ hb3_ hb4_ hb5_ hb6_ hb7_ hb8_ hb9_
      refine ‹∀ (a' : Act) (w' : World), Met _ a' w' → _› _ _ ?_
      go_meet
      case rel => exact ⟨⟨rfl, rfl⟩, ⟨hB⟩⟩
  case rest =>
    obtain ⟨⟨rfl, rfl⟩, HB1⟩ := hcut
    have HBn := Side.mk (below_then HB.out HB.out.size HB1.out)
    have Ban := Side.mk (Ba.out.below HB1.out)
    have Bbn := Side.mk (Bb.out.below HB1.out)
    clear HB Ba Bb la0 la1 la2 lb0 lb1 lb2
    have HB := HBn
    have Ba := Ban
    have Bb := Bbn
    clear HBn Ban Bbn
    have la0 := Ba.out.c0
    have la1 := Ba.out.c1
    have la2 := Ba.out.lt
    have lb0 := Bb.out.c0
    have lb1 := Bb.out.c1
    have lb2 := Bb.out.lt
    clear HB1 M1 M2 AW
    go_wp2_with fail
    with_reducible refine (A1 _).out.mono ?_
    rintro e x1 ⟨rfl, hb⟩
    have HBn := Side.mk (below_then HB.out HB.out.size hb)
    have Ban := Side.mk (Ba.out.below hb)
    have Bbn := Side.mk (Bb.out.below hb)
    clear HB Ba Bb la0 la1 la2 lb0 lb1 lb2
    have HB := HBn
    have Ba := Ban
    have Bb := Bbn
    clear HBn Ban Bbn
    have la0 := Ba.out.c0
    have la1 := Ba.out.c1
    have la2 := Ba.out.lt
    have lb0 := Bb.out.c0
    have lb1 := Bb.out.c1
    have lb2 := Bb.out.lt
    clear hb A1
    go_upto_region 5 with (fail)
    have hb := (below_alloc2 (Below.refl _ x1) (.cells #[.int .i64 0, .int .i64 0] 26))
    have HBn := Side.mk (below_then HB.out HB.out.size hb)
    have Ban := Side.mk (Ba.out.below hb)
    have Bbn := Side.mk (Bb.out.below hb)
    clear HB Ba Bb la0 la1 la2 lb0 lb1 lb2
    have HB := HBn
    have Ba := Ban
    have Bb := Bbn
    clear HBn Ban Bbn
    have la0 := Ba.out.c0
    have la1 := Ba.out.c1
    have la2 := Ba.out.lt
    have lb0 := Bb.out.c0
    have lb1 := Bb.out.c1
    have lb2 := Bb.out.lt
    clear hb
    generalize (x1.alloc (.cells #[.int .i64 0, .int .i64 0] 26)) = y1 at *
    go_wp2_with fail
    with_reducible refine (A2 _).out.mono ?_
    rintro e x2 ⟨rfl, hb⟩
    have HBn := Side.mk (below_then HB.out HB.out.size hb)
    have Ban := Side.mk (Ba.out.below hb)
    have Bbn := Side.mk (Bb.out.below hb)
    clear HB Ba Bb la0 la1 la2 lb0 lb1 lb2
    have HB := HBn
    have Ba := Ban
    have Bb := Bbn
    clear HBn Ban Bbn
    have la0 := Ba.out.c0
    have la1 := Ba.out.c1
    have la2 := Ba.out.lt
    have lb0 := Bb.out.c0
    have lb1 := Bb.out.c1
    have lb2 := Bb.out.lt
    clear hb A2
    go_upto_region 6 with (fail)
    have hb := (below_alloc2 (Below.refl _ x2) (.cells #[.int .i64 0, .int .i64 0] 26))
    have HBn := Side.mk (below_then HB.out HB.out.size hb)
    have Ban := Side.mk (Ba.out.below hb)
    have Bbn := Side.mk (Bb.out.below hb)
    clear HB Ba Bb la0 la1 la2 lb0 lb1 lb2
    have HB := HBn
    have Ba := Ban
    have Bb := Bbn
    clear HBn Ban Bbn
    have la0 := Ba.out.c0
    have la1 := Ba.out.c1
    have la2 := Ba.out.lt
    have lb0 := Bb.out.c0
    have lb1 := Bb.out.c1
    have lb2 := Bb.out.lt
    clear hb
    generalize (x2.alloc (.cells #[.int .i64 0, .int .i64 0] 26)) = y2 at *
    go_wp2_with fail
    with_reducible refine (A3 _).out.mono ?_
    rintro e x3 ⟨rfl, hb⟩
    have HBn := Side.mk (below_then HB.out HB.out.size hb)
    have Ban := Side.mk (Ba.out.below hb)
    have Bbn := Side.mk (Bb.out.below hb)
    clear HB Ba Bb la0 la1 la2 lb0 lb1 lb2
    have HB := HBn
    have Ba := Ban
    have Bb := Bbn
    clear HBn Ban Bbn
    have la0 := Ba.out.c0
    have la1 := Ba.out.c1
    have la2 := Ba.out.lt
    have lb0 := Bb.out.c0
    have lb1 := Bb.out.c1
    have lb2 := Bb.out.lt
    clear hb A3
    go_upto_region 7 with (fail)
    have hb := (below_alloc2 (Below.refl _ x3) (.cells #[.int .i64 0, .int .i64 0] 26))
    have HBn := Side.mk (below_then HB.out HB.out.size hb)
    have Ban := Side.mk (Ba.out.below hb)
    have Bbn := Side.mk (Bb.out.below hb)
    clear HB Ba Bb la0 la1 la2 lb0 lb1 lb2
    have HB := HBn
    have Ba := Ban
    have Bb := Bbn
    clear HBn Ban Bbn
    have la0 := Ba.out.c0
    have la1 := Ba.out.c1
    have la2 := Ba.out.lt
    have lb0 := Bb.out.c0
    have lb1 := Bb.out.c1
    have lb2 := Bb.out.lt
    clear hb
    generalize (x3.alloc (.cells #[.int .i64 0, .int .i64 0] 26)) = y3 at *
    go_wp2_with fail
    with_reducible refine (MY _).out.mono ?_
    rintro e z0 ⟨rfl, hb⟩
    have HBn := Side.mk (below_then HB.out HB.out.size hb)
    have Ban := Side.mk (Ba.out.below hb)
    have Bbn := Side.mk (Bb.out.below hb)
    clear HB Ba Bb la0 la1 la2 lb0 lb1 lb2
    have HB := HBn
    have Ba := Ban
    have Bb := Bbn
    clear HBn Ban Bbn
    have la0 := Ba.out.c0
    have la1 := Ba.out.c1
    have la2 := Ba.out.lt
    have lb0 := Bb.out.c0
    have lb1 := Bb.out.c1
    have lb2 := Bb.out.lt
    clear hb MY
    go_wp2_with fail
    with_reducible refine (CM _).out.mono ?_
    rintro e z1 ⟨rfl, hb⟩
    have HBn := Side.mk (below_then HB.out HB.out.size hb)
    have Ban := Side.mk (Ba.out.below hb)
    have Bbn := Side.mk (Bb.out.below hb)
    clear HB Ba Bb la0 la1 la2 lb0 lb1 lb2
    have HB := HBn
    have Ba := Ban
    have Bb := Bbn
    clear HBn Ban Bbn
    have la0 := Ba.out.c0
    have la1 := Ba.out.c1
    have la2 := Ba.out.lt
    have lb0 := Bb.out.c0
    have lb1 := Bb.out.c1
    have lb2 := Bb.out.lt
    clear hb CM
    go_wp2
    go_ret
    exact ⟨rfl, HB.out⟩
set_option maxHeartbeats 8000000 in
set_option maxRecDepth 100000 in
theorem yes (a0 a1 b0 b1 : Int) (w : World) (n1 m1 e1 n2 m2 e2 n3 m3 e3 r : Int)
    (AW : CC 9 #[] (.bool true))
    (M1 : CC 25 #[.agg #[.int .i64 a0, .int .i64 a1]] (.bool true))
    (M2 : CC 25 #[.agg #[.int .i64 b0, .int .i64 b1]] (.bool true))
    (A1 : CC 11 #[.agg #[.int .i64 a0, .int .i64 a1], .agg #[.int .i64 b0, .int .i64 b1]] (.tuple #[.agg #[.int .i64 n1, .int .i64 m1], .int .i64 e1]))
    (A2 : CC 17 #[.agg #[.int .i64 a0, .int .i64 a1], .agg #[.int .i64 b0, .int .i64 b1]] (.tuple #[.agg #[.int .i64 n2, .int .i64 m2], .int .i64 e2]))
    (A3 : CC 18 #[.agg #[.int .i64 a0, .int .i64 a1], .agg #[.int .i64 b0, .int .i64 b1]] (.tuple #[.agg #[.int .i64 n3, .int .i64 m3], .int .i64 e3]))
    (MY : CC 26 #[.agg #[.int .i64 a0, .int .i64 a1]] (.bool true))
    (CM : CC 12 #[.agg #[.int .i64 a0, .int .i64 a1], .agg #[.int .i64 b0, .int .i64 b1]] (.int .i64 r))
    (CR : CC 28 #[.int .i64 a0, .int .i64 b1, .int .i64 b0, .int .i64 a1] (.int .i64 r))
    (O1 : CC 27 #[.int .i64 e1] (.bool true))
    (O2 : CC 27 #[.int .i64 e2] (.bool true))
    (O3 : CC 27 #[.int .i64 e3] (.bool true))
    : Calls Try.prog 6 #[.agg #[.int .i64 a0, .int .i64 a1], .agg #[.int .i64 b0, .int .i64 b1]] w fun r w' => r = .returned (.bool true) ∧ Below w.heap.size w w' := by
  go_enter Try.func6, Try.ntmps6
  go_wp2_with fail
  refine (AW _).out.mono ?_
  rintro e w1 ⟨rfl, hb⟩
  have HB : Side (Below w.heap.size w w1) := ⟨below_then (by (repeat (with_reducible first | exact Below.refl _ _ | apply below_drewN | apply below_drew | apply below_alloc))) (by simp <;> omega) hb⟩
  have Ba : Side (Box2 w1 (w.heap.size) .i64 a0 a1) := ⟨Box2.below (w := ((w.alloc (.cells #[.int .i64 a0, .int .i64 a1] 26)).alloc (.cells #[.int .i64 b0, .int .i64 b1] 26))) ⟨by go_simp, by go_simp, by simp <;> omega⟩ hb⟩
  have Bb : Side (Box2 w1 (w.heap.size + 1) .i64 b0 b1) := ⟨Box2.below (w := ((w.alloc (.cells #[.int .i64 a0, .int .i64 a1] 26)).alloc (.cells #[.int .i64 b0, .int .i64 b1] 26))) ⟨by go_simp, by go_simp, by simp <;> omega⟩ hb⟩
  clear hb
  obtain ⟨gb, hgb⟩ : ∃ g, g = w.heap.size + 1 := ⟨_, rfl⟩
  rw [← hgb] at Bb ⊢
  clear hgb
  obtain ⟨ga, hga⟩ : ∃ g, g = w.heap.size := ⟨_, rfl⟩
  rw [← hga] at Ba ⊢
  clear hga
  have la0 := Ba.out.c0
  have la1 := Ba.out.c1
  have la2 := Ba.out.lt
  have lb0 := Bb.out.c0
  have lb1 := Bb.out.c1
  have lb2 := Bb.out.lt
  go_upto_region 3 with (fail)
  go_cut [5, 6] (fun v5 v6 we => (v5 = .bool true ∧ v6 = .bool true) ∧ Side (Below w1.heap.size w1 we))
  case first =>
    refine start_ (n := 10) (S := fun w' => True) (ds := []) #[false, false, false, false, false, false, false, false, false, false] (by kernel_rfl) rfl rfl trivial (fun _ => ?_)
    refine inv_at (B := [0, 1, 0, 7, 15, 31, 63, 127, 127, 511]) [0, 1, 2, 3, 4, 5, 6, 7, 8, 9] (fun a0_ b a w' => a = putSel a0_ b [(0, 16, .agg #[.int .i64 a0, .int .i64 a1]), (1, 17, .bool true), (2, 18, .agg #[.int .i64 a0, .int .i64 a1]), (3, 19, .bool true), (4, 20, .bool true), (5, 21, .agg #[.int .i64 b0, .int .i64 b1]), (6, 22, .bool true), (7, 23, .bool true), (8, 5, .bool true), (9, 6, .bool true)] ∧ Below w1.drew.heap.size w1.drew w') rfl (by kernel_rfl) (by kernel_rfl) (by kernel_rfl) ?_ ?_ ?_
    · exact ⟨by simp only [putSel, Bool.false_eq_true, if_false], Below.refl _ _⟩
    · refine steps_cons (by rintro b a w' ⟨ha, HI⟩ hb hon hoff; refine ⟨_, rfl, fun K hK => ?_⟩; have e2 := poff ha (t := 2) rfl rfl; have k0_ := bc HI la2 la0; have k1_ := bc HI la2 la1; have kz_ := bz HI la2; exact value_ (v := .agg #[.int .i64 a0, .int .i64 a1]) (by rfl) rfl (by clear HI ha; go_simp) (hK.out _ _ ⟨upk ha 0 hb rfl rfl, HI⟩)) ?_
      refine steps_cons (by rintro b a w' ⟨ha, HI⟩ hb hon hoff; refine ⟨_, rfl, fun K hK => ?_⟩; have e16 := pon ha 0 (hon 0 rfl) rfl rfl rfl; refine goes_ Try.func25 (by kernel_rfl) rfl #[.agg #[.int .i64 a0, .int .i64 a1]] (by rfl) rfl rfl (by simp [Act.eval, e16]) ((M1 _).out.mono ?_); rintro e_ w'' ⟨rfl, hbc⟩; exact ⟨_, rfl, hK.out _ _ ⟨upk ha 1 hb rfl rfl, below_then HI HI.size hbc⟩⟩) ?_
      refine steps_cons (by rintro b a w' ⟨ha, HI⟩ hb hon hoff; refine ⟨_, rfl, fun K hK => ?_⟩; have e2 := poff ha (t := 2) rfl rfl; have k0_ := bc HI la2 la0; have k1_ := bc HI la2 la1; have kz_ := bz HI la2; exact value_ (v := .agg #[.int .i64 a0, .int .i64 a1]) (by rfl) rfl (by clear HI ha; go_simp) (hK.out _ _ ⟨upk ha 2 hb rfl rfl, HI⟩)) ?_
      refine steps_cons (by rintro b a w' ⟨ha, HI⟩ hb hon hoff; refine ⟨_, rfl, fun K hK => ?_⟩; have e18 := pon ha 2 (hon 2 rfl) rfl rfl rfl; refine goes_ Try.func25 (by kernel_rfl) rfl #[.agg #[.int .i64 a0, .int .i64 a1]] (by rfl) rfl rfl (by simp [Act.eval, e18]) ((M1 _).out.mono ?_); rintro e_ w'' ⟨rfl, hbc⟩; exact ⟨_, rfl, hK.out _ _ ⟨upk ha 3 hb rfl rfl, below_then HI HI.size hbc⟩⟩) ?_
      refine steps_cons (by rintro b a w' ⟨ha, HI⟩ hb hon hoff; refine ⟨_, rfl, fun K hK => ?_⟩; have e19 := pon ha 3 (hon 3 rfl) rfl rfl rfl; exact value_ (v := .bool true) (by rfl) rfl (by clear HI ha; go_simp) (hK.out _ _ ⟨upk ha 4 hb rfl rfl, HI⟩)) ?_
      refine steps_cons (by rintro b a w' ⟨ha, HI⟩ hb hon hoff; refine ⟨_, rfl, fun K hK => ?_⟩; have e3 := poff ha (t := 3) rfl rfl; have e20 := pon ha 4 (hon 4 rfl) rfl rfl rfl; have k0_ := bc HI lb2 lb0; have k1_ := bc HI lb2 lb1; have kz_ := bz HI lb2; exact value_ (v := .agg #[.int .i64 b0, .int .i64 b1]) (wanted_on (t := 20) (u := true) rfl rfl rfl e20) rfl (by clear HI ha; go_simp) (hK.out _ _ ⟨upk ha 5 hb rfl rfl, HI⟩)) ?_
      refine steps_cons (by rintro b a w' ⟨ha, HI⟩ hb hon hoff; refine ⟨_, rfl, fun K hK => ?_⟩; have e21 := pon ha 5 (hon 5 rfl) rfl rfl rfl; have e20 := pon ha 4 (hon 4 rfl) rfl rfl rfl; refine goes_ Try.func25 (by kernel_rfl) rfl #[.agg #[.int .i64 b0, .int .i64 b1]] (wanted_on (t := 20) (u := true) rfl rfl rfl e20) rfl rfl (by simp [Act.eval, e21, e20]) ((M2 _).out.mono ?_); rintro e_ w'' ⟨rfl, hbc⟩; exact ⟨_, rfl, hK.out _ _ ⟨upk ha 6 hb rfl rfl, below_then HI HI.size hbc⟩⟩) ?_
      refine steps_cons (by rintro b a w' ⟨ha, HI⟩ hb hon hoff; refine ⟨_, rfl, fun K hK => ?_⟩; have e20 := pon ha 4 (hon 4 rfl) rfl rfl rfl; have e22 := pon ha 6 (hon 6 rfl) rfl rfl rfl; exact value_ (v := .bool true) (by rfl) rfl (by clear HI ha; go_simp) (hK.out _ _ ⟨upk ha 7 hb rfl rfl, HI⟩)) ?_
      refine steps_cons (by rintro b a w' ⟨ha, HI⟩ hb hon hoff; refine ⟨_, rfl, fun K hK => ?_⟩; have e17 := pon ha 1 (hon 1 rfl) rfl rfl rfl; exact value_ (v := .bool true) (by rfl) rfl (by clear HI ha; go_simp) (hK.out _ _ ⟨upk ha 8 hb rfl rfl, HI⟩)) ?_
      refine steps_cons (by rintro b a w' ⟨ha, HI⟩ hb hon hoff; refine ⟨_, rfl, fun K hK => ?_⟩; have e23 := pon ha 7 (hon 7 rfl) rfl rfl rfl; exact value_ (v := .bool true) (by rfl) rfl (by clear HI ha; go_simp) (hK.out _ _ ⟨upk ha 9 hb rfl rfl, HI⟩)) ?_
      exact steps_nil
    · rintro b a w' hall ⟨ha, HI⟩
      have hb0_ := hall 0 rfl; have hb1_ := hall 1 rfl; have hb2_ := hall 2 rfl; have hb3_ := hall 3 rfl; have hb4_ := hall 4 rfl; have hb5_ := hall 5 rfl; have hb6_ := hall 6 rfl; have hb7_ := hall 7 rfl
      have hb8_ := hall 8 rfl; have hb9_ := hall 9 rfl
      subst ha
      simp only [putSel, hb0_, hb1_, hb2_, hb3_, hb4_, hb5_, hb6_, hb7_, hb8_, hb9_, if_true, Act.put, List.setIfInBounds_toArray, List.set_cons_zero, List.set_cons_succ]
      have hB := (below_then (below_drew (Below.refl _ w1)) (Nat.le_refl _) HI : Below w1.heap.size w1 w')
      clear hall HI hb0_ hb1_ hb2_ hb3_ hb4_ hb5_ hb6_ hb7_ hb8_ hb9_
      refine ‹∀ (a' : Act) (w' : World), Met _ a' w' → _› _ _ ?_
      go_meet
      case rel => exact ⟨⟨rfl, rfl⟩, ⟨hB⟩⟩
  case rest =>
    obtain ⟨⟨rfl, rfl⟩, HB1⟩ := hcut
    have HBn := Side.mk (below_then HB.out HB.out.size HB1.out)
    have Ban := Side.mk (Ba.out.below HB1.out)
    have Bbn := Side.mk (Bb.out.below HB1.out)
    clear HB Ba Bb la0 la1 la2 lb0 lb1 lb2
    have HB := HBn
    have Ba := Ban
    have Bb := Bbn
    clear HBn Ban Bbn
    have la0 := Ba.out.c0
    have la1 := Ba.out.c1
    have la2 := Ba.out.lt
    have lb0 := Bb.out.c0
    have lb1 := Bb.out.c1
    have lb2 := Bb.out.lt
    clear HB1 M1 M2 AW
    go_wp2_with fail
    with_reducible refine (A1 _).out.mono ?_
    rintro e x1 ⟨rfl, hb⟩
    have HBn := Side.mk (below_then HB.out HB.out.size hb)
    have Ban := Side.mk (Ba.out.below hb)
    have Bbn := Side.mk (Bb.out.below hb)
    clear HB Ba Bb la0 la1 la2 lb0 lb1 lb2
    have HB := HBn
    have Ba := Ban
    have Bb := Bbn
    clear HBn Ban Bbn
    have la0 := Ba.out.c0
    have la1 := Ba.out.c1
    have la2 := Ba.out.lt
    have lb0 := Bb.out.c0
    have lb1 := Bb.out.c1
    have lb2 := Bb.out.lt
    clear hb A1
    go_upto_region 5 with (fail)
    have hb := (below_alloc2 (Below.refl _ x1) (.cells #[.int .i64 n1, .int .i64 m1] 26))
    have HBn := Side.mk (below_then HB.out HB.out.size hb)
    have Ban := Side.mk (Ba.out.below hb)
    have Bbn := Side.mk (Bb.out.below hb)
    clear HB Ba Bb la0 la1 la2 lb0 lb1 lb2
    have HB := HBn
    have Ba := Ban
    have Bb := Bbn
    clear HBn Ban Bbn
    have la0 := Ba.out.c0
    have la1 := Ba.out.c1
    have la2 := Ba.out.lt
    have lb0 := Bb.out.c0
    have lb1 := Bb.out.c1
    have lb2 := Bb.out.lt
    clear hb
    generalize (x1.alloc (.cells #[.int .i64 n1, .int .i64 m1] 26)) = y1 at *
    go_wp2_with fail
    with_reducible refine (A2 _).out.mono ?_
    rintro e x2 ⟨rfl, hb⟩
    have HBn := Side.mk (below_then HB.out HB.out.size hb)
    have Ban := Side.mk (Ba.out.below hb)
    have Bbn := Side.mk (Bb.out.below hb)
    clear HB Ba Bb la0 la1 la2 lb0 lb1 lb2
    have HB := HBn
    have Ba := Ban
    have Bb := Bbn
    clear HBn Ban Bbn
    have la0 := Ba.out.c0
    have la1 := Ba.out.c1
    have la2 := Ba.out.lt
    have lb0 := Bb.out.c0
    have lb1 := Bb.out.c1
    have lb2 := Bb.out.lt
    clear hb A2
    go_upto_region 6 with (fail)
    have hb := (below_alloc2 (Below.refl _ x2) (.cells #[.int .i64 n2, .int .i64 m2] 26))
    have HBn := Side.mk (below_then HB.out HB.out.size hb)
    have Ban := Side.mk (Ba.out.below hb)
    have Bbn := Side.mk (Bb.out.below hb)
    clear HB Ba Bb la0 la1 la2 lb0 lb1 lb2
    have HB := HBn
    have Ba := Ban
    have Bb := Bbn
    clear HBn Ban Bbn
    have la0 := Ba.out.c0
    have la1 := Ba.out.c1
    have la2 := Ba.out.lt
    have lb0 := Bb.out.c0
    have lb1 := Bb.out.c1
    have lb2 := Bb.out.lt
    clear hb
    generalize (x2.alloc (.cells #[.int .i64 n2, .int .i64 m2] 26)) = y2 at *
    go_wp2_with fail
    with_reducible refine (A3 _).out.mono ?_
    rintro e x3 ⟨rfl, hb⟩
    have HBn := Side.mk (below_then HB.out HB.out.size hb)
    have Ban := Side.mk (Ba.out.below hb)
    have Bbn := Side.mk (Bb.out.below hb)
    clear HB Ba Bb la0 la1 la2 lb0 lb1 lb2
    have HB := HBn
    have Ba := Ban
    have Bb := Bbn
    clear HBn Ban Bbn
    have la0 := Ba.out.c0
    have la1 := Ba.out.c1
    have la2 := Ba.out.lt
    have lb0 := Bb.out.c0
    have lb1 := Bb.out.c1
    have lb2 := Bb.out.lt
    clear hb A3
    go_upto_region 7 with (fail)
    have hb := (below_alloc2 (Below.refl _ x3) (.cells #[.int .i64 n3, .int .i64 m3] 26))
    have HBn := Side.mk (below_then HB.out HB.out.size hb)
    have Ban := Side.mk (Ba.out.below hb)
    have Bbn := Side.mk (Bb.out.below hb)
    clear HB Ba Bb la0 la1 la2 lb0 lb1 lb2
    have HB := HBn
    have Ba := Ban
    have Bb := Bbn
    clear HBn Ban Bbn
    have la0 := Ba.out.c0
    have la1 := Ba.out.c1
    have la2 := Ba.out.lt
    have lb0 := Bb.out.c0
    have lb1 := Bb.out.c1
    have lb2 := Bb.out.lt
    clear hb
    generalize (x3.alloc (.cells #[.int .i64 n3, .int .i64 m3] 26)) = y3 at *
    go_upto_region 10 with (fail)
    go_cut [4] (fun v4 we => v4 = .bool true ∧ Side (Below y3.heap.size y3 we))
    case first =>
      refine start_ (n := 33) (S := fun w' => True) (ds := []) #[false, false, false, false, false, false, false, false, false, false, false, false, false, false, false, false, false, false, false, false, false, false, false, false, false, false, false, false, false, false, false, false, false] (by kernel_rfl) rfl rfl trivial (fun _ => ?_)
      refine inv_at (B := [0, 1, 3, 7, 7, 31, 63, 127, 255, 255, 1023, 2047, 4095, 8191, 8191, 32767, 65535, 131071, 262143, 262143, 1048575, 262143, 2359295, 262143, 8650751, 262143, 33816575, 262143, 134479871, 536870911, 1073741823, 2147483647, 4294967295]) [0, 1, 2, 3, 4, 5, 6, 7, 8, 9, 10, 11, 12, 13, 14, 15, 16, 17, 18, 19, 20, 21, 22, 23, 24, 25, 26, 27, 28, 29, 30, 31, 32] (fun a0_ b a w' => a = putSel a0_ b [(0, 79, .agg #[.int .i64 a0, .int .i64 a1]), (1, 80, .bool true), (2, 81, .bool true), (3, 82, .func (.func 27) #[] #[]), (4, 83, .int .i64 e1), (5, 84, .bool true), (6, 85, .bool true), (7, 86, .bool true), (8, 87, .func (.func 27) #[] #[]), (9, 88, .int .i64 e2), (10, 89, .bool true), (11, 90, .bool true), (12, 91, .bool true), (13, 92, .func (.func 27) #[] #[]), (14, 93, .int .i64 e3), (15, 94, .bool true), (16, 95, .bool true), (17, 96, .bool true), (18, 97, .agg #[.int .i64 a0, .int .i64 a1]), (19, 98, .agg #[.int .i64 b0, .int .i64 b1]), (20, 99, .int .i64 r), (21, 100, .pointer (some ⟨ga, 0, none⟩)), (22, 101, .int .i64 a0), (23, 102, .pointer (some ⟨gb, 1, none⟩)), (24, 103, .int .i64 b1), (25, 104, .pointer (some ⟨gb, 0, none⟩)), (26, 105, .int .i64 b0), (27, 106, .pointer (some ⟨ga, 1, none⟩)), (28, 107, .int .i64 a1), (29, 108, .int .i64 r), (30, 109, .bool true), (31, 110, .bool true), (32, 4, .bool true)] ∧ Below y3.drew.heap.size y3.drew w') rfl (by kernel_rfl) (by kernel_rfl) (by kernel_rfl) ?_ ?_ ?_
      · exact ⟨by simp only [putSel, Bool.false_eq_true, if_false], Below.refl _ _⟩
      · refine steps_cons (by rintro b a w' ⟨ha, HI⟩ hb hon hoff; refine ⟨_, rfl, fun K hK => ?_⟩; have e2 := poff ha (t := 2) rfl rfl; have k0_ := bc HI la2 la0; have k1_ := bc HI la2 la1; have kz_ := bz HI la2; exact value_ (v := .agg #[.int .i64 a0, .int .i64 a1]) (by rfl) rfl (by clear HI ha; go_simp) (hK.out _ _ ⟨upk ha 0 hb rfl rfl, HI⟩)) ?_
        refine steps_cons (by rintro b a w' ⟨ha, HI⟩ hb hon hoff; refine ⟨_, rfl, fun K hK => ?_⟩; have e79 := pon ha 0 (hon 0 rfl) rfl rfl rfl; refine goes_ Try.func26 (by kernel_rfl) rfl #[.agg #[.int .i64 a0, .int .i64 a1]] (by rfl) rfl rfl (by simp [Act.eval, e79]) ((MY _).out.mono ?_); rintro e_ w'' ⟨rfl, hbc⟩; exact ⟨_, rfl, hK.out _ _ ⟨upk ha 1 hb rfl rfl, below_then HI HI.size hbc⟩⟩) ?_
        refine steps_cons (by rintro b a w' ⟨ha, HI⟩ hb hon hoff; refine ⟨_, rfl, fun K hK => ?_⟩; have e80 := pon ha 1 (hon 1 rfl) rfl rfl rfl; exact value_ (v := .bool true) (by rfl) rfl (by clear HI ha; go_simp) (hK.out _ _ ⟨upk ha 2 hb rfl rfl, HI⟩)) ?_
        refine steps_cons (by rintro b a w' ⟨ha, HI⟩ hb hon hoff; refine ⟨_, rfl, fun K hK => ?_⟩; have e13 := poff ha (t := 13) rfl rfl; have e81 := pon ha 2 (hon 2 rfl) rfl rfl rfl; exact value_ (v := .func (.func 27) #[] #[]) (wanted_on (t := 81) (u := true) rfl rfl rfl e81) rfl (by clear HI ha; go_simp) (hK.out _ _ ⟨upk ha 3 hb rfl rfl, HI⟩)) ?_
        refine steps_cons (by rintro b a w' ⟨ha, HI⟩ hb hon hoff; refine ⟨_, rfl, fun K hK => ?_⟩; have e8 := poff ha (t := 8) rfl rfl; have e81 := pon ha 2 (hon 2 rfl) rfl rfl rfl; exact value_ (v := .int .i64 e1) (wanted_on (t := 81) (u := true) rfl rfl rfl e81) rfl (by clear HI ha; go_simp) (hK.out _ _ ⟨upk ha 4 hb rfl rfl, HI⟩)) ?_
        refine steps_cons (by rintro b a w' ⟨ha, HI⟩ hb hon hoff; refine ⟨_, rfl, fun K hK => ?_⟩; have e82 := pon ha 3 (hon 3 rfl) rfl rfl rfl; have e83 := pon ha 4 (hon 4 rfl) rfl rfl rfl; have e81 := pon ha 2 (hon 2 rfl) rfl rfl rfl; refine goes_v Try.func27 (by kernel_rfl) rfl #[.int .i64 e1] (wanted_on (t := 81) (u := true) rfl rfl rfl e81) rfl (x := .tmp 82) (by simp [Act.eval, e82]) rfl (by simp [Act.eval, e83]) ((O1 w').out.mono ?_); rintro e_ w'' ⟨rfl, hbc⟩; exact ⟨_, rfl, hK.out _ _ ⟨upk ha 5 hb rfl rfl, below_then HI HI.size hbc⟩⟩) ?_
        refine steps_cons (by rintro b a w' ⟨ha, HI⟩ hb hon hoff; refine ⟨_, rfl, fun K hK => ?_⟩; have e81 := pon ha 2 (hon 2 rfl) rfl rfl rfl; have e84 := pon ha 5 (hon 5 rfl) rfl rfl rfl; exact value_ (v := .bool true) (by rfl) rfl (by clear HI ha; go_simp) (hK.out _ _ ⟨upk ha 6 hb rfl rfl, HI⟩)) ?_
        refine steps_cons (by rintro b a w' ⟨ha, HI⟩ hb hon hoff; refine ⟨_, rfl, fun K hK => ?_⟩; have e85 := pon ha 6 (hon 6 rfl) rfl rfl rfl; exact value_ (v := .bool true) (by rfl) rfl (by clear HI ha; go_simp) (hK.out _ _ ⟨upk ha 7 hb rfl rfl, HI⟩)) ?_
        refine steps_cons (by rintro b a w' ⟨ha, HI⟩ hb hon hoff; refine ⟨_, rfl, fun K hK => ?_⟩; have e13 := poff ha (t := 13) rfl rfl; have e86 := pon ha 7 (hon 7 rfl) rfl rfl rfl; exact value_ (v := .func (.func 27) #[] #[]) (wanted_on (t := 86) (u := true) rfl rfl rfl e86) rfl (by clear HI ha; go_simp) (hK.out _ _ ⟨upk ha 8 hb rfl rfl, HI⟩)) ?_
        refine steps_cons (by rintro b a w' ⟨ha, HI⟩ hb hon hoff; refine ⟨_, rfl, fun K hK => ?_⟩; have e10 := poff ha (t := 10) rfl rfl; have e86 := pon ha 7 (hon 7 rfl) rfl rfl rfl; exact value_ (v := .int .i64 e2) (wanted_on (t := 86) (u := true) rfl rfl rfl e86) rfl (by clear HI ha; go_simp) (hK.out _ _ ⟨upk ha 9 hb rfl rfl, HI⟩)) ?_
        refine steps_cons (by rintro b a w' ⟨ha, HI⟩ hb hon hoff; refine ⟨_, rfl, fun K hK => ?_⟩; have e87 := pon ha 8 (hon 8 rfl) rfl rfl rfl; have e88 := pon ha 9 (hon 9 rfl) rfl rfl rfl; have e86 := pon ha 7 (hon 7 rfl) rfl rfl rfl; refine goes_v Try.func27 (by kernel_rfl) rfl #[.int .i64 e2] (wanted_on (t := 86) (u := true) rfl rfl rfl e86) rfl (x := .tmp 87) (by simp [Act.eval, e87]) rfl (by simp [Act.eval, e88]) ((O2 w').out.mono ?_); rintro e_ w'' ⟨rfl, hbc⟩; exact ⟨_, rfl, hK.out _ _ ⟨upk ha 10 hb rfl rfl, below_then HI HI.size hbc⟩⟩) ?_
        refine steps_cons (by rintro b a w' ⟨ha, HI⟩ hb hon hoff; refine ⟨_, rfl, fun K hK => ?_⟩; have e86 := pon ha 7 (hon 7 rfl) rfl rfl rfl; have e89 := pon ha 10 (hon 10 rfl) rfl rfl rfl; exact value_ (v := .bool true) (by rfl) rfl (by clear HI ha; go_simp) (hK.out _ _ ⟨upk ha 11 hb rfl rfl, HI⟩)) ?_
        refine steps_cons (by rintro b a w' ⟨ha, HI⟩ hb hon hoff; refine ⟨_, rfl, fun K hK => ?_⟩; have e90 := pon ha 11 (hon 11 rfl) rfl rfl rfl; exact value_ (v := .bool true) (by rfl) rfl (by clear HI ha; go_simp) (hK.out _ _ ⟨upk ha 12 hb rfl rfl, HI⟩)) ?_
        refine steps_cons (by rintro b a w' ⟨ha, HI⟩ hb hon hoff; refine ⟨_, rfl, fun K hK => ?_⟩; have e13 := poff ha (t := 13) rfl rfl; have e91 := pon ha 12 (hon 12 rfl) rfl rfl rfl; exact value_ (v := .func (.func 27) #[] #[]) (wanted_on (t := 91) (u := true) rfl rfl rfl e91) rfl (by clear HI ha; go_simp) (hK.out _ _ ⟨upk ha 13 hb rfl rfl, HI⟩)) ?_
        refine steps_cons (by rintro b a w' ⟨ha, HI⟩ hb hon hoff; refine ⟨_, rfl, fun K hK => ?_⟩; have e12 := poff ha (t := 12) rfl rfl; have e91 := pon ha 12 (hon 12 rfl) rfl rfl rfl; exact value_ (v := .int .i64 e3) (wanted_on (t := 91) (u := true) rfl rfl rfl e91) rfl (by clear HI ha; go_simp) (hK.out _ _ ⟨upk ha 14 hb rfl rfl, HI⟩)) ?_
        refine steps_cons (by rintro b a w' ⟨ha, HI⟩ hb hon hoff; refine ⟨_, rfl, fun K hK => ?_⟩; have e92 := pon ha 13 (hon 13 rfl) rfl rfl rfl; have e93 := pon ha 14 (hon 14 rfl) rfl rfl rfl; have e91 := pon ha 12 (hon 12 rfl) rfl rfl rfl; refine goes_v Try.func27 (by kernel_rfl) rfl #[.int .i64 e3] (wanted_on (t := 91) (u := true) rfl rfl rfl e91) rfl (x := .tmp 92) (by simp [Act.eval, e92]) rfl (by simp [Act.eval, e93]) ((O3 w').out.mono ?_); rintro e_ w'' ⟨rfl, hbc⟩; exact ⟨_, rfl, hK.out _ _ ⟨upk ha 15 hb rfl rfl, below_then HI HI.size hbc⟩⟩) ?_
        refine steps_cons (by rintro b a w' ⟨ha, HI⟩ hb hon hoff; refine ⟨_, rfl, fun K hK => ?_⟩; have e91 := pon ha 12 (hon 12 rfl) rfl rfl rfl; have e94 := pon ha 15 (hon 15 rfl) rfl rfl rfl; exact value_ (v := .bool true) (by rfl) rfl (by clear HI ha; go_simp) (hK.out _ _ ⟨upk ha 16 hb rfl rfl, HI⟩)) ?_
        refine steps_cons (by rintro b a w' ⟨ha, HI⟩ hb hon hoff; refine ⟨_, rfl, fun K hK => ?_⟩; have e95 := pon ha 16 (hon 16 rfl) rfl rfl rfl; exact value_ (v := .bool true) (by rfl) rfl (by clear HI ha; go_simp) (hK.out _ _ ⟨upk ha 17 hb rfl rfl, HI⟩)) ?_
        refine steps_cons (by rintro b a w' ⟨ha, HI⟩ hb hon hoff; refine ⟨_, rfl, fun K hK => ?_⟩; have e2 := poff ha (t := 2) rfl rfl; have e96 := pon ha 17 (hon 17 rfl) rfl rfl rfl; have k0_ := bc HI la2 la0; have k1_ := bc HI la2 la1; have kz_ := bz HI la2; exact value_ (v := .agg #[.int .i64 a0, .int .i64 a1]) (wanted_on (t := 96) (u := true) rfl rfl rfl e96) rfl (by clear HI ha; go_simp) (hK.out _ _ ⟨upk ha 18 hb rfl rfl, HI⟩)) ?_
        refine steps_cons (by rintro b a w' ⟨ha, HI⟩ hb hon hoff; refine ⟨_, rfl, fun K hK => ?_⟩; have e3 := poff ha (t := 3) rfl rfl; have e96 := pon ha 17 (hon 17 rfl) rfl rfl rfl; have k0_ := bc HI lb2 lb0; have k1_ := bc HI lb2 lb1; have kz_ := bz HI lb2; exact value_ (v := .agg #[.int .i64 b0, .int .i64 b1]) (wanted_on (t := 96) (u := true) rfl rfl rfl e96) rfl (by clear HI ha; go_simp) (hK.out _ _ ⟨upk ha 19 hb rfl rfl, HI⟩)) ?_
        refine steps_cons (by rintro b a w' ⟨ha, HI⟩ hb hon hoff; refine ⟨_, rfl, fun K hK => ?_⟩; have e97 := pon ha 18 (hon 18 rfl) rfl rfl rfl; have e98 := pon ha 19 (hon 19 rfl) rfl rfl rfl; have e96 := pon ha 17 (hon 17 rfl) rfl rfl rfl; refine goes_ Try.func12 (by kernel_rfl) rfl #[.agg #[.int .i64 a0, .int .i64 a1], .agg #[.int .i64 b0, .int .i64 b1]] (wanted_on (t := 96) (u := true) rfl rfl rfl e96) rfl rfl (by simp [Act.eval, e97, e98, e96]) ((CM _).out.mono ?_); rintro e_ w'' ⟨rfl, hbc⟩; exact ⟨_, rfl, hK.out _ _ ⟨upk ha 20 hb rfl rfl, below_then HI HI.size hbc⟩⟩) ?_
        refine steps_cons (by rintro b a w' ⟨ha, HI⟩ hb hon hoff; refine ⟨_, rfl, fun K hK => ?_⟩; have e2 := poff ha (t := 2) rfl rfl; have e96 := pon ha 17 (hon 17 rfl) rfl rfl rfl; exact value_ (v := .pointer (some ⟨ga, 0, none⟩)) (wanted_on (t := 96) (u := true) rfl rfl rfl e96) rfl (by clear HI ha; go_simp) (hK.out _ _ ⟨upk ha 21 hb rfl rfl, HI⟩)) ?_
        refine steps_cons (by rintro b a w' ⟨ha, HI⟩ hb hon hoff; refine ⟨_, rfl, fun K hK => ?_⟩; have e100 := pon ha 21 (hon 21 rfl) rfl rfl rfl; have e96 := pon ha 17 (hon 17 rfl) rfl rfl rfl; have k0_ := bc HI la2 la0; have kz_ := bz HI la2; exact value_ (v := .int .i64 a0) (wanted_on (t := 96) (u := true) rfl rfl rfl e96) rfl (by clear HI ha; go_simp) (hK.out _ _ ⟨upk ha 22 hb rfl rfl, HI⟩)) ?_
        refine steps_cons (by rintro b a w' ⟨ha, HI⟩ hb hon hoff; refine ⟨_, rfl, fun K hK => ?_⟩; have e3 := poff ha (t := 3) rfl rfl; have e96 := pon ha 17 (hon 17 rfl) rfl rfl rfl; exact value_ (v := .pointer (some ⟨gb, 1, none⟩)) (wanted_on (t := 96) (u := true) rfl rfl rfl e96) rfl (by clear HI ha; go_simp) (hK.out _ _ ⟨upk ha 23 hb rfl rfl, HI⟩)) ?_
        refine steps_cons (by rintro b a w' ⟨ha, HI⟩ hb hon hoff; refine ⟨_, rfl, fun K hK => ?_⟩; have e102 := pon ha 23 (hon 23 rfl) rfl rfl rfl; have e96 := pon ha 17 (hon 17 rfl) rfl rfl rfl; have k0_ := bc HI lb2 lb1; have kz_ := bz HI lb2; exact value_ (v := .int .i64 b1) (wanted_on (t := 96) (u := true) rfl rfl rfl e96) rfl (by clear HI ha; go_simp) (hK.out _ _ ⟨upk ha 24 hb rfl rfl, HI⟩)) ?_
        refine steps_cons (by rintro b a w' ⟨ha, HI⟩ hb hon hoff; refine ⟨_, rfl, fun K hK => ?_⟩; have e3 := poff ha (t := 3) rfl rfl; have e96 := pon ha 17 (hon 17 rfl) rfl rfl rfl; exact value_ (v := .pointer (some ⟨gb, 0, none⟩)) (wanted_on (t := 96) (u := true) rfl rfl rfl e96) rfl (by clear HI ha; go_simp) (hK.out _ _ ⟨upk ha 25 hb rfl rfl, HI⟩)) ?_
        refine steps_cons (by rintro b a w' ⟨ha, HI⟩ hb hon hoff; refine ⟨_, rfl, fun K hK => ?_⟩; have e104 := pon ha 25 (hon 25 rfl) rfl rfl rfl; have e96 := pon ha 17 (hon 17 rfl) rfl rfl rfl; have k0_ := bc HI lb2 lb0; have kz_ := bz HI lb2; exact value_ (v := .int .i64 b0) (wanted_on (t := 96) (u := true) rfl rfl rfl e96) rfl (by clear HI ha; go_simp) (hK.out _ _ ⟨upk ha 26 hb rfl rfl, HI⟩)) ?_
        refine steps_cons (by rintro b a w' ⟨ha, HI⟩ hb hon hoff; refine ⟨_, rfl, fun K hK => ?_⟩; have e2 := poff ha (t := 2) rfl rfl; have e96 := pon ha 17 (hon 17 rfl) rfl rfl rfl; exact value_ (v := .pointer (some ⟨ga, 1, none⟩)) (wanted_on (t := 96) (u := true) rfl rfl rfl e96) rfl (by clear HI ha; go_simp) (hK.out _ _ ⟨upk ha 27 hb rfl rfl, HI⟩)) ?_
        refine steps_cons (by rintro b a w' ⟨ha, HI⟩ hb hon hoff; refine ⟨_, rfl, fun K hK => ?_⟩; have e106 := pon ha 27 (hon 27 rfl) rfl rfl rfl; have e96 := pon ha 17 (hon 17 rfl) rfl rfl rfl; have k0_ := bc HI la2 la1; have kz_ := bz HI la2; exact value_ (v := .int .i64 a1) (wanted_on (t := 96) (u := true) rfl rfl rfl e96) rfl (by clear HI ha; go_simp) (hK.out _ _ ⟨upk ha 28 hb rfl rfl, HI⟩)) ?_
        refine steps_cons (by rintro b a w' ⟨ha, HI⟩ hb hon hoff; refine ⟨_, rfl, fun K hK => ?_⟩; have e101 := pon ha 22 (hon 22 rfl) rfl rfl rfl; have e103 := pon ha 24 (hon 24 rfl) rfl rfl rfl; have e105 := pon ha 26 (hon 26 rfl) rfl rfl rfl; have e107 := pon ha 28 (hon 28 rfl) rfl rfl rfl; have e96 := pon ha 17 (hon 17 rfl) rfl rfl rfl; refine goes_ Try.func28 (by kernel_rfl) rfl #[.int .i64 a0, .int .i64 b1, .int .i64 b0, .int .i64 a1] (wanted_on (t := 96) (u := true) rfl rfl rfl e96) rfl rfl (by simp [Act.eval, e101, e103, e105, e107, e96]) ((CR _).out.mono ?_); rintro e_ w'' ⟨rfl, hbc⟩; exact ⟨_, rfl, hK.out _ _ ⟨upk ha 29 hb rfl rfl, below_then HI HI.size hbc⟩⟩) ?_
        refine steps_cons (by rintro b a w' ⟨ha, HI⟩ hb hon hoff; refine ⟨_, rfl, fun K hK => ?_⟩; have e99 := pon ha 20 (hon 20 rfl) rfl rfl rfl; have e108 := pon ha 29 (hon 29 rfl) rfl rfl rfl; have e96 := pon ha 17 (hon 17 rfl) rfl rfl rfl; exact value_ (v := .bool true) (wanted_on (t := 96) (u := true) rfl rfl rfl e96) rfl (by clear HI ha; go_simp) (hK.out _ _ ⟨upk ha 30 hb rfl rfl, HI⟩)) ?_
        refine steps_cons (by rintro b a w' ⟨ha, HI⟩ hb hon hoff; refine ⟨_, rfl, fun K hK => ?_⟩; have e96 := pon ha 17 (hon 17 rfl) rfl rfl rfl; have e109 := pon ha 30 (hon 30 rfl) rfl rfl rfl; exact value_ (v := .bool true) (by rfl) rfl (by clear HI ha; go_simp) (hK.out _ _ ⟨upk ha 31 hb rfl rfl, HI⟩)) ?_
        refine steps_cons (by rintro b a w' ⟨ha, HI⟩ hb hon hoff; refine ⟨_, rfl, fun K hK => ?_⟩; have e110 := pon ha 31 (hon 31 rfl) rfl rfl rfl; exact value_ (v := .bool true) (by rfl) rfl (by clear HI ha; go_simp) (hK.out _ _ ⟨upk ha 32 hb rfl rfl, HI⟩)) ?_
        exact steps_nil
      · rintro b a w' hall ⟨ha, HI⟩
        have hb0_ := hall 0 rfl; have hb1_ := hall 1 rfl; have hb2_ := hall 2 rfl; have hb3_ := hall 3 rfl; have hb4_ := hall 4 rfl; have hb5_ := hall 5 rfl; have hb6_ := hall 6 rfl; have hb7_ := hall 7 rfl
        have hb8_ := hall 8 rfl; have hb9_ := hall 9 rfl; have hb10_ := hall 10 rfl; have hb11_ := hall 11 rfl; have hb12_ := hall 12 rfl; have hb13_ := hall 13 rfl; have hb14_ := hall 14 rfl; have hb15_ := hall 15 rfl
        have hb16_ := hall 16 rfl; have hb17_ := hall 17 rfl; have hb18_ := hall 18 rfl; have hb19_ := hall 19 rfl; have hb20_ := hall 20 rfl; have hb21_ := hall 21 rfl; have hb22_ := hall 22 rfl; have hb23_ := hall 23 rfl
        have hb24_ := hall 24 rfl; have hb25_ := hall 25 rfl; have hb26_ := hall 26 rfl; have hb27_ := hall 27 rfl; have hb28_ := hall 28 rfl; have hb29_ := hall 29 rfl; have hb30_ := hall 30 rfl; have hb31_ := hall 31 rfl
        have hb32_ := hall 32 rfl
        subst ha
        simp only [putSel, hb0_, hb1_, hb2_, hb3_, hb4_, hb5_, hb6_, hb7_, hb8_, hb9_, hb10_, hb11_, hb12_, hb13_, hb14_, hb15_, hb16_, hb17_, hb18_, hb19_, hb20_, hb21_, hb22_, hb23_, hb24_, hb25_, hb26_, hb27_, hb28_, hb29_, hb30_, hb31_, hb32_, if_true, Act.put, List.setIfInBounds_toArray, List.set_cons_zero, List.set_cons_succ]
        have hB := (below_then (below_drew (Below.refl _ y3)) (Nat.le_refl _) HI : Below y3.heap.size y3 w')
        clear hall HI hb0_ hb1_ hb2_ hb3_ hb4_ hb5_ hb6_ hb7_ hb8_ hb9_ hb10_ hb11_ hb12_ hb13_ hb14_ hb15_ hb16_ hb17_ hb18_ hb19_ hb20_ hb21_ hb22_ hb23_ hb24_ hb25_ hb26_ hb27_ hb28_ hb29_ hb30_ hb31_ hb32_
        refine ‹∀ (a' : Act) (w' : World), Met _ a' w' → _› _ _ ?_
        go_meet
        case rel => exact ⟨rfl, ⟨hB⟩⟩
    case rest =>
      obtain ⟨rfl, HB1⟩ := hcut
      have HB2 := Side.mk (below_then HB.out HB.out.size HB1.out)
      clear HB HB1 MY CM CR O1 O2 O3
      go_wp2
      go_ret
      exact ⟨rfl, HB2.out⟩
end Go.Proofs.Ytpgecjedifcilaa.RMay

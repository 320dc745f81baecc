/- Package calendar: compare; slices.BinarySearchFunc over it. No condition but that the row is in order. -/
import Derived.Test.YtbppjaglgbhckaaCaH
import Derived.Test.YtbppjaglgbhckaaCmp
import Derived.Test.YtbppjaglgbhckaaKit4
import Derived.Deep.RegionHeld3
import Derived.StillTactics
import Derived.Deep.Cut
import Derived.Deep.DeepCutAuto
import Derived.Deep.QuietTactic
import Derived.BigQuiet
set_option linter.unusedVariables false
set_option linter.unusedSimpArgs false
namespace Go.Proofs.Ytbppjaglgbhckaa.CaI
open Go.RowKit Go.Proofs.Ytbppjaglgbhckaa.Kit Go.Proofs.Ytbppjaglgbhckaa.Kit4 Go.Proofs.Ytbppjaglgbhckaa.Cmp Go.Proofs.Ytbppjaglgbhckaa.CaA Go.Proofs.Ytbppjaglgbhckaa.CaB Go.Proofs.Ytbppjaglgbhckaa.CaC Go.Proofs.Ytbppjaglgbhckaa.CaD Go.Proofs.Ytbppjaglgbhckaa.CaF Go.Proofs.Ytbppjaglgbhckaa.CaG Go.Proofs.Ytbppjaglgbhckaa.CaH
open Go.Proofs.YtbppjaglgbhckaaW.PrintLast
theorem goes_v {ops : Array Oper} {Q : Exit → Act → World → Prop} {oi : Oper} {N : Option Tmp} {a : Act} {w : World} {K : Act → World → Prop} {f : FuncId} {fn : Func} {us : Array Operand} {ts : Array TypeId} {x : Operand} (hf : Try.prog.funcs[f]? = some fn) (hname : (fn.name == "runtime.NumGoroutine") = false) (hb : fn.body.isSome = true) (args : Array Value)
    (hw : Region.wanted oi (yielded ops a.tmps) = true) (hN : oi.dst = N) (hx : a.eval x = .func (.func f) #[] #[]) (hop : oi.op = .call { callee := .value x, args := us, argTypes := ts }) (hargs : us.map a.eval = args)
    (h : Calls Try.prog f args w fun e w' => ∃ v, e = .returned v ∧ K (a.put N v) w') : if Region.wanted oi (yielded ops a.tmps) = true then Oper.wp Try.prog oi a w K Q else K (a.put N undef) w := by
  refine call_ f args hw hN ?_ h
  have he := enters_ hf hname hb args w
  unfold execOp
  simp [hop, resolve, Deferred.ofValue, invoke, hx, hargs, he]
def dcmp (x y : It) : Int := or2 (cmp3 x.1 y.1) (cmp3 x.2 y.2)
def dlt (x y : It) : Bool := decide (x.1 < y.1) || (decide (x.1 = y.1) && decide (x.2 < y.2))
theorem dlt_iff {x y : It} : dlt x y = true ↔ x.1 < y.1 ∨ (x.1 = y.1 ∧ x.2 < y.2) := by unfold dlt; simp
theorem dlt_no {x y : It} : dlt x y = false ↔ ¬ (x.1 < y.1 ∨ (x.1 = y.1 ∧ x.2 < y.2)) := by rw [← dlt_iff]; simp
theorem dcmp_lt (x y : It) : decide (dcmp x y < 0) = dlt x y := by
  rw [Bool.eq_iff_iff, dlt_iff, decide_eq_true_eq]
  unfold dcmp or2 cmp3
  (repeat' split) <;> omega
set_option maxHeartbeats 2000000 in
set_option maxRecDepth 100000 in
theorem compare_at (x y : It) (w : World) : Calls Try.prog 15 #[.agg #[.int .i64 x.1, .int .i64 x.2], .agg #[.int .i64 y.1, .int .i64 y.2]] w fun r w' => r = .returned (.int .i64 (dcmp x y)) ∧ Below w.heap.size w w' := by
  obtain ⟨xd, xb⟩ := x
  obtain ⟨yd, yb⟩ := y
  have CC := fun x y w => Side.mk (Compare_at x y w)
  have R : Side (dcmp (xd, xb) (yd, yb) = or2 (cmp3 xd yd) (cmp3 xb yb)) := ⟨rfl⟩
  go_enter Try.func15, Try.ntmps15
  go_upto_region 1 with (fail)
  go_region_held3 (fun w' => w'.cell? ⟨w.heap.size, 0, none⟩ = some (.int .i64 xd) ∧ w'.cell? ⟨w.heap.size, 1, none⟩ = some (.int .i64 xb) ∧ w'.cell? ⟨w.heap.size + 1, 0, none⟩ = some (.int .i64 yd) ∧ w'.cell? ⟨w.heap.size + 1, 1, none⟩ = some (.int .i64 yb)) (go_keep)
    (first
      | (go_at_call 21; (with_reducible refine (CC _ _ _).out.mono ?_); rintro e w2 ⟨rfl, rfl⟩)
      | (go_at_call 20; refine (Or2_at (w.heap.size + 1 + 1) (cmp3 xd yd) (cmp3 xb yb) _ (by go_simp) (by go_simp)).mono ?_; rintro e w3 ⟨rfl, rfl⟩))
  go_wp2
  go_ret
  refine ⟨ret_int R.out.symm, ?_⟩
  repeat (first | exact Below.refl _ _ | apply below_drewN | apply below_drew | refine Below.alloc ?_ (by first | (simp; done) | (simp; omega)) _)
/-- In order. -/
def Srt (xs : List It) : Prop := ∀ (i j : Nat) (x y : It), i < j → xs[i]? = some x → xs[j]? = some y → dlt y x = false
/-- Where one belongs. -/
structure Lb (xs : List It) (x : It) (i : Nat) : Prop where
  le : i ≤ xs.length
  lo : ∀ (k : Nat) (y : It), k < i → xs[k]? = some y → dlt y x = true
  hi : ∀ (k : Nat) (y : It), i ≤ k → xs[k]? = some y → dlt y x = false
theorem dlt_trans {x y z : It} (h : dlt y x = false) (g : dlt y z = true) : dlt x z = true := by
  rw [dlt_iff] at *
  rw [dlt_no] at h
  omega
theorem dlt_trans2 {x y z : It} (h : dlt y x = false) (g : dlt x z = false) : dlt y z = false := by
  rw [dlt_no] at *
  omega
theorem half (i j : Nat) (h : i < j) : i ≤ (i + j) / 2 ∧ (i + j) / 2 < j := by omega
set_option maxHeartbeats 4000000 in
set_option maxRecDepth 100000 in
theorem Search_at (w : World) (B : Nat) (v : Value) (xs : List It) (x : It) (h : Row w B 44 v xs) (hl : xs.length ≤ 100000) (hs : Srt xs) :
    Calls Try.prog 14 #[v, .agg #[.int .i64 x.1, .int .i64 x.2], .func (.func 15) #[] #[]] w fun r w' => ∃ (i : Nat) (z : Value), r = .returned (.tuple #[.int .i64 i, z]) ∧ Lb xs x i ∧ Below w.heap.size w w' := by
  obtain ⟨x1, x2⟩ := x
  have H := Side.mk h
  have HS := Side.mk hs
  obtain ⟨a0, c0, rfl⟩ : ∃ a c, v = .slice a xs.length c := by
    rcases h.read with ⟨rfl, rfl⟩ | ⟨g, cap, rfl, _⟩
    · exact ⟨none, 0, rfl⟩
    · exact ⟨_, cap, rfl⟩
  clear h hs
  go_enter Try.func14, Try.ntmps14
  go_wp2_with fail
  obtain ⟨p, hp⟩ : ∃ p, p = w.heap.size := ⟨_, rfl⟩
  go_loopw [9, 10] (fun v9 v10 wr => ∃ i j : Nat, v9 = .int .i64 (i : Int) ∧ v10 = .int .i64 (j : Int) ∧ i ≤ j ∧ j ≤ xs.length ∧ Side (∀ (k : Nat) (y : It), k < i → xs[k]? = some y → dlt y (x1, x2) = true) ∧ Side (∀ (k : Nat) (y : It), j ≤ k → xs[k]? = some y → dlt y (x1, x2) = false) ∧ Side (Below (w.heap.size + 1) (w.alloc (.cells #[.int .i64 x1, .int .i64 x2] 44)) wr)) (fun v9 v10 _ => (intOf v10 - intOf v9).toNat)
  case atStart => exact ⟨0, xs.length, rfl, rfl, Nat.zero_le _, Nat.le_refl _, ⟨fun k y hk => absurd hk (by omega)⟩, ⟨fun k y hk hy => by have := (List.getElem?_eq_some_iff.1 hy).1; omega⟩, ⟨Below.refl _ _⟩⟩
  case round =>
    obtain ⟨i, j, rfl, rfl, hij, hj, HLO, HHI, HB⟩ := hrel
    obtain ⟨wq, hwq⟩ : ∃ wq : World, wq = wr := ⟨_, rfl⟩
    rw [← hwq] at HB ⊢
    clear hwq
    by_cases hlt : i < j
    · have hii : (i : Int) < j := by omega
      have hs1 : (i : Int) + j ≤ 9223372036854775807 := by omega
      have hs0 : (0 : Int) ≤ (i : Int) + j := by omega
      go_upto_region 5 with (fail)
      obtain ⟨hf, hfh⟩ : ∃ hf : Nat, hf = (i + j) / 2 := ⟨_, rfl⟩
      rw [show ((i : Int) + j) / 2 = (hf : Int) by omega]
      have hh1 : i ≤ hf := by omega
      have hh2 : hf < j := by omega
      clear hfh
      obtain ⟨y, hy⟩ : ∃ y, xs[hf]? = some y := ⟨_, List.getElem?_eq_getElem (by omega)⟩
      have HR := Side.mk (Row.below H.out (Below.trans ((Below.refl _ w).alloc (Nat.le_refl _) _) (HB.out.mono (by omega)) : Below w.heap.size w wq))
      rcases HR.out.read with ⟨_, h0⟩ | ⟨g, cap, hv, _, hgl, _, _, hcs⟩
      · rw [h0] at hj; simp at hj; omega
      simp at hv
      obtain ⟨rfl, rfl⟩ := hv
      obtain ⟨r0, r1⟩ := hcs hf y hy
      have HY := Side.mk hy
      clear hcs hy HR
      obtain ⟨y1, y2⟩ := y
      have r0 : wq.cell? ⟨g, hf * 2, none⟩ = some (.int .i64 y1) := r0
      have r1 : wq.cell? ⟨g, hf * 2 + 1, none⟩ = some (.int .i64 y2) := r1
      have b0 : wq.cell? ⟨w.heap.size, 0, none⟩ = some (.int .i64 x1) := (HB.out.cell (p := ⟨w.heap.size, 0, none⟩) (by simp)).trans (by go_simp)
      have b1 : wq.cell? ⟨w.heap.size, 1, none⟩ = some (.int .i64 x2) := (HB.out.cell (p := ⟨w.heap.size, 1, none⟩) (by simp)).trans (by go_simp)
      have hbl : w.heap.size < wq.heap.size := by have := HB.out.size; simp at this; omega
      have hf0 : (0 : Int) ≤ hf := by omega
      have hfn : (hf : Int) < xs.length := by omega
      have hf1 : (hf : Int) + 1 ≤ 9223372036854775807 := by omega
      have CMP := fun w => Side.mk (compare_at (y1, y2) (x1, x2) w)
      obtain ⟨dc, hdc⟩ : ∃ dc, dc = dcmp (y1, y2) (x1, x2) := ⟨_, rfl⟩
      obtain ⟨tt, htt⟩ : ∃ tt, tt = dlt (y1, y2) (x1, x2) := ⟨_, rfl⟩
      have HDC : Side (decide (dc < 0) = tt) := ⟨by rw [hdc, htt]; exact dcmp_lt _ _⟩
      have HTT := Side.mk htt
      rw [← hdc] at CMP
      clear hdc htt
      go_cut [31] (fun v we => v = .bool tt ∧ Side (Below wq.heap.size wq we))
      case first =>
        clear H HS HLO HHI HY HB HTT
        refine start_ (n := 8) (S := fun w' => True) (ds := []) #[false, false, false, false, false, false, false, false] (by kernel_rfl) rfl rfl trivial (fun _ => ?_)
        refine inv_at (B := [0, 0, 0, 6, 14, 0, 63, 127]) [0, 1, 2, 3, 4, 5, 6, 7] (fun a0_ b a w' => a = putSel a0_ b [(0, 24, .func (.func 15) #[] #[]), (1, 25, .slice (some ⟨g, 0, none⟩) xs.length c0), (2, 26, .int .i64 hf), (3, 27, .pointer (some ⟨g, hf * 2, none⟩)), (4, 28, .agg #[.int .i64 y1, .int .i64 y2]), (5, 29, .agg #[.int .i64 x1, .int .i64 x2]), (6, 30, .int .i64 dc), (7, 31, .bool tt)] ∧ Below wq.drew.heap.size wq.drew w') rfl (by kernel_rfl) (by kernel_rfl) (by kernel_rfl) ?_ ?_ ?_
        · exact ⟨by simp only [putSel, Bool.false_eq_true, if_false], Below.refl _ _⟩
        · refine steps_cons (by rintro b a w' ⟨ha, HI⟩ hb hon hoff; refine ⟨_, rfl, fun K hK => ?_⟩; have e2 := poff ha (t := 2) rfl rfl; exact value_ (v := .func (.func 15) #[] #[]) (by rfl) rfl (by clear HI ha; go_simp) (hK.out _ _ ⟨upk ha 0 hb rfl rfl, HI⟩)) ?_
          refine steps_cons (by rintro b a w' ⟨ha, HI⟩ hb hon hoff; refine ⟨_, rfl, fun K hK => ?_⟩; have e0 := poff ha (t := 0) rfl rfl; exact value_ (v := .slice (some ⟨g, 0, none⟩) xs.length c0) (by rfl) rfl (by clear HI ha; go_simp) (hK.out _ _ ⟨upk ha 1 hb rfl rfl, HI⟩)) ?_
          refine steps_cons (by rintro b a w' ⟨ha, HI⟩ hb hon hoff; refine ⟨_, rfl, fun K hK => ?_⟩; have e11 := poff ha (t := 11) rfl rfl; exact value_ (v := .int .i64 hf) (by rfl) rfl (by clear HI ha; go_simp) (hK.out _ _ ⟨upk ha 2 hb rfl rfl, HI⟩)) ?_
          refine steps_cons (by rintro b a w' ⟨ha, HI⟩ hb hon hoff; refine ⟨_, rfl, fun K hK => ?_⟩; have e25 := pon ha 1 (hon 1 rfl) rfl rfl rfl; have e26 := pon ha 2 (hon 2 rfl) rfl rfl rfl; exact value_ (v := .pointer (some ⟨g, hf * 2, none⟩)) (by rfl) rfl (by clear HI ha; go_simp) (hK.out _ _ ⟨upk ha 3 hb rfl rfl, HI⟩)) ?_
          refine steps_cons (by rintro b a w' ⟨ha, HI⟩ hb hon hoff; refine ⟨_, rfl, fun K hK => ?_⟩; have e27 := pon ha 3 (hon 3 rfl) rfl rfl rfl; have k0_ := bc HI hgl r0; have k1_ := bc HI hgl r1; have kz_ := bz HI hgl; exact value_ (v := .agg #[.int .i64 y1, .int .i64 y2]) (by rfl) rfl (by clear HI ha; go_simp) (hK.out _ _ ⟨upk ha 4 hb rfl rfl, HI⟩)) ?_
          refine steps_cons (by rintro b a w' ⟨ha, HI⟩ hb hon hoff; refine ⟨_, rfl, fun K hK => ?_⟩; have e4 := poff ha (t := 4) rfl rfl; have k0_ := bc HI hbl b0; have k1_ := bc HI hbl b1; have kz_ := bz HI hbl; exact value_ (v := .agg #[.int .i64 x1, .int .i64 x2]) (by rfl) rfl (by clear HI ha; go_simp) (hK.out _ _ ⟨upk ha 5 hb rfl rfl, HI⟩)) ?_
          refine steps_cons (by rintro b a w' ⟨ha, HI⟩ hb hon hoff; refine ⟨_, rfl, fun K hK => ?_⟩; have e24 := pon ha 0 (hon 0 rfl) rfl rfl rfl; have e28 := pon ha 4 (hon 4 rfl) rfl rfl rfl; have e29 := pon ha 5 (hon 5 rfl) rfl rfl rfl; refine goes_v Try.func15 (by kernel_rfl) rfl #[.agg #[.int .i64 y1, .int .i64 y2], .agg #[.int .i64 x1, .int .i64 x2]] (by rfl) rfl (x := .tmp 24) (by simp [Act.eval, e24]) rfl (by simp [Act.eval, e28, e29]) ((CMP w').out.mono ?_); rintro e_ w'' ⟨rfl, hbc⟩; exact ⟨_, rfl, hK.out _ _ ⟨upk ha 6 hb rfl rfl, below_then HI HI.size hbc⟩⟩) ?_
          refine steps_cons (by rintro b a w' ⟨ha, HI⟩ hb hon hoff; refine ⟨_, rfl, fun K hK => ?_⟩; have e30 := pon ha 6 (hon 6 rfl) rfl rfl rfl; exact value_ (v := .bool tt) (by rfl) rfl (by clear HI ha; go_simp; exact HDC.out) (hK.out _ _ ⟨upk ha 7 hb rfl rfl, HI⟩)) ?_
          exact steps_nil
        · rintro b a w' hall ⟨ha, HI⟩
          have hb0_ := hall 0 rfl; have hb1_ := hall 1 rfl; have hb2_ := hall 2 rfl; have hb3_ := hall 3 rfl; have hb4_ := hall 4 rfl; have hb5_ := hall 5 rfl; have hb6_ := hall 6 rfl; have hb7_ := hall 7 rfl
          subst ha
          simp only [putSel, hb0_, hb1_, hb2_, hb3_, hb4_, hb5_, hb6_, hb7_, if_true, Act.put, List.setIfInBounds_toArray, List.set_cons_zero, List.set_cons_succ]
          have hB := (below_then (below_drew (Below.refl _ wq)) (Nat.le_refl _) HI : Below wq.heap.size wq w')
          clear hall HI hb0_ hb1_ hb2_ hb3_ hb4_ hb5_ hb6_ hb7_
          refine ‹∀ (a' : Act) (w' : World), Met _ a' w' → _› _ _ ?_
          go_meet
          case rel => exact ⟨rfl, ⟨hB⟩⟩
      case rest =>
      obtain ⟨rfl, HC⟩ := hcut
      have HB2 : Side (Below (w.heap.size + 1) (w.alloc (.cells #[.int .i64 x1, .int .i64 x2] 44)) wc) := ⟨below_then HB.out (by have := HB.out.size; simp at this; omega) HC.out⟩
      clear HC HB r0 r1 b0 b1 hbl CMP HDC
      go_step
      cases tt
      · have HHI2 : Side (∀ (k : Nat) (y : It), hf ≤ k → xs[k]? = some y → dlt y (x1, x2) = false) := ⟨fun k y hk hy => by
          by_cases e : k = hf
          · subst e
            rw [HY.out] at hy
            obtain rfl := Option.some.inj hy
            exact HTT.out.symm
          · exact dlt_trans2 (HS.out hf k _ _ (by omega) HY.out hy) HTT.out.symm⟩
        clear HTT HHI HY
        go_wp2
        go_roundw
        case rel => exact ⟨i, hf, rfl, rfl, by omega, by omega, HLO, HHI2, HB2⟩
        case measure => simp [intOf]; omega
      · have HLO2 : Side (∀ (k : Nat) (y : It), k < hf + 1 → xs[k]? = some y → dlt y (x1, x2) = true) := ⟨fun k y hk hy => by
          by_cases e : k = hf
          · subst e
            rw [HY.out] at hy
            obtain rfl := Option.some.inj hy
            exact HTT.out.symm
          · exact dlt_trans (HS.out k hf _ _ (by omega) hy HY.out) HTT.out.symm⟩
        clear HTT HLO HY
        go_wp2
        go_roundw
        case rel => exact ⟨hf + 1, j, by simp, rfl, by omega, by omega, HLO2, HHI, HB2⟩
        case measure => simp [intOf]; omega
    · have hii : ¬ (i : Int) < j := by omega
      obtain rfl : i = j := by omega
      have HL : Side (Lb xs (x1, x2) i) := ⟨hj, HLO.out, HHI.out⟩
      have HB1 : Side (Below w.heap.size w wq) := ⟨Below.trans ((Below.refl _ w).alloc (Nat.le_refl _) _) (HB.out.mono (by omega))⟩
      go_upto_region 8 with (fail)
      go_cut [6, 7] (fun v v' we => ∃ b, v = .int .i64 (i : Int) ∧ v' = .bool b ∧ Side (Below wq.heap.size wq we))
      case first =>
        by_cases hin : i < xs.length
        · obtain ⟨y, hy⟩ : ∃ y, xs[i]? = some y := ⟨_, List.getElem?_eq_getElem hin⟩
          have HR := Side.mk (Row.below H.out HB1.out)
          rcases HR.out.read with ⟨_, h0⟩ | ⟨g, cap, hv, _, hgl, _, _, hcs⟩
          · rw [h0] at hin; simp at hin
          simp at hv
          obtain ⟨rfl, rfl⟩ := hv
          obtain ⟨r0, r1⟩ := hcs i y hy
          clear hcs hy HR
          obtain ⟨y1, y2⟩ := y
          have r0 : wq.cell? ⟨g, i * 2, none⟩ = some (.int .i64 y1) := r0
          have r1 : wq.cell? ⟨g, i * 2 + 1, none⟩ = some (.int .i64 y2) := r1
          have b0 : wq.cell? ⟨w.heap.size, 0, none⟩ = some (.int .i64 x1) := (HB.out.cell (p := ⟨w.heap.size, 0, none⟩) (by simp)).trans (by go_simp)
          have b1 : wq.cell? ⟨w.heap.size, 1, none⟩ = some (.int .i64 x2) := (HB.out.cell (p := ⟨w.heap.size, 1, none⟩) (by simp)).trans (by go_simp)
          have hbl : w.heap.size < wq.heap.size := by have := HB.out.size; simp at this; omega
          have hf0 : (0 : Int) ≤ i := by omega
          have hfn : (i : Int) < xs.length := by omega
          have CMP := fun w => Side.mk (compare_at (y1, y2) (x1, x2) w)
          generalize dcmp (y1, y2) (x1, x2) = dc at *
          obtain ⟨tt, htt⟩ : ∃ tt, (dc == 0) = tt := ⟨_, rfl⟩
          have HTT := Side.mk htt
          clear htt H HS HLO HHI HL HB HB1
          refine start_ (n := 16) (S := fun w' => True) (ds := []) #[false, false, false, false, false, false, false, false, false, false, false, false, false, false, false, false] (by kernel_rfl) rfl rfl trivial (fun _ => ?_)
          refine inv_at (B := [0, 0, 0, 6, 14, 30, 30, 30, 222, 478, 30, 2046, 4094, 8190, 4095, 32767]) [0, 1, 2, 3, 4, 5, 6, 7, 8, 9, 10, 11, 12, 13, 14, 15] (fun a0_ b a w' => a = putSel a0_ b [(0, 35, .int .i64 i), (1, 36, .int .i64 i), (2, 37, .int .i64 xs.length), (3, 38, .bool true), (4, 39, .bool true), (5, 40, .func (.func 15) #[] #[]), (6, 41, .slice (some ⟨g, 0, none⟩) xs.length c0), (7, 42, .int .i64 i), (8, 43, .pointer (some ⟨g, i * 2, none⟩)), (9, 44, .agg #[.int .i64 y1, .int .i64 y2]), (10, 45, .agg #[.int .i64 x1, .int .i64 x2]), (11, 46, .int .i64 dc), (12, 47, .bool tt), (13, 48, .bool tt), (14, 6, .int .i64 i), (15, 7, .bool tt)] ∧ Below wq.drew.heap.size wq.drew w') rfl (by kernel_rfl) (by kernel_rfl) (by kernel_rfl) ?_ ?_ ?_
          · exact ⟨by simp only [putSel, Bool.false_eq_true, if_false], Below.refl _ _⟩
          · refine steps_cons (by rintro b a w' ⟨ha, HI⟩ hb hon hoff; refine ⟨_, rfl, fun K hK => ?_⟩; have e9 := poff ha (t := 9) rfl rfl; exact value_ (v := .int .i64 i) (by rfl) rfl (by clear HI ha; go_simp) (hK.out _ _ ⟨upk ha 0 hb rfl rfl, HI⟩)) ?_
            refine steps_cons (by rintro b a w' ⟨ha, HI⟩ hb hon hoff; refine ⟨_, rfl, fun K hK => ?_⟩; have e9 := poff ha (t := 9) rfl rfl; exact value_ (v := .int .i64 i) (by rfl) rfl (by clear HI ha; go_simp) (hK.out _ _ ⟨upk ha 1 hb rfl rfl, HI⟩)) ?_
            refine steps_cons (by rintro b a w' ⟨ha, HI⟩ hb hon hoff; refine ⟨_, rfl, fun K hK => ?_⟩; have e8 := poff ha (t := 8) rfl rfl; exact value_ (v := .int .i64 xs.length) (by rfl) rfl (by clear HI ha; go_simp) (hK.out _ _ ⟨upk ha 2 hb rfl rfl, HI⟩)) ?_
            refine steps_cons (by rintro b a w' ⟨ha, HI⟩ hb hon hoff; refine ⟨_, rfl, fun K hK => ?_⟩; have e36 := pon ha 1 (hon 1 rfl) rfl rfl rfl; have e37 := pon ha 2 (hon 2 rfl) rfl rfl rfl; exact value_ (v := .bool true) (by rfl) rfl (by clear HI ha; go_simp) (hK.out _ _ ⟨upk ha 3 hb rfl rfl, HI⟩)) ?_
            refine steps_cons (by rintro b a w' ⟨ha, HI⟩ hb hon hoff; refine ⟨_, rfl, fun K hK => ?_⟩; have e38 := pon ha 3 (hon 3 rfl) rfl rfl rfl; exact value_ (v := .bool true) (by rfl) rfl (by clear HI ha; go_simp) (hK.out _ _ ⟨upk ha 4 hb rfl rfl, HI⟩)) ?_
            refine steps_cons (by rintro b a w' ⟨ha, HI⟩ hb hon hoff; refine ⟨_, rfl, fun K hK => ?_⟩; have e2 := poff ha (t := 2) rfl rfl; have e39 := pon ha 4 (hon 4 rfl) rfl rfl rfl; exact value_ (v := .func (.func 15) #[] #[]) (wanted_on (t := 39) (u := true) rfl rfl rfl e39) rfl (by clear HI ha; go_simp) (hK.out _ _ ⟨upk ha 5 hb rfl rfl, HI⟩)) ?_
            refine steps_cons (by rintro b a w' ⟨ha, HI⟩ hb hon hoff; refine ⟨_, rfl, fun K hK => ?_⟩; have e0 := poff ha (t := 0) rfl rfl; have e39 := pon ha 4 (hon 4 rfl) rfl rfl rfl; exact value_ (v := .slice (some ⟨g, 0, none⟩) xs.length c0) (wanted_on (t := 39) (u := true) rfl rfl rfl e39) rfl (by clear HI ha; go_simp) (hK.out _ _ ⟨upk ha 6 hb rfl rfl, HI⟩)) ?_
            refine steps_cons (by rintro b a w' ⟨ha, HI⟩ hb hon hoff; refine ⟨_, rfl, fun K hK => ?_⟩; have e9 := poff ha (t := 9) rfl rfl; have e39 := pon ha 4 (hon 4 rfl) rfl rfl rfl; exact value_ (v := .int .i64 i) (wanted_on (t := 39) (u := true) rfl rfl rfl e39) rfl (by clear HI ha; go_simp) (hK.out _ _ ⟨upk ha 7 hb rfl rfl, HI⟩)) ?_
            refine steps_cons (by rintro b a w' ⟨ha, HI⟩ hb hon hoff; refine ⟨_, rfl, fun K hK => ?_⟩; have e41 := pon ha 6 (hon 6 rfl) rfl rfl rfl; have e42 := pon ha 7 (hon 7 rfl) rfl rfl rfl; have e39 := pon ha 4 (hon 4 rfl) rfl rfl rfl; exact value_ (v := .pointer (some ⟨g, i * 2, none⟩)) (wanted_on (t := 39) (u := true) rfl rfl rfl e39) rfl (by clear HI ha; go_simp) (hK.out _ _ ⟨upk ha 8 hb rfl rfl, HI⟩)) ?_
            refine steps_cons (by rintro b a w' ⟨ha, HI⟩ hb hon hoff; refine ⟨_, rfl, fun K hK => ?_⟩; have e43 := pon ha 8 (hon 8 rfl) rfl rfl rfl; have e39 := pon ha 4 (hon 4 rfl) rfl rfl rfl; have k0_ := bc HI hgl r0; have k1_ := bc HI hgl r1; have kz_ := bz HI hgl; exact value_ (v := .agg #[.int .i64 y1, .int .i64 y2]) (wanted_on (t := 39) (u := true) rfl rfl rfl e39) rfl (by clear HI ha; go_simp) (hK.out _ _ ⟨upk ha 9 hb rfl rfl, HI⟩)) ?_
            refine steps_cons (by rintro b a w' ⟨ha, HI⟩ hb hon hoff; refine ⟨_, rfl, fun K hK => ?_⟩; have e4 := poff ha (t := 4) rfl rfl; have e39 := pon ha 4 (hon 4 rfl) rfl rfl rfl; have k0_ := bc HI hbl b0; have k1_ := bc HI hbl b1; have kz_ := bz HI hbl; exact value_ (v := .agg #[.int .i64 x1, .int .i64 x2]) (wanted_on (t := 39) (u := true) rfl rfl rfl e39) rfl (by clear HI ha; go_simp) (hK.out _ _ ⟨upk ha 10 hb rfl rfl, HI⟩)) ?_
            refine steps_cons (by rintro b a w' ⟨ha, HI⟩ hb hon hoff; refine ⟨_, rfl, fun K hK => ?_⟩; have e40 := pon ha 5 (hon 5 rfl) rfl rfl rfl; have e44 := pon ha 9 (hon 9 rfl) rfl rfl rfl; have e45 := pon ha 10 (hon 10 rfl) rfl rfl rfl; have e39 := pon ha 4 (hon 4 rfl) rfl rfl rfl; refine goes_v Try.func15 (by kernel_rfl) rfl #[.agg #[.int .i64 y1, .int .i64 y2], .agg #[.int .i64 x1, .int .i64 x2]] (wanted_on (t := 39) (u := true) rfl rfl rfl e39) rfl (x := .tmp 40) (by simp [Act.eval, e40]) rfl (by simp [Act.eval, e44, e45]) ((CMP w').out.mono ?_); rintro e_ w'' ⟨rfl, hbc⟩; exact ⟨_, rfl, hK.out _ _ ⟨upk ha 11 hb rfl rfl, below_then HI HI.size hbc⟩⟩) ?_
            refine steps_cons (by rintro b a w' ⟨ha, HI⟩ hb hon hoff; refine ⟨_, rfl, fun K hK => ?_⟩; have e46 := pon ha 11 (hon 11 rfl) rfl rfl rfl; have e39 := pon ha 4 (hon 4 rfl) rfl rfl rfl; exact value_ (v := .bool tt) (wanted_on (t := 39) (u := true) rfl rfl rfl e39) rfl (by clear HI ha; go_simp; exact HTT.out) (hK.out _ _ ⟨upk ha 12 hb rfl rfl, HI⟩)) ?_
            refine steps_cons (by rintro b a w' ⟨ha, HI⟩ hb hon hoff; refine ⟨_, rfl, fun K hK => ?_⟩; have e39 := pon ha 4 (hon 4 rfl) rfl rfl rfl; have e47 := pon ha 12 (hon 12 rfl) rfl rfl rfl; exact value_ (v := .bool tt) (by rfl) rfl (by clear HI ha; go_simp) (hK.out _ _ ⟨upk ha 13 hb rfl rfl, HI⟩)) ?_
            refine steps_cons (by rintro b a w' ⟨ha, HI⟩ hb hon hoff; refine ⟨_, rfl, fun K hK => ?_⟩; have e35 := pon ha 0 (hon 0 rfl) rfl rfl rfl; exact value_ (v := .int .i64 i) (by rfl) rfl (by clear HI ha; go_simp) (hK.out _ _ ⟨upk ha 14 hb rfl rfl, HI⟩)) ?_
            refine steps_cons (by rintro b a w' ⟨ha, HI⟩ hb hon hoff; refine ⟨_, rfl, fun K hK => ?_⟩; have e48 := pon ha 13 (hon 13 rfl) rfl rfl rfl; exact value_ (v := .bool tt) (by rfl) rfl (by clear HI ha; go_simp) (hK.out _ _ ⟨upk ha 15 hb rfl rfl, HI⟩)) ?_
            exact steps_nil
          · rintro b a w' hall ⟨ha, HI⟩
            have hb0_ := hall 0 rfl; have hb1_ := hall 1 rfl; have hb2_ := hall 2 rfl; have hb3_ := hall 3 rfl; have hb4_ := hall 4 rfl; have hb5_ := hall 5 rfl; have hb6_ := hall 6 rfl; have hb7_ := hall 7 rfl
            have hb8_ := hall 8 rfl; have hb9_ := hall 9 rfl; have hb10_ := hall 10 rfl; have hb11_ := hall 11 rfl; have hb12_ := hall 12 rfl; have hb13_ := hall 13 rfl; have hb14_ := hall 14 rfl; have hb15_ := hall 15 rfl
            subst ha
            simp only [putSel, hb0_, hb1_, hb2_, hb3_, hb4_, hb5_, hb6_, hb7_, hb8_, hb9_, hb10_, hb11_, hb12_, hb13_, hb14_, hb15_, if_true, Act.put, List.setIfInBounds_toArray, List.set_cons_zero, List.set_cons_succ]
            have hB := (below_then (below_drew (Below.refl _ wq)) (Nat.le_refl _) HI : Below wq.heap.size wq w')
            clear hall HI hb0_ hb1_ hb2_ hb3_ hb4_ hb5_ hb6_ hb7_ hb8_ hb9_ hb10_ hb11_ hb12_ hb13_ hb14_ hb15_
            refine ‹∀ (a' : Act) (w' : World), Met _ a' w' → _› _ _ ?_
            go_meet
            case rel => exact ⟨tt, rfl, rfl, ⟨hB⟩⟩
        · have hfn : ¬ (i : Int) < xs.length := by omega
          have hd : decide ((i : Int) < xs.length) = false := decide_eq_false hfn
          clear H HS HLO HHI HL HB HB1
          go_quiet (fail)
          refine ‹∀ (a' : Act) (w' : World), Met _ a' w' → _› _ _ ?_
          go_meet
          case rel => exact ⟨false, rfl, rfl, ⟨below_drewN (Below.refl _ _) nq⟩⟩
      case rest =>
      obtain ⟨bb, rfl, rfl, HC⟩ := hcut
      have HB3 := Side.mk (below_then HB1.out HB1.out.size HC.out)
      clear HC HB HB1
      go_step
      go_wp2
      go_ret2
      exact ⟨i, ⟨_, rfl⟩, HL.out, HB3.out⟩
end Go.Proofs.Ytbppjaglgbhckaa.CaI

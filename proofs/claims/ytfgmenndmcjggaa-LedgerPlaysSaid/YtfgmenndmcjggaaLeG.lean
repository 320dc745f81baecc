/- Package ledger, seventh text: Drop. No condition. -/
import Derived.Test.YtfgmenndmcjggaaLeF
set_option linter.unusedVariables false
set_option linter.unusedSimpArgs false
namespace Go.Proofs.Ytfgmenndmcjggaa.LeG
open Go.RowKit Go.Proofs.Ytfgmenndmcjggaa.Kit Go.Proofs.Ytfgmenndmcjggaa.Kit3 Go.Proofs.Ytfgmenndmcjggaa.Kit4 Go.Proofs.Ytfgmenndmcjggaa.LeP Go.Maps Go.Proofs.Ytfgmenndmcjggaa.LeA Go.Proofs.Ytfgmenndmcjggaa.LeB Go.Proofs.Ytfgmenndmcjggaa.LeC Go.Proofs.Ytfgmenndmcjggaa.LeD Go.Proofs.Ytfgmenndmcjggaa.LeE Go.Proofs.Ytfgmenndmcjggaa.LeF
open Go.Proofs.Ytfgmenndmcjggaa.PR WhPlain RaPlain Go.Proofs.Ytfgmenndmcjggaa.RaK
open Go.Proofs.YtfgmenndmcjggaaW.PrintLast
theorem Chg.of_turned {w w' : World} {b : Nat} (h : w.mapTurned w' b) : Chg w w' (fun k => k = b) := Chg.of_grown h.grown
theorem Chg.more {w w' : World} {S S' : Nat → Prop} (h : Chg w w' S) (hs : ∀ k, S k → S' k) : Chg w w' S' := ⟨h.os, h.tape, h.output, h.size, fun b hb hn => h.block b hb (fun e => hn (hs b e))⟩
theorem lg_drew {w : World} {B gh bl bm n : Nat} {k : Int} {s : Int × Int} {Dl Dm : DD} (h : Lg w B gh bl bm n k s Dl Dm) : Lg w.drew B gh bl bm n k s Dl Dm := h.below (below_drew (Below.refl _ w))
/-- The entry goes. -/
theorem stageA {w : World} {B gh bl bm n : Nat} {k : Int} {s : Int × Int} {Dl Dm : DD} (h : Lg w B gh bl bm n k s Dl Dm) {i : Int} (hi : (kv i).wf = true) :
    ∃ w1, (Builtin.delete_ #[51, 3] 0 #[.map (some bl), .int .i64 i]).run Try.prog w = .ok (.tuple #[]) w1 ∧ Lg w1 B gh bl bm n k s (Dl.del (kv i)) Dm ∧ Chg w w1 (Foot gh bl bm) := by
  obtain ⟨w1, r1, o1, g1⟩ := h.ml.drop keyed Try.underlying51 (hkey hi) 0
  have c1' := Chg.of_turned g1
  have hnm := h.nm
  exact ⟨w1, r1, ⟨(c1'.block gh h.lt (fun e => hnm.1 e.symm)).trans h.box, o1, map_chg h.mm c1' (fun e => h.ne e.symm), h.ne, h.bh, h.bb⟩, Chg.more c1' (fun b e => .inr (.inl e))⟩
/-- The period is counted anew. -/
theorem stageB {w : World} {B gh bl bm n : Nat} {k : Int} {s : Int × Int} {Dl Dm : DD} (h : Lg w B gh bl bm n k s Dl Dm) (hn : n < 1000000) {p c c1 : Int} (hp : (kv p).wf = true) (hc : Dm.atKey (kv p) (li 0) = li c) (hc1 : (kv c1).wf = true) :
    (Instr.lookup 52 (.map (some bm)) (.int .i64 p) false).run Try.prog w = .ok (.int .i64 c) w ∧
    ∃ w1, (Instr.mapUpdate 52 (.map (some bm)) (.int .i64 p) (.int .i64 c1)).run Try.prog w = .ok () w1 ∧ Lg w1 B gh bl bm (n + 1) k s Dl (Dm.put (kv p) (li c1)) ∧ Chg w w1 (Foot gh bl bm) := by
  obtain ⟨w2, r2, o2, g2⟩ := h.mm.update keyed Try.underlying52 (by unfold maxLen; omega) (hkey hp) (plainElem_int Try.underlying3 hc1)
  have c2' := Chg.of_grown g2
  have hnm := h.nm
  exact ⟨look_m h p c hp hc, w2, r2, ⟨(c2'.block gh h.lt (fun e => hnm.2 e.symm)).trans h.box, (map_chg h.ml c2' h.ne).mono (by omega), o2, h.ne, h.bh, h.bb⟩, Chg.more c2' (fun b e => .inr (.inr e))⟩
/-- It goes. -/
theorem stageC {w : World} {B gh bl bm n : Nat} {k : Int} {s : Int × Int} {Dl Dm : DD} (h : Lg w B gh bl bm n k s Dl Dm) {p : Int} (hp : (kv p).wf = true) :
    ∃ w1, (Builtin.delete_ #[52, 3] 0 #[.map (some bm), .int .i64 p]).run Try.prog w = .ok (.tuple #[]) w1 ∧ Lg w1 B gh bl bm n k s Dl (Dm.del (kv p)) ∧ Chg w w1 (Foot gh bl bm) := by
  obtain ⟨w3, r3, o3, g3⟩ := h.mm.drop keyed Try.underlying52 (hkey hp) 0
  have c3' := Chg.of_turned g3
  have hnm := h.nm
  exact ⟨w3, r3, ⟨(c3'.block gh h.lt (fun e => hnm.2 e.symm)).trans h.box, map_chg h.ml c3' h.ne, o3, h.ne, h.bh, h.bb⟩, Chg.more c3' (fun b e => .inr (.inr e))⟩
theorem chg_tr {w w1 w2 : World} {S : Nat → Prop} (h : Chg w w1 S) (k : Chg w1 w2 S) : Chg w w2 S := h.trans k (fun _ _ h => h)
set_option maxHeartbeats 4000000 in
set_option maxRecDepth 100000 in
theorem drop_no (w : World) (B gh bl bm n : Nat) (k : Int) (s : Int × Int) (ms : List Wt) (h : LS w B gh bl bm n k s ms) (i : Int) (hi : (kv i).wf = true) (hs : LeP.has ms i = false) :
    Calls Try.prog 13 #[.pointer (some ⟨gh, 0, none⟩), .int .i64 i] w fun r w' => r = .returned (.bool false) ∧ Below w.heap.size w w' := by
  obtain ⟨Dl, Dm, h1, h2⟩ := h.h
  have hgl := h1.lt
  have hc1 := h1.c1
  obtain ⟨a, b, hrun, _⟩ := look_l h1 h2 i hi
  rw [hs] at hrun
  clear h h1 h2
  go_enter Try.func13, Try.ntmps13
  go_wp2
  go_ret
  exact ⟨rfl, by (repeat (with_reducible first | exact Below.refl _ _ | apply below_drewN | apply below_drew | apply below_alloc | refine Below.setCell ?_ ?_ _)) <;> simp <;> omega⟩
set_option maxHeartbeats 4000000 in
set_option maxRecDepth 100000 in
theorem drop_yes (w : World) (B gh bl bm n : Nat) (k : Int) (s : Int × Int) (ms : List Wt) (h : LS w B gh bl bm n k s ms) (hn : n < 1000000) (i e p : Int) (hm : (i, e, p) ∈ ms) :
    Calls Try.prog 13 #[.pointer (some ⟨gh, 0, none⟩), .int .i64 i] w fun r w' => r = .returned (.bool true) ∧ LS w' B gh bl bm (n + 1) k (RaK.sub s (q e p)) (drp ms i) ∧ Chg w w' (Foot gh bl bm) := by
  obtain ⟨Dl, Dm, h1, h2⟩ := h.h
  have hmay : may e p := h.g.may (i, e, p) hm
  have hwi : (kv i).wf = true := wf_of (h.g.ok _ hm).2.1 (h.g.ok _ hm).2.2
  have hwp : (kv p).wf = true := wf_of (by unfold may at hmay; omega) (by unfold may at hmay; omega)
  have HGD : Side (LeP.Good k (drp ms i) (RaK.sub s (q e p))) := ⟨h.g.sub (m := (i, e, p)) hm⟩
  obtain ⟨c, hcn⟩ : ∃ c : Int, c = (cnt ms p : Int) := ⟨_, rfl⟩
  have hcb : (cnt ms p : Int) ≤ n := by
    have e1 := h1.ml.size_le
    rw [h2.sizel] at e1
    have : cnt ms p ≤ ms.length := List.countP_le_length
    omega
  have hcp : 0 < cnt ms p := cnt_pos.2 ⟨_, hm, rfl⟩
  obtain ⟨c1, hc1n⟩ : ∃ c1 : Int, c1 = c - 1 := ⟨_, rfl⟩
  have hw1 : IntKind.i64.wrap (c - 1) = c1 := by rw [Go.IntWalk.i64_in _ (by omega), hc1n]
  have hwc : (kv c1).wf = true := wf_of (by omega) (by omega)
  have HIK : Side (c1 ≠ 0 → Ix (drp ms i) (Dl.del (kv i)) (Dm.put (kv p) (li c1))) := ⟨fun h0 => LeE.Ix.keep (m := (i, e, p)) h2 h.g.nd hm hwi c1 (by rw [hc1n, hcn]) h0⟩
  have HIL : Side (c1 = 0 → Ix (drp ms i) (Dl.del (kv i)) ((Dm.put (kv p) (li c1)).del (kv p))) := ⟨fun h0 => LeE.Ix.lose (m := (i, e, p)) h2 h.g.nd hm hwi c1 (by rw [hc1n, hcn]) h0⟩
  obtain ⟨x, hx⟩ : ∃ x, q e p = x := ⟨_, rfl⟩
  obtain ⟨z, hz⟩ : ∃ z, RaK.sub s x = z := ⟨_, rfl⟩
  have hsx : Sm x 1048575 1048575 := by rw [← hx]; exact qsm hmay
  have C23 : CC 23 #[.int .i64 e, .int .i64 p] (.agg #[.int .i64 x.1, .int .i64 x.2]) := fun w => FracK hmay x hx w
  have C26 : CC 26 #[.agg #[.int .i64 s.1, .int .i64 s.2], .agg #[.int .i64 x.1, .int .i64 x.2]] (.tuple #[.agg #[.int .i64 z.1, .int .i64 z.2], .int .i64 0]) := fun w => SubK h.g.sm hsx z hz w
  rw [hx, hz] at HGD
  rw [hx, hz]
  have hgl := h1.lt
  have hc1 := h1.c1
  obtain ⟨a, b, hrun, hab⟩ := look_l h1 h2 i hwi
  rw [has_iff.2 ⟨_, hm, rfl⟩] at hrun
  obtain ⟨ea, eb⟩ : a = e ∧ b = p := hab (i, e, p) hm rfl
  rw [ea, eb] at hrun
  have HB0 : Side (Below w.heap.size w (w.alloc (.cells #[.int .i64 e, .int .i64 p] 63))) := ⟨(Below.refl _ w).alloc (Nat.le_refl _) _⟩
  have HBX : Side ((w.alloc (.cells #[.int .i64 e, .int .i64 p] 63)).heap[w.heap.size]? = some (.cells #[.int .i64 e, .int .i64 p] 63 (0, 0))) := ⟨heap_alloc_new w _⟩
  have HLG := Side.mk (h1.below HB0.out)
  have HA := Side.mk (stageA HLG.out (i := i) hwi)
  have HSB : Side (∀ w', Lg w' B gh bl bm n k s (Dl.del (kv i)) Dm → _) := ⟨fun w' hl => stageB hl hn (p := p) (c := c) (c1 := c1) hwp (by rw [hcn]; exact h2.atm p hwp) hwc⟩
  have HSC : Side (∀ w', Lg w' B gh bl bm (n + 1) k s (Dl.del (kv i)) (Dm.put (kv p) (li c1)) → _ ∧ _) := ⟨fun w' hl => And.intro (look_m hl p c1 hwp (atKey_put_same h2.tm.isMap (kv_key _) _ _)) (stageC hl (p := p) hwp)⟩
  have HPL : Side (∀ b, Foot gh bl bm b → b < w.heap.size) := ⟨fun b hb => (h1.foot b hb).2⟩
  have HHW := Side.mk hw1
  clear h h1 h2 hmay hwi hwp hcn hcb hcp hc1n hwc hx hz hsx hab ea eb hn hm hw1
  obtain ⟨s0, s1⟩ := s
  obtain ⟨z0, z1⟩ := z
  obtain ⟨x0, x1⟩ := x
  go_enter Try.func13, Try.ntmps13
  go_upto_region 6 with (fail)
  clear hrun hgl hc1
  generalize hgb : w.heap.size = g at *
  generalize w.alloc (.cells #[.int .i64 e, .int .i64 p] 63) = W at *
  have hgl := HLG.out.lt
  have hc1 := HLG.out.c1
  obtain ⟨w1, r1, l1, g1⟩ := HA.out
  have HX1 : Side (w1.heap[g]? = some (.cells #[.int .i64 e, .int .i64 p] 63 (0, 0))) := ⟨(g1.block g (Array.getElem?_eq_some_iff.1 HBX.out).1 (fun e => by have := HPL.out g e; omega)).trans HBX.out⟩
  have HC1 : Side (Chg w w1 (Foot gh bl bm)) := ⟨chg_tr (Chg.of_below (S := Foot gh bl bm) (by rw [hgb]; exact HB0.out)) g1⟩
  have HL1 := Side.mk l1
  have hw1 : IntKind.i64.wrap (c - 1) = c1 := HHW.out
  clear l1 g1 HA HLG HB0 HBX
  go_upto_region 7 with (fail)
  clear r1 hgl hc1
  have hgl := HL1.out.lt
  have hc2 := HL1.out.c2
  have hgg : g < w1.heap.size := (Array.getElem?_eq_some_iff.1 HX1.out).1
  have hq1 := cell_of_row w1 g 1 _ _ (0, 0) HX1.out
  obtain ⟨r2, w2, r3, l2, g2⟩ := HSB.out w1.drew (lg_drew HL1.out)
  have HR3 := Side.mk r3
  have HL2 := Side.mk l2
  have HC2 : Side (Chg w w2 (Foot gh bl bm)) := ⟨chg_tr (chg_tr HC1.out (Chg.of_below (S := Foot gh bl bm) (below_drew (Below.refl _ w1)))) g2⟩
  have HX2 : Side (w2.heap[g]? = some (.cells #[.int .i64 e, .int .i64 p] 63 (0, 0))) := ⟨(g2.block g hgg (fun e => by have := HPL.out g e; omega)).trans HX1.out⟩
  clear r3 l2 g2 HSB HL1 HC1 HX1
  go_cut [] (fun we => we = w2)
  case first =>
    refine start_ (n := 9) (S := fun w' => True) (ds := []) #[false, false, false, false, false, false, false, false, false] (by kernel_rfl) rfl rfl trivial (fun _ => ?_)
    refine inv_at (B := [0, 1, 3, 7, 0, 16, 63, 127, 255]) [0, 1, 2, 3, 4, 5, 6, 7, 8] (fun a0_ b a w' => a = putSel a0_ b [(0, 25, .pointer (some ⟨gh, 0, none⟩)), (1, 26, .pointer (some ⟨gh, 0, none⟩)), (2, 27, .pointer (some ⟨gh, 2, none⟩)), (3, 28, .map (some bm)), (4, 29, .pointer (some ⟨g, 1, none⟩)), (5, 30, .int .i64 p), (6, 31, .int .i64 c), (7, 32, .int .i64 c1)] ∧ One w1.drew (fun w' => w' = w2) 8 b w') rfl (by kernel_rfl) (by kernel_rfl) (by kernel_rfl) ?_ ?_ ?_
    · exact ⟨by simp only [putSel, Bool.false_eq_true, if_false], One.start⟩
    · refine steps_cons (by rintro b a w' ⟨ha, HI⟩ hb hon hoff; refine ⟨_, rfl, fun K hK => ?_⟩; have e0 := poff ha (t := 0) rfl rfl; obtain rfl := HI.n (hoff 8 rfl); exact value_ (v := .pointer (some ⟨gh, 0, none⟩)) (by rfl) rfl (by clear HI ha; go_simp) (hK.out _ _ ⟨upk ha 0 hb rfl rfl, HI.low (by decide)⟩)) ?_
      refine steps_cons (by rintro b a w' ⟨ha, HI⟩ hb hon hoff; refine ⟨_, rfl, fun K hK => ?_⟩; have e25 := pon ha 0 (hon 0 rfl) rfl rfl rfl; obtain rfl := HI.n (hoff 8 rfl); exact value_ (v := .pointer (some ⟨gh, 0, none⟩)) (by rfl) rfl (by clear HI ha; go_simp) (hK.out _ _ ⟨upk ha 1 hb rfl rfl, HI.low (by decide)⟩)) ?_
      refine steps_cons (by rintro b a w' ⟨ha, HI⟩ hb hon hoff; refine ⟨_, rfl, fun K hK => ?_⟩; have e26 := pon ha 1 (hon 1 rfl) rfl rfl rfl; obtain rfl := HI.n (hoff 8 rfl); exact value_ (v := .pointer (some ⟨gh, 2, none⟩)) (by rfl) rfl (by clear HI ha; go_simp) (hK.out _ _ ⟨upk ha 2 hb rfl rfl, HI.low (by decide)⟩)) ?_
      refine steps_cons (by rintro b a w' ⟨ha, HI⟩ hb hon hoff; refine ⟨_, rfl, fun K hK => ?_⟩; have e27 := pon ha 2 (hon 2 rfl) rfl rfl rfl; obtain rfl := HI.n (hoff 8 rfl); exact value_ (v := .map (some bm)) (by rfl) rfl (by clear HI ha; go_simp) (hK.out _ _ ⟨upk ha 3 hb rfl rfl, HI.low (by decide)⟩)) ?_
      refine steps_cons (by rintro b a w' ⟨ha, HI⟩ hb hon hoff; refine ⟨_, rfl, fun K hK => ?_⟩; have e5 := poff ha (t := 5) rfl rfl; obtain rfl := HI.n (hoff 8 rfl); exact value_ (v := .pointer (some ⟨g, 1, none⟩)) (by rfl) rfl (by clear HI ha; go_simp) (hK.out _ _ ⟨upk ha 4 hb rfl rfl, HI.low (by decide)⟩)) ?_
      refine steps_cons (by rintro b a w' ⟨ha, HI⟩ hb hon hoff; refine ⟨_, rfl, fun K hK => ?_⟩; have e29 := pon ha 4 (hon 4 rfl) rfl rfl rfl; obtain rfl := HI.n (hoff 8 rfl); exact value_ (v := .int .i64 p) (by rfl) rfl (by clear HI ha; go_simp) (hK.out _ _ ⟨upk ha 5 hb rfl rfl, HI.low (by decide)⟩)) ?_
      refine steps_cons (by rintro b a w' ⟨ha, HI⟩ hb hon hoff; refine ⟨_, rfl, fun K hK => ?_⟩; have e28 := pon ha 3 (hon 3 rfl) rfl rfl rfl; have e30 := pon ha 5 (hon 5 rfl) rfl rfl rfl; obtain rfl := HI.n (hoff 8 rfl); exact value_ (v := .int .i64 c) (by rfl) rfl (by clear HI ha; go_simp) (hK.out _ _ ⟨upk ha 6 hb rfl rfl, HI.low (by decide)⟩)) ?_
      refine steps_cons (by rintro b a w' ⟨ha, HI⟩ hb hon hoff; refine ⟨_, rfl, fun K hK => ?_⟩; have e31 := pon ha 6 (hon 6 rfl) rfl rfl rfl; obtain rfl := HI.n (hoff 8 rfl); exact value_ (v := .int .i64 c1) (by rfl) rfl (by clear HI ha; go_simp) (hK.out _ _ ⟨upk ha 7 hb rfl rfl, HI.low (by decide)⟩)) ?_
      refine steps_cons (by rintro b a w' ⟨ha, HI⟩ hb hon hoff; refine ⟨_, rfl, fun K hK => ?_⟩; have e28 := pon ha 3 (hon 3 rfl) rfl rfl rfl; have e30 := pon ha 5 (hon 5 rfl) rfl rfl rfl; have e32 := pon ha 7 (hon 7 rfl) rfl rfl rfl; obtain rfl := HI.n hb; exact skip_ (by rfl) rfl (by unfold execOp; simp [Act.eval, e28, e30, e32, HR3.out, Result.andThen]) (hK.out _ _ ⟨ups ha rfl, One.set rfl⟩)) ?_
      exact steps_nil
    · rintro b a w' hall ⟨ha, HI⟩
      have hb0_ := hall 0 rfl; have hb1_ := hall 1 rfl; have hb2_ := hall 2 rfl; have hb3_ := hall 3 rfl; have hb4_ := hall 4 rfl; have hb5_ := hall 5 rfl; have hb6_ := hall 6 rfl; have hb7_ := hall 7 rfl
      have hb8_ := hall 8 rfl
      subst ha
      simp only [putSel, hb0_, hb1_, hb2_, hb3_, hb4_, hb5_, hb6_, hb7_, if_true, Act.put, List.setIfInBounds_toArray, List.set_cons_zero, List.set_cons_succ]
      obtain rfl := HI.y hb8_
      clear hall HI hb0_ hb1_ hb2_ hb3_ hb4_ hb5_ hb6_ hb7_ hb8_
      refine ‹∀ (a' : Act) (w' : World), Met _ a' w' → _› _ _ ?_
      go_meet
      case rel => rfl
  case rest =>
    rw [hcut]
    clear hcut
    clear r2 hw1 hgl hc2 hgg hq1
    have hgl := HL2.out.lt
    have hc2 := HL2.out.c2
    have hgg : g < w2.heap.size := (Array.getElem?_eq_some_iff.1 HX2.out).1
    have hq1 := cell_of_row w2 g 1 _ _ (0, 0) HX2.out
    obtain ⟨r4, w3, r5, l3, g3⟩ := HSC.out w2.drew (lg_drew HL2.out)
    clear w3 r5 l3 g3
    go_upto_region 8 with (fail)
    obtain ⟨bb, hbb⟩ : ∃ bb : Bool, (c1 == 0) = bb := ⟨_, rfl⟩
    go_cut [40] (fun v we => v = .bool bb ∧ we = w2.drew)
    case first =>
      refine start_ (n := 8) (S := fun w' => True) (ds := []) #[false, false, false, false, false, false, false, false] (by kernel_rfl) rfl rfl trivial (fun _ => ?_)
      refine inv_at (B := [0, 1, 3, 7, 0, 16, 63, 127]) [0, 1, 2, 3, 4, 5, 6, 7] (fun a0_ b a w' => a = putSel a0_ b [(0, 33, .pointer (some ⟨gh, 0, none⟩)), (1, 34, .pointer (some ⟨gh, 0, none⟩)), (2, 35, .pointer (some ⟨gh, 2, none⟩)), (3, 36, .map (some bm)), (4, 37, .pointer (some ⟨g, 1, none⟩)), (5, 38, .int .i64 p), (6, 39, .int .i64 c1), (7, 40, .bool bb)] ∧ w' = w2.drew) rfl (by kernel_rfl) (by kernel_rfl) (by kernel_rfl) ?_ ?_ ?_
      · exact ⟨by simp only [putSel, Bool.false_eq_true, if_false], rfl⟩
      · refine steps_cons (by rintro b a w' ⟨ha, HI⟩ hb hon hoff; refine ⟨_, rfl, fun K hK => ?_⟩; have e0 := poff ha (t := 0) rfl rfl; have HI_ := HI; obtain rfl := HI_; exact value_ (v := .pointer (some ⟨gh, 0, none⟩)) (by rfl) rfl (by clear HI ha; go_simp) (hK.out _ _ ⟨upk ha 0 hb rfl rfl, rfl⟩)) ?_
        refine steps_cons (by rintro b a w' ⟨ha, HI⟩ hb hon hoff; refine ⟨_, rfl, fun K hK => ?_⟩; have e33 := pon ha 0 (hon 0 rfl) rfl rfl rfl; have HI_ := HI; obtain rfl := HI_; exact value_ (v := .pointer (some ⟨gh, 0, none⟩)) (by rfl) rfl (by clear HI ha; go_simp) (hK.out _ _ ⟨upk ha 1 hb rfl rfl, rfl⟩)) ?_
        refine steps_cons (by rintro b a w' ⟨ha, HI⟩ hb hon hoff; refine ⟨_, rfl, fun K hK => ?_⟩; have e34 := pon ha 1 (hon 1 rfl) rfl rfl rfl; have HI_ := HI; obtain rfl := HI_; exact value_ (v := .pointer (some ⟨gh, 2, none⟩)) (by rfl) rfl (by clear HI ha; go_simp) (hK.out _ _ ⟨upk ha 2 hb rfl rfl, rfl⟩)) ?_
        refine steps_cons (by rintro b a w' ⟨ha, HI⟩ hb hon hoff; refine ⟨_, rfl, fun K hK => ?_⟩; have e35 := pon ha 2 (hon 2 rfl) rfl rfl rfl; have HI_ := HI; obtain rfl := HI_; exact value_ (v := .map (some bm)) (by rfl) rfl (by clear HI ha; go_simp) (hK.out _ _ ⟨upk ha 3 hb rfl rfl, rfl⟩)) ?_
        refine steps_cons (by rintro b a w' ⟨ha, HI⟩ hb hon hoff; refine ⟨_, rfl, fun K hK => ?_⟩; have e5 := poff ha (t := 5) rfl rfl; have HI_ := HI; obtain rfl := HI_; exact value_ (v := .pointer (some ⟨g, 1, none⟩)) (by rfl) rfl (by clear HI ha; go_simp) (hK.out _ _ ⟨upk ha 4 hb rfl rfl, rfl⟩)) ?_
        refine steps_cons (by rintro b a w' ⟨ha, HI⟩ hb hon hoff; refine ⟨_, rfl, fun K hK => ?_⟩; have e37 := pon ha 4 (hon 4 rfl) rfl rfl rfl; have HI_ := HI; obtain rfl := HI_; exact value_ (v := .int .i64 p) (by rfl) rfl (by clear HI ha; go_simp) (hK.out _ _ ⟨upk ha 5 hb rfl rfl, rfl⟩)) ?_
        refine steps_cons (by rintro b a w' ⟨ha, HI⟩ hb hon hoff; refine ⟨_, rfl, fun K hK => ?_⟩; have e36 := pon ha 3 (hon 3 rfl) rfl rfl rfl; have e38 := pon ha 5 (hon 5 rfl) rfl rfl rfl; have HI_ := HI; obtain rfl := HI_; exact value_ (v := .int .i64 c1) (by rfl) rfl (by clear HI ha; go_simp) (hK.out _ _ ⟨upk ha 6 hb rfl rfl, rfl⟩)) ?_
        refine steps_cons (by rintro b a w' ⟨ha, HI⟩ hb hon hoff; refine ⟨_, rfl, fun K hK => ?_⟩; have e39 := pon ha 6 (hon 6 rfl) rfl rfl rfl; have HI_ := HI; obtain rfl := HI_; exact value_ (v := .bool bb) (by rfl) rfl (by clear HI ha; go_simp) (hK.out _ _ ⟨upk ha 7 hb rfl rfl, rfl⟩)) ?_
        exact steps_nil
      · rintro b a w' hall ⟨ha, HI⟩
        have hb0_ := hall 0 rfl; have hb1_ := hall 1 rfl; have hb2_ := hall 2 rfl; have hb3_ := hall 3 rfl; have hb4_ := hall 4 rfl; have hb5_ := hall 5 rfl; have hb6_ := hall 6 rfl; have hb7_ := hall 7 rfl
        subst ha
        simp only [putSel, hb0_, hb1_, hb2_, hb3_, hb4_, hb5_, hb6_, hb7_, if_true, Act.put, List.setIfInBounds_toArray, List.set_cons_zero, List.set_cons_succ]
        have HI_ := HI; obtain rfl := HI_
        clear hall HI hb0_ hb1_ hb2_ hb3_ hb4_ hb5_ hb6_ hb7_
        refine ‹∀ (a' : Act) (w' : World), Met _ a' w' → _› _ _ ?_
        go_meet
        case rel => exact ⟨rfl, rfl⟩
    case rest =>
      obtain ⟨rfl, hcut⟩ := hcut
      rw [hcut]
      clear hcut
      clear r4 hgl hc2 hgg hq1
      have HL3 := Side.mk (lg_drew HL2.out)
      have HX3 : Side (w2.drew.heap[g]? = some (.cells #[.int .i64 e, .int .i64 p] 63 (0, 0))) := ⟨HX2.out⟩
      have HC3 : Side (Chg w w2.drew (Foot gh bl bm)) := ⟨chg_tr HC2.out (Chg.of_below (S := Foot gh bl bm) (below_drew (Below.refl _ w2)))⟩
      clear HL2 HX2 HC2
      generalize w2.drew = w3 at *
      go_step
      go_cut [] (fun we => Side ((∃ Dm', Lg we B gh bl bm (n + 1) k (s0, s1) (Dl.del (kv i)) Dm' ∧ Ix (drp ms i) (Dl.del (kv i)) Dm') ∧ we.heap[g]? = some (.cells #[.int .i64 e, .int .i64 p] 63 (0, 0)) ∧ Chg w we (Foot gh bl bm)))
      case first =>
        have hgl := HL3.out.lt
        have hc2 := HL3.out.c2
        have hgg : g < w3.heap.size := (Array.getElem?_eq_some_iff.1 HX3.out).1
        have hq1 := cell_of_row w3 g 1 _ _ (0, 0) HX3.out
        obtain ⟨_, w4, r5, l4, g4⟩ := HSC.out w3.drew (lg_drew HL3.out)
        have HR5 := Side.mk r5
        have HE : Side (c1 = 0 → (∃ Dm', Lg w4 B gh bl bm (n + 1) k (s0, s1) (Dl.del (kv i)) Dm' ∧ Ix (drp ms i) (Dl.del (kv i)) Dm') ∧ w4.heap[g]? = some (.cells #[.int .i64 e, .int .i64 p] 63 (0, 0)) ∧ Chg w w4 (Foot gh bl bm)) := ⟨fun h0 =>
          ⟨⟨_, l4, HIL.out h0⟩, (g4.block g hgg (fun e => by have := HPL.out g e; omega)).trans HX3.out, chg_tr (chg_tr HC3.out (Chg.of_below (S := Foot gh bl bm) (below_drew (Below.refl _ w3)))) g4⟩⟩
        clear r5 l4 g4
        cases bb with
        | true =>
          have h0 : c1 = 0 := by simpa using hbb
          have HZ := Side.mk (HE.out h0)
          clear HE hbb h0
          go_upto_region 9 with (fail)
          refine start_ (n := 7) (S := fun w' => True) (ds := []) #[false, false, false, false, false, false, false] (by kernel_rfl) rfl rfl trivial (fun _ => ?_)
          refine inv_at (B := [0, 1, 3, 7, 0, 16, 63]) [0, 1, 2, 3, 4, 5, 6] (fun a0_ b a w' => a = putSel a0_ b [(0, 41, .pointer (some ⟨gh, 0, none⟩)), (1, 42, .pointer (some ⟨gh, 0, none⟩)), (2, 43, .pointer (some ⟨gh, 2, none⟩)), (3, 44, .map (some bm)), (4, 45, .pointer (some ⟨g, 1, none⟩)), (5, 46, .int .i64 p)] ∧ One w3.drew (fun w' => w' = w4) 6 b w') rfl (by kernel_rfl) (by kernel_rfl) (by kernel_rfl) ?_ ?_ ?_
          · exact ⟨by simp only [putSel, Bool.false_eq_true, if_false], One.start⟩
          · refine steps_cons (by rintro b a w' ⟨ha, HI⟩ hb hon hoff; refine ⟨_, rfl, fun K hK => ?_⟩; have e0 := poff ha (t := 0) rfl rfl; obtain rfl := HI.n (hoff 6 rfl); exact value_ (v := .pointer (some ⟨gh, 0, none⟩)) (by rfl) rfl (by clear HI ha; go_simp) (hK.out _ _ ⟨upk ha 0 hb rfl rfl, HI.low (by decide)⟩)) ?_
            refine steps_cons (by rintro b a w' ⟨ha, HI⟩ hb hon hoff; refine ⟨_, rfl, fun K hK => ?_⟩; have e41 := pon ha 0 (hon 0 rfl) rfl rfl rfl; obtain rfl := HI.n (hoff 6 rfl); exact value_ (v := .pointer (some ⟨gh, 0, none⟩)) (by rfl) rfl (by clear HI ha; go_simp) (hK.out _ _ ⟨upk ha 1 hb rfl rfl, HI.low (by decide)⟩)) ?_
            refine steps_cons (by rintro b a w' ⟨ha, HI⟩ hb hon hoff; refine ⟨_, rfl, fun K hK => ?_⟩; have e42 := pon ha 1 (hon 1 rfl) rfl rfl rfl; obtain rfl := HI.n (hoff 6 rfl); exact value_ (v := .pointer (some ⟨gh, 2, none⟩)) (by rfl) rfl (by clear HI ha; go_simp) (hK.out _ _ ⟨upk ha 2 hb rfl rfl, HI.low (by decide)⟩)) ?_
            refine steps_cons (by rintro b a w' ⟨ha, HI⟩ hb hon hoff; refine ⟨_, rfl, fun K hK => ?_⟩; have e43 := pon ha 2 (hon 2 rfl) rfl rfl rfl; obtain rfl := HI.n (hoff 6 rfl); exact value_ (v := .map (some bm)) (by rfl) rfl (by clear HI ha; go_simp) (hK.out _ _ ⟨upk ha 3 hb rfl rfl, HI.low (by decide)⟩)) ?_
            refine steps_cons (by rintro b a w' ⟨ha, HI⟩ hb hon hoff; refine ⟨_, rfl, fun K hK => ?_⟩; have e5 := poff ha (t := 5) rfl rfl; obtain rfl := HI.n (hoff 6 rfl); exact value_ (v := .pointer (some ⟨g, 1, none⟩)) (by rfl) rfl (by clear HI ha; go_simp) (hK.out _ _ ⟨upk ha 4 hb rfl rfl, HI.low (by decide)⟩)) ?_
            refine steps_cons (by rintro b a w' ⟨ha, HI⟩ hb hon hoff; refine ⟨_, rfl, fun K hK => ?_⟩; have e45 := pon ha 4 (hon 4 rfl) rfl rfl rfl; obtain rfl := HI.n (hoff 6 rfl); exact value_ (v := .int .i64 p) (by rfl) rfl (by clear HI ha; go_simp) (hK.out _ _ ⟨upk ha 5 hb rfl rfl, HI.low (by decide)⟩)) ?_
            refine steps_cons (by rintro b a w' ⟨ha, HI⟩ hb hon hoff; refine ⟨_, rfl, fun K hK => ?_⟩; have e44 := pon ha 3 (hon 3 rfl) rfl rfl rfl; have e46 := pon ha 5 (hon 5 rfl) rfl rfl rfl; obtain rfl := HI.n hb; exact value_ (w1 := w4) (v := .tuple #[]) (by rfl) rfl (by unfold execOp; simp [Act.eval, e44, e46, resolve, invoke, builtin, HR5.out, Result.andThen]) (hK.out _ _ ⟨ups ha rfl, One.set rfl⟩)) ?_
            exact steps_nil
          · rintro b a w' hall ⟨ha, HI⟩
            have hb0_ := hall 0 rfl; have hb1_ := hall 1 rfl; have hb2_ := hall 2 rfl; have hb3_ := hall 3 rfl; have hb4_ := hall 4 rfl; have hb5_ := hall 5 rfl; have hb6_ := hall 6 rfl
            subst ha
            simp only [putSel, hb0_, hb1_, hb2_, hb3_, hb4_, hb5_, if_true, Act.put, List.setIfInBounds_toArray, List.set_cons_zero, List.set_cons_succ]
            obtain rfl := HI.y hb6_
            clear hall HI hb0_ hb1_ hb2_ hb3_ hb4_ hb5_ hb6_
            refine ‹∀ (a' : Act) (w' : World), Met _ a' w' → _› _ _ ?_
            go_meet
            case rel => exact HZ
        | false =>
          have h0 : c1 ≠ 0 := by simpa using hbb
          clear HE hbb
          go_wp2
          go_meet
          case rel => exact ⟨⟨_, HL3.out, HIK.out h0⟩, HX3.out, HC3.out⟩
      case rest =>
        clear HSC HIK HIL hbb HL3 HX3 HC3
        have HCUT := hcut
        clear hcut
        generalize wc = w5 at *
        obtain ⟨Dm', HL5, HI5⟩ : ∃ Dm', Side (Lg w5 B gh bl bm (n + 1) k (s0, s1) (Dl.del (kv i)) Dm') ∧ Side (Ix (drp ms i) (Dl.del (kv i)) Dm') := by
          obtain ⟨⟨D, h1, h2⟩, _⟩ := HCUT.out
          exact ⟨D, ⟨h1⟩, ⟨h2⟩⟩
        have hc3 := HL5.out.c3
        have hc4 := HL5.out.c4
        have hgl := HL5.out.lt
        have hgg : g < w5.heap.size := (Array.getElem?_eq_some_iff.1 HCUT.out.2.1).1
        have hq0 : w5.cell? ⟨g, 0, none⟩ = some (.int .i64 e) := cell_of_row w5 g 0 _ _ (0, 0) HCUT.out.2.1
        have hq1 : w5.cell? ⟨g, 1, none⟩ = some (.int .i64 p) := cell_of_row w5 g 1 _ _ (0, 0) HCUT.out.2.1
        have HST : Side (∀ w', Below w5.drew.heap.size w5.drew w' → _ ∧ _ ∧ _) := ⟨fun w' hb => sum_store (HL5.out.below (below_then (below_drew (Below.refl _ w5)) (Nat.le_refl _) hb)) z0 z1⟩
        go_upto_region 10 with (fail)
        refine start_ (n := 17) (S := fun w' => True) (ds := []) #[false, false, false, false, false, false, false, false, false, false, false, false, false, false, false, false, false] (by kernel_rfl) rfl rfl trivial (fun _ => ?_)
        refine inv_at (B := [0, 0, 2, 6, 14, 0, 32, 0, 128, 480, 1022, 2046, 4094, 4094, 1, 16385, 57343]) [0, 1, 2, 3, 4, 5, 6, 7, 8, 9, 10, 11, 12, 13, 14, 15, 16] (fun a0_ b a w' => a = putSel a0_ b [(0, 48, .pointer (some ⟨gh, 0, none⟩)), (1, 49, .pointer (some ⟨gh, 0, none⟩)), (2, 50, .pointer (some ⟨gh, 0, none⟩)), (3, 51, .pointer (some ⟨gh, 3, none⟩)), (4, 52, .agg #[.int .i64 s0, .int .i64 s1]), (5, 53, .pointer (some ⟨g, 0, none⟩)), (6, 54, .int .i64 e), (7, 55, .pointer (some ⟨g, 1, none⟩)), (8, 56, .int .i64 p), (9, 57, .agg #[.int .i64 x0, .int .i64 x1]), (10, 58, .tuple #[.agg #[.int .i64 z0, .int .i64 z1], .int .i64 0]), (11, 47, .tuple #[.agg #[.int .i64 z0, .int .i64 z1], .int .i64 0]), (12, 59, .agg #[.int .i64 z0, .int .i64 z1]), (13, 60, .int .i64 0), (14, 61, .pointer (some ⟨gh, 0, none⟩)), (15, 62, .pointer (some ⟨gh, 3, none⟩))] ∧ SB w5.drew (fun w' => ∃ w6, Below w5.drew.heap.size w5.drew w6 ∧ w' = w6.setCells gh 3 [.int .i64 z0, .int .i64 z1]) 16 b w') rfl (by kernel_rfl) (by kernel_rfl) (by kernel_rfl) ?_ ?_ ?_
        · exact ⟨by simp only [putSel, Bool.false_eq_true, if_false], SB.start⟩
        · refine steps_cons (by rintro b a w' ⟨ha, HI⟩ hb hon hoff; refine ⟨_, rfl, fun K hK => ?_⟩; have e0 := poff ha (t := 0) rfl rfl; exact value_ (v := .pointer (some ⟨gh, 0, none⟩)) (by rfl) rfl (by clear HI ha; go_simp) (hK.out _ _ ⟨upk ha 0 hb rfl rfl, HI.low (by decide)⟩)) ?_
          refine steps_cons (by rintro b a w' ⟨ha, HI⟩ hb hon hoff; refine ⟨_, rfl, fun K hK => ?_⟩; have e0 := poff ha (t := 0) rfl rfl; exact value_ (v := .pointer (some ⟨gh, 0, none⟩)) (by rfl) rfl (by clear HI ha; go_simp) (hK.out _ _ ⟨upk ha 1 hb rfl rfl, HI.low (by decide)⟩)) ?_
          refine steps_cons (by rintro b a w' ⟨ha, HI⟩ hb hon hoff; refine ⟨_, rfl, fun K hK => ?_⟩; have e49 := pon ha 1 (hon 1 rfl) rfl rfl rfl; exact value_ (v := .pointer (some ⟨gh, 0, none⟩)) (by rfl) rfl (by clear HI ha; go_simp) (hK.out _ _ ⟨upk ha 2 hb rfl rfl, HI.low (by decide)⟩)) ?_
          refine steps_cons (by rintro b a w' ⟨ha, HI⟩ hb hon hoff; refine ⟨_, rfl, fun K hK => ?_⟩; have e50 := pon ha 2 (hon 2 rfl) rfl rfl rfl; exact value_ (v := .pointer (some ⟨gh, 3, none⟩)) (by rfl) rfl (by clear HI ha; go_simp) (hK.out _ _ ⟨upk ha 3 hb rfl rfl, HI.low (by decide)⟩)) ?_
          refine steps_cons (by rintro b a w' ⟨ha, HI⟩ hb hon hoff; refine ⟨_, rfl, fun K hK => ?_⟩; have e51 := pon ha 3 (hon 3 rfl) rfl rfl rfl; have k0_ := bc (HI.n (hoff 16 rfl)) hgl hc3; have k1_ := bc (HI.n (hoff 16 rfl)) hgl hc4; have kz_ := bz (HI.n (hoff 16 rfl)) hgl; exact value_ (v := .agg #[.int .i64 s0, .int .i64 s1]) (by rfl) rfl (by clear HI ha; go_simp) (hK.out _ _ ⟨upk ha 4 hb rfl rfl, HI.low (by decide)⟩)) ?_
          refine steps_cons (by rintro b a w' ⟨ha, HI⟩ hb hon hoff; refine ⟨_, rfl, fun K hK => ?_⟩; have e5 := poff ha (t := 5) rfl rfl; exact value_ (v := .pointer (some ⟨g, 0, none⟩)) (by rfl) rfl (by clear HI ha; go_simp) (hK.out _ _ ⟨upk ha 5 hb rfl rfl, HI.low (by decide)⟩)) ?_
          refine steps_cons (by rintro b a w' ⟨ha, HI⟩ hb hon hoff; refine ⟨_, rfl, fun K hK => ?_⟩; have e53 := pon ha 5 (hon 5 rfl) rfl rfl rfl; have k0_ := bc (HI.n (hoff 16 rfl)) hgg hq0; have kz_ := bz (HI.n (hoff 16 rfl)) hgg; exact value_ (v := .int .i64 e) (by rfl) rfl (by clear HI ha; go_simp) (hK.out _ _ ⟨upk ha 6 hb rfl rfl, HI.low (by decide)⟩)) ?_
          refine steps_cons (by rintro b a w' ⟨ha, HI⟩ hb hon hoff; refine ⟨_, rfl, fun K hK => ?_⟩; have e5 := poff ha (t := 5) rfl rfl; exact value_ (v := .pointer (some ⟨g, 1, none⟩)) (by rfl) rfl (by clear HI ha; go_simp) (hK.out _ _ ⟨upk ha 7 hb rfl rfl, HI.low (by decide)⟩)) ?_
          refine steps_cons (by rintro b a w' ⟨ha, HI⟩ hb hon hoff; refine ⟨_, rfl, fun K hK => ?_⟩; have e55 := pon ha 7 (hon 7 rfl) rfl rfl rfl; have k0_ := bc (HI.n (hoff 16 rfl)) hgg hq1; have kz_ := bz (HI.n (hoff 16 rfl)) hgg; exact value_ (v := .int .i64 p) (by rfl) rfl (by clear HI ha; go_simp) (hK.out _ _ ⟨upk ha 8 hb rfl rfl, HI.low (by decide)⟩)) ?_
          refine steps_cons (by rintro b a w' ⟨ha, HI⟩ hb hon hoff; refine ⟨_, rfl, fun K hK => ?_⟩; have e54 := pon ha 6 (hon 6 rfl) rfl rfl rfl; have e56 := pon ha 8 (hon 8 rfl) rfl rfl rfl; refine goes_ Try.func23 (by kernel_rfl) rfl #[.int .i64 e, .int .i64 p] (by rfl) rfl rfl (by simp [Act.eval, e54, e56]) ((C23 _).out.mono ?_); rintro e_ w'' ⟨rfl, hbc⟩; exact ⟨_, rfl, hK.out _ _ ⟨upk ha 9 hb rfl rfl, HI.call (hoff 16 rfl) hbc (by decide)⟩⟩) ?_
          refine steps_cons (by rintro b a w' ⟨ha, HI⟩ hb hon hoff; refine ⟨_, rfl, fun K hK => ?_⟩; have e52 := pon ha 4 (hon 4 rfl) rfl rfl rfl; have e57 := pon ha 9 (hon 9 rfl) rfl rfl rfl; refine goes_ Try.func26 (by kernel_rfl) rfl #[.agg #[.int .i64 s0, .int .i64 s1], .agg #[.int .i64 x0, .int .i64 x1]] (by rfl) rfl rfl (by simp [Act.eval, e52, e57]) ((C26 _).out.mono ?_); rintro e_ w'' ⟨rfl, hbc⟩; exact ⟨_, rfl, hK.out _ _ ⟨upk ha 10 hb rfl rfl, HI.call (hoff 16 rfl) hbc (by decide)⟩⟩) ?_
          refine steps_cons (by rintro b a w' ⟨ha, HI⟩ hb hon hoff; refine ⟨_, rfl, fun K hK => ?_⟩; have e58 := pon ha 10 (hon 10 rfl) rfl rfl rfl; exact value_ (v := .tuple #[.agg #[.int .i64 z0, .int .i64 z1], .int .i64 0]) (by rfl) rfl (by clear HI ha; go_simp) (hK.out _ _ ⟨upk ha 11 hb rfl rfl, HI.low (by decide)⟩)) ?_
          refine steps_cons (by rintro b a w' ⟨ha, HI⟩ hb hon hoff; refine ⟨_, rfl, fun K hK => ?_⟩; have e47 := pon ha 11 (hon 11 rfl) rfl rfl rfl; exact value_ (v := .agg #[.int .i64 z0, .int .i64 z1]) (by rfl) rfl (by clear HI ha; go_simp) (hK.out _ _ ⟨upk ha 12 hb rfl rfl, HI.low (by decide)⟩)) ?_
          refine steps_cons (by rintro b a w' ⟨ha, HI⟩ hb hon hoff; refine ⟨_, rfl, fun K hK => ?_⟩; have e47 := pon ha 11 (hon 11 rfl) rfl rfl rfl; exact value_ (v := .int .i64 0) (by rfl) rfl (by clear HI ha; go_simp) (hK.out _ _ ⟨upk ha 13 hb rfl rfl, HI.low (by decide)⟩)) ?_
          refine steps_cons (by rintro b a w' ⟨ha, HI⟩ hb hon hoff; refine ⟨_, rfl, fun K hK => ?_⟩; have e48 := pon ha 0 (hon 0 rfl) rfl rfl rfl; exact value_ (v := .pointer (some ⟨gh, 0, none⟩)) (by rfl) rfl (by clear HI ha; go_simp) (hK.out _ _ ⟨upk ha 14 hb rfl rfl, HI.low (by decide)⟩)) ?_
          refine steps_cons (by rintro b a w' ⟨ha, HI⟩ hb hon hoff; refine ⟨_, rfl, fun K hK => ?_⟩; have e61 := pon ha 14 (hon 14 rfl) rfl rfl rfl; exact value_ (v := .pointer (some ⟨gh, 3, none⟩)) (by rfl) rfl (by clear HI ha; go_simp) (hK.out _ _ ⟨upk ha 15 hb rfl rfl, HI.low (by decide)⟩)) ?_
          refine steps_cons (by rintro b a w' ⟨ha, HI⟩ hb hon hoff; refine ⟨_, rfl, fun K hK => ?_⟩; have e62 := pon ha 15 (hon 15 rfl) rfl rfl rfl; have e59 := pon ha 12 (hon 12 rfl) rfl rfl rfl; have hbl := HI.n hb; exact skip_ (by rfl) rfl (by unfold execOp; simp [Act.eval, e62, e59, (HST.out _ hbl).1]) (hK.out _ _ ⟨ups ha rfl, SB.set ⟨_, hbl, rfl⟩⟩)) ?_
          exact steps_nil
        · rintro b a w' hall ⟨ha, HI⟩
          have hb0_ := hall 0 rfl; have hb1_ := hall 1 rfl; have hb2_ := hall 2 rfl; have hb3_ := hall 3 rfl; have hb4_ := hall 4 rfl; have hb5_ := hall 5 rfl; have hb6_ := hall 6 rfl; have hb7_ := hall 7 rfl
          have hb8_ := hall 8 rfl; have hb9_ := hall 9 rfl; have hb10_ := hall 10 rfl; have hb11_ := hall 11 rfl; have hb12_ := hall 12 rfl; have hb13_ := hall 13 rfl; have hb14_ := hall 14 rfl; have hb15_ := hall 15 rfl
          have hb16_ := hall 16 rfl
          subst ha
          simp only [putSel, hb0_, hb1_, hb2_, hb3_, hb4_, hb5_, hb6_, hb7_, hb8_, hb9_, hb10_, hb11_, hb12_, hb13_, hb14_, hb15_, if_true, Act.put, List.setIfInBounds_toArray, List.set_cons_zero, List.set_cons_succ]
          obtain ⟨w6, hb6, rfl⟩ := HI.y hb16_
          clear hall HI hb0_ hb1_ hb2_ hb3_ hb4_ hb5_ hb6_ hb7_ hb8_ hb9_ hb10_ hb11_ hb12_ hb13_ hb14_ hb15_ hb16_
          refine ‹∀ (a : Act) (w : World), Code.wp Try.prog _ _ a w → _› _ _ ?_
          go_wp2
          go_ret
          have h6 := (HST.out w6 hb6).2
          refine ⟨rfl, ⟨HGD.out, _, _, h6.1, HI5.out⟩, ?_⟩
          have hb6' := below_then (below_drew (Below.refl _ w5)) (Nat.le_refl _) hb6
          exact chg_tr HCUT.out.2.2 (chg_tr (Chg.of_below (S := Foot gh bl bm) hb6') h6.2)
end Go.Proofs.Ytfgmenndmcjggaa.LeG

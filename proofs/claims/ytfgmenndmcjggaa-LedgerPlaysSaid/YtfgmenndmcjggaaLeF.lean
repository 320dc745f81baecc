/- Package ledger, sixth text: Add. No condition. -/
import Derived.Test.YtfgmenndmcjggaaLeE
set_option linter.unusedVariables false
set_option linter.unusedSimpArgs false
namespace Go.Proofs.Ytfgmenndmcjggaa.LeF
open Go.RowKit Go.Proofs.Ytfgmenndmcjggaa.Kit Go.Proofs.Ytfgmenndmcjggaa.Kit3 Go.Proofs.Ytfgmenndmcjggaa.Kit4 Go.Proofs.Ytfgmenndmcjggaa.LeP Go.Maps Go.Proofs.Ytfgmenndmcjggaa.LeA Go.Proofs.Ytfgmenndmcjggaa.LeB Go.Proofs.Ytfgmenndmcjggaa.LeC Go.Proofs.Ytfgmenndmcjggaa.LeD Go.Proofs.Ytfgmenndmcjggaa.LeE
open Go.Proofs.Ytfgmenndmcjggaa.PR WhPlain RaPlain Go.Proofs.Ytfgmenndmcjggaa.RaK
open Go.Proofs.Ytfgmenndmcjggaa.RaC (Fr)
open Go.Proofs.YtfgmenndmcjggaaW.PrintLast
open Go.Proofs.YtfgmenndmcjggaaW.PrintWords (run_store_run setCells_row setCells_far setCells_same)
/-- Nothing that lay there turns until operation j is done; then P holds. -/
structure SB (W : World) (P : World → Prop) (j : Nat) (b : Nat → Bool) (w' : World) : Prop where
  n : b j = false → Below W.heap.size W w'
  y : b j = true → P w'
theorem SB.start {W : World} {P : World → Prop} {j : Nat} : SB W P j (fun _ => false) W := ⟨fun _ => Below.refl _ _, fun h => by cases h⟩
theorem SB.low {W w' : World} {P : World → Prop} {j i : Nat} {b : Nat → Bool} (h : SB W P j b w') (hi : j ≠ i) : SB W P j (up b i) w' := by
  constructor
  · rw [up_ne hi]; exact h.n
  · rw [up_ne hi]; exact h.y
theorem SB.call {W w' w'' : World} {P : World → Prop} {j i : Nat} {b : Nat → Bool} (h : SB W P j b w') (hb : b j = false) (hc : Below w'.heap.size w' w'') (hi : j ≠ i) : SB W P j (up b i) w'' := by
  constructor
  · rw [up_ne hi]; exact fun h1 => below_then (h.n h1) (h.n h1).size hc
  · rw [up_ne hi, hb]; exact fun h1 => by cases h1
theorem SB.set {W w' : World} {P : World → Prop} {j : Nat} {b : Nat → Bool} (h : P w') : SB W P j (up b j) w' :=
  ⟨fun e => (by rw [up_self] at e; cases e), fun _ => h⟩
theorem chg_cells (w : World) (g o : Nat) (vs : List Value) : Chg w (w.setCells g o vs) (fun k => k = g) := by
  obtain ⟨h1, h2, h3, h4⟩ := setCells_same g vs o w
  exact ⟨h1, h2, h3, by omega, fun k _ hk => setCells_far vs o k hk⟩
theorem Chg.of_grown {w w' : World} {b : Nat} (h : w.grownBy w' (some b)) : Chg w w' (fun k => k = b) := ⟨h.os, h.tape, h.output, h.size, fun k hk hn => h.block k hk (fun e => hn (Option.some.inj e))⟩
/-- The sum is written. -/
theorem sum_store {w : World} {B gh bl bm n : Nat} {k : Int} {s : Int × Int} {Dl Dm : DD} (h : Lg w B gh bl bm n k s Dl Dm) (z0 z1 : Int) :
    (Instr.storeAt 30 (.pointer (some ⟨gh, 3, none⟩)) (.agg #[.int .i64 z0, .int .i64 z1])).run Try.prog w = .ok () (w.setCells gh 3 [.int .i64 z0, .int .i64 z1]) ∧
    Lg (w.setCells gh 3 [.int .i64 z0, .int .i64 z1]) B gh bl bm n k (z0, z1) Dl Dm ∧ Chg w (w.setCells gh 3 [.int .i64 z0, .int .i64 z1]) (Foot gh bl bm) := by
  have hc := chg_cells w gh 3 [.int .i64 z0, .int .i64 z1]
  have hnm := h.nm
  refine ⟨run_store_run 30 _ [.int .i64 z0, .int .i64 z1] h.box rfl (by kernel_rfl) (by simp) (by intro q hq; simp at hq; rcases hq with rfl | rfl <;> rfl), ?_, ⟨hc.os, hc.tape, hc.output, hc.size, fun b hb hn => hc.block b hb (fun e => hn (.inl e))⟩⟩
  obtain ⟨cur', g1, g2, g3⟩ := setCells_row [.int .i64 z0, .int .i64 z1] 3 w _ h.box (by simp)
  refine ⟨?_, map_chg h.ml hc hnm.1, map_chg h.mm hc hnm.2, h.ne, h.bh, h.bb⟩
  rw [g1]
  have : cur' = #[.int .i64 k, .map (some bl), .map (some bm), .int .i64 z0, .int .i64 z1] := by apply Array.ext'; rw [g3]; rfl
  rw [this]
/-- What Add answers. -/
def addV (k : Int) (ms : List Wt) (i e p : Int) : Int := if ¬ may e p then 2 else if LeP.has ms i = true then 4 else canV k ms e p
set_option maxHeartbeats 4000000 in
set_option maxRecDepth 100000 in
theorem add_may (w : World) (B gh bl bm n : Nat) (k : Int) (s : Int × Int) (ms : List Wt) (h : LS w B gh bl bm n k s ms) (i e p : Int) (hm : ¬ may e p) :
    Calls Try.prog 10 #[.pointer (some ⟨gh, 0, none⟩), .int .i64 i, .int .i64 e, .int .i64 p] w fun r w' => r = .returned (.int .i64 2) ∧ Below w.heap.size w w' := by
  have HM : CC 20 #[.int .i64 e, .int .i64 p] (.bool false) := fun w => MayK e p false (decide_eq_false hm) w
  clear h hm
  go_enter Try.func10, Try.ntmps10
  go_wp2_with (go_at_call 20; (with_reducible refine (HM _).out.mono ?_); rintro e w2 ⟨rfl, hb2⟩)
  go_ret
  exact ⟨rfl, hb2⟩
set_option maxHeartbeats 4000000 in
set_option maxRecDepth 100000 in
theorem add_there (w : World) (B gh bl bm n : Nat) (k : Int) (s : Int × Int) (ms : List Wt) (h : LS w B gh bl bm n k s ms) (i e p : Int) (hm : may e p) (hi : (kv i).wf = true) (hs : LeP.has ms i = true) :
    Calls Try.prog 10 #[.pointer (some ⟨gh, 0, none⟩), .int .i64 i, .int .i64 e, .int .i64 p] w fun r w' => r = .returned (.int .i64 4) ∧ Below w.heap.size w w' := by
  have HM : CC 20 #[.int .i64 e, .int .i64 p] (.bool true) := fun w => MayK e p true (decide_eq_true hm) w
  obtain ⟨Dl, Dm, h1, h2⟩ := h.h
  have HLG := Side.mk h1
  have HIX := Side.mk h2
  have HI := Side.mk hi
  have HS := Side.mk hs
  clear h h1 h2 hm hi hs
  go_enter Try.func10, Try.ntmps10
  go_upto_region 3 with (go_at_call 20; (with_reducible refine (HM _).out.mono ?_); rintro e w2 ⟨rfl, hb2⟩)
  have HLG2 := Side.mk (HLG.out.below hb2)
  have HB := Side.mk hb2
  clear hb2 HLG
  have hgl := HLG2.out.lt
  have hc1 := HLG2.out.c1
  obtain ⟨a, b, hrun, _⟩ := look_l HLG2.out HIX.out i HI.out
  rw [HS.out] at hrun
  go_wp2
  go_ret
  exact ⟨rfl, by (repeat (with_reducible first | exact HB.out | apply below_drewN | apply below_drew | apply below_alloc | refine Below.setCell ?_ ?_ _)) <;> have := HB.out.size <;> simp <;> omega⟩
theorem can_at {w : World} {B gh bl bm n : Nat} {k : Int} {s : Int × Int} {ms : List Wt} (h : LS w B gh bl bm n k s ms) {e p c : Int} (hc : canV k ms e p = c) :
    Calls Try.prog 9 #[.pointer (some ⟨gh, 0, none⟩), .int .i64 e, .int .i64 p] w fun r w' => r = .returned (.int .i64 c) ∧ Below w.heap.size w w' := by
  by_cases h1 : ¬ may e p ∨ 16777216 < Nat.lcm p.natAbs (ll ms)
  · exact can_no w B gh bl bm n k s ms h e p c hc h1
  · exact can_yes w B gh bl bm n k s ms h e p c hc (by by_cases h2 : may e p; exact h2; exact absurd (.inl h2) h1) (by omega)
set_option maxHeartbeats 4000000 in
set_option maxRecDepth 100000 in
theorem add_not (w : World) (B gh bl bm n : Nat) (k : Int) (s : Int × Int) (ms : List Wt) (h : LS w B gh bl bm n k s ms) (i e p : Int) (hm : may e p) (hi : (kv i).wf = true) (hs : LeP.has ms i = false) (c : Int) (hc : canV k ms e p = c) (hc0 : ¬ c = 0) :
    Calls Try.prog 10 #[.pointer (some ⟨gh, 0, none⟩), .int .i64 i, .int .i64 e, .int .i64 p] w fun r w' => r = .returned (.int .i64 c) ∧ Below w.heap.size w w' := by
  have HM : CC 20 #[.int .i64 e, .int .i64 p] (.bool true) := fun w => MayK e p true (decide_eq_true hm) w
  obtain ⟨Dl, Dm, h1, h2⟩ := h.h
  have HLG := Side.mk h1
  have HIX := Side.mk h2
  have HI := Side.mk hi
  have HS := Side.mk hs
  have HCAN : Side (∀ w', Below w.heap.size w w' → Calls Try.prog 9 #[.pointer (some ⟨gh, 0, none⟩), .int .i64 e, .int .i64 p] w' fun r w'' => r = .returned (.int .i64 c) ∧ Below w'.heap.size w' w'') := ⟨fun w' hb => can_at (h.below hb) hc⟩
  clear h h1 h2 hm hi hs hc
  go_enter Try.func10, Try.ntmps10
  go_upto_region 3 with (go_at_call 20; (with_reducible refine (HM _).out.mono ?_); rintro e w2 ⟨rfl, hb2⟩)
  have HLG2 := Side.mk (HLG.out.below hb2)
  have HB := Side.mk hb2
  clear hb2 HLG
  have hgl := HLG2.out.lt
  have hc1 := HLG2.out.c1
  obtain ⟨a, b, hrun, _⟩ := look_l HLG2.out HIX.out i HI.out
  rw [HS.out] at hrun
  go_upto_region 6 with (fail)
  have HB2 : Side (Below w.heap.size w (w2.alloc (.cells #[.int .i64 a, .int .i64 b] 63))) := ⟨HB.out.alloc HB.out.size _⟩
  generalize w2.alloc (.cells #[.int .i64 a, .int .i64 b] 63) = W2 at *
  clear hrun hgl hc1 HLG2 HIX
  go_wp2_with (go_at_call 9; (with_reducible refine (HCAN.out _ HB2.out).mono ?_); rintro e w3 ⟨rfl, hb3⟩)
  go_ret
  exact ⟨rfl, below_then HB2.out HB2.out.size hb3⟩
/-- A weight that is taken. -/
theorem chain {w : World} {B gh bl bm n : Nat} {k : Int} {s : Int × Int} {Dl Dm : DD} (h : Lg w B gh bl bm n k s Dl Dm) (hn : n < 1000000) {i e p c c1 : Int} (hi : (kv i).wf = true) (hp : (kv p).wf = true) (hc : Dm.atKey (kv p) (li 0) = li c) (hc1 : (kv c1).wf = true) :
    ∃ w1 w2, (Instr.mapUpdate 51 (.map (some bl)) (.int .i64 i) (.agg #[.int .i64 e, .int .i64 p])).run Try.prog w = .ok () w1 ∧
      (Instr.lookup 52 (.map (some bm)) (.int .i64 p) false).run Try.prog w1 = .ok (.int .i64 c) w1 ∧
      (Instr.mapUpdate 52 (.map (some bm)) (.int .i64 p) (.int .i64 c1)).run Try.prog w1 = .ok () w2 ∧
      Lg w1 B gh bl bm (n + 1) k s (Dl.put (kv i) (.agg [li e, li p])) Dm ∧ Lg w2 B gh bl bm (n + 1) k s (Dl.put (kv i) (.agg [li e, li p])) (Dm.put (kv p) (li c1)) ∧ Chg w w2 (Foot gh bl bm) := by
  obtain ⟨w1, r1, o1, g1⟩ := h.ml.update keyed Try.underlying51 (by unfold maxLen; omega) (hkey hi) (pairR_at e p)
  have c1' := Chg.of_grown g1
  have hnm := h.nm
  have L1 : Lg w1 B gh bl bm (n + 1) k s (Dl.put (kv i) (.agg [li e, li p])) Dm := ⟨(c1'.block gh h.lt (fun e => hnm.1 e.symm)).trans h.box, o1, (map_chg h.mm c1' (fun e => h.ne e.symm)).mono (by omega), h.ne, h.bh, h.bb⟩
  obtain ⟨w2, r2, o2, g2⟩ := (map_chg h.mm c1' (fun e => h.ne e.symm)).update keyed Try.underlying52 (by unfold maxLen; omega) (hkey hp) (plainElem_int Try.underlying3 hc1)
  have c2' := Chg.of_grown g2
  refine ⟨w1, w2, r1, look_m L1 p c hp hc, r2, L1, ⟨(c2'.block gh L1.lt (fun e => hnm.2 e.symm)).trans L1.box, map_chg o1 c2' h.ne, o2, h.ne, h.bh, h.bb⟩, ?_⟩
  exact ⟨c2'.os.trans c1'.os, c2'.tape.trans c1'.tape, c2'.output.trans c1'.output, Nat.le_trans c1'.size c2'.size, fun b hb hn =>
    (c2'.block b (Nat.lt_of_lt_of_le hb c1'.size) (fun e => hn (.inr (.inr e)))).trans (c1'.block b hb (fun e => hn (.inr (.inl e))))⟩
set_option maxHeartbeats 4000000 in
set_option maxRecDepth 100000 in
theorem add_yes (w : World) (B gh bl bm n : Nat) (k : Int) (s : Int × Int) (ms : List Wt) (h : LS w B gh bl bm n k s ms) (i e p : Int) (hm : may e p) (hi : (kv i).wf = true) (hs : LeP.has ms i = false) (hc : canV k ms e p = 0) (hn : n < 1000000) :
    Calls Try.prog 10 #[.pointer (some ⟨gh, 0, none⟩), .int .i64 i, .int .i64 e, .int .i64 p] w fun r w' => r = .returned (.int .i64 0) ∧ LS w' B gh bl bm (n + 1) k (RaK.add s (q e p)) (ms ++ [(i, e, p)]) ∧ Chg w w' (Foot gh bl bm) := by
  have HM : CC 20 #[.int .i64 e, .int .i64 p] (.bool true) := fun w => MayK e p true (decide_eq_true hm) w
  obtain ⟨Dl, Dm, h1, h2⟩ := h.h
  have HLG := Side.mk h1
  have HIX := Side.mk h2
  have HI := Side.mk hi
  have HS := Side.mk hs
  have HCAN : Side (∀ w', Below w.heap.size w w' → Calls Try.prog 9 #[.pointer (some ⟨gh, 0, none⟩), .int .i64 e, .int .i64 p] w' fun r w'' => r = .returned (.int .i64 0) ∧ Below w'.heap.size w' w'') := ⟨fun w' hb => can_at (h.below hb) hc⟩
  have HGD : Side (LeP.Good k (ms ++ [(i, e, p)]) (RaK.add s (q e p))) := ⟨h.g.add hs (Kit.is64 hi) hc⟩
  have hwp : (kv p).wf = true := wf_of (by unfold may at hm; omega) (by unfold may at hm; omega)
  obtain ⟨c, hcn⟩ : ∃ c : Int, c = (cnt ms p : Int) := ⟨_, rfl⟩
  have hcb : (cnt ms p : Int) ≤ n := by
    have e1 := h1.ml.size_le
    rw [h2.sizel] at e1
    have : cnt ms p ≤ ms.length := List.countP_le_length
    omega
  have hw1 : wrap64 (c + 1) = c + 1 := Kit.wr (by omega) (by omega)
  have hwc : (kv (c + 1)).wf = true := wf_of (by omega) (by omega)
  have HIXN : Side (Ix (ms ++ [(i, e, p)]) (Dl.put (kv i) (.agg [li e, li p])) (Dm.put (kv p) (li (c + 1)))) := ⟨Ix.add h2 hs hi hwp _ (by rw [hcn])⟩
  have HCH : Side (∀ w', Lg w' B gh bl bm n k s Dl Dm → _) := ⟨fun w' hl => chain hl hn (i := i) (e := e) (p := p) (c := c) (c1 := c + 1) hi hwp (by rw [hcn]; exact h2.atm p hwp) hwc⟩
  obtain ⟨x, hx⟩ : ∃ x, q e p = x := ⟨_, rfl⟩
  obtain ⟨z, hz⟩ : ∃ z, RaK.add s x = z := ⟨_, rfl⟩
  have hsx : Sm x 1048575 1048575 := by rw [← hx]; exact qsm hm
  have C23 : CC 23 #[.int .i64 e, .int .i64 p] (.agg #[.int .i64 x.1, .int .i64 x.2]) := fun w => FracK hm x hx w
  have C22 : CC 22 #[.agg #[.int .i64 s.1, .int .i64 s.2], .agg #[.int .i64 x.1, .int .i64 x.2]] (.tuple #[.agg #[.int .i64 z.1, .int .i64 z.2], .int .i64 0]) := fun w => AddK h.g.sm hsx z hz w
  rw [hx, hz] at HGD
  rw [hx, hz]
  have HHW := Side.mk hw1
  clear h h1 h2 hm hi hs hc hn hwp hcn hcb hwc hx hz hsx hw1
  obtain ⟨s0, s1⟩ := s
  obtain ⟨z0, z1⟩ := z
  obtain ⟨x0, x1⟩ := x
  go_enter Try.func10, Try.ntmps10
  go_upto_region 3 with (go_at_call 20; (with_reducible refine (HM _).out.mono ?_); rintro e w2 ⟨rfl, hb2⟩)
  have HLG2 := Side.mk (HLG.out.below hb2)
  have HB := Side.mk hb2
  clear hb2
  have HLGW := HLG
  clear HLG
  have hgl := HLG2.out.lt
  have hc1 := HLG2.out.c1
  obtain ⟨a, b, hrun, _⟩ := look_l HLG2.out HIX.out i HI.out
  rw [HS.out] at hrun
  go_upto_region 6 with (fail)
  have HB2 : Side (Below w.heap.size w (w2.alloc (.cells #[.int .i64 a, .int .i64 b] 63))) := ⟨HB.out.alloc HB.out.size _⟩
  generalize w2.alloc (.cells #[.int .i64 a, .int .i64 b] 63) = W2 at *
  have HLG4 : Side (Lg W2 B gh bl bm n k (s0, s1) Dl Dm) := ⟨HLGW.out.below HB2.out⟩
  clear hrun hgl hc1 HLG2 HIX
  go_upto_region 9 with (go_at_call 9; (with_reducible refine (HCAN.out _ HB2.out).mono ?_); rintro e w3 ⟨rfl, hb3⟩)
  have HLG3 := Side.mk (HLG4.out.below hb3)
  have HB3 := Side.mk (below_then HB2.out HB2.out.size hb3)
  clear hb3 HLG4 HB2 HLGW HCAN
  obtain ⟨w4, w5, r1, r2, r3, L4, L5, hch⟩ := HCH.out w3 HLG3.out
  have hw1 := HHW.out
  have hgl := HLG3.out.lt
  have hc1 := HLG3.out.c1
  have hc2 := L4.c2
  have hgl4 := L4.lt
  have HL5 := Side.mk L5
  have HC5 : Side (Chg w w5 (Foot gh bl bm)) := ⟨(Chg.of_below (S := Foot gh bl bm) HB3.out).trans hch (fun _ _ h => h)⟩
  clear L4 L5 hch HCH HLG3 HB3
  go_upto_region 11 with (fail)
  clear r1 r2 r3 hc1 hc2 hgl hgl4 hw1 HHW
  have hc3 := HL5.out.c3
  have hc4 := HL5.out.c4
  have hgl := HL5.out.lt
  have HST : Side (∀ w', Below w5.drew.heap.size w5.drew w' → _ ∧ _ ∧ _) := ⟨fun w' hb => sum_store (HL5.out.below (below_then (below_drew (Below.refl _ w5)) (Nat.le_refl _) hb)) z0 z1⟩
  refine start_ (n := 15) (S := fun w' => True) (ds := []) #[false, false, false, false, false, false, false, false, false, false, false, false, false, false, false] (by kernel_rfl) rfl rfl trivial (fun _ => ?_)
  refine inv_at (B := [0, 0, 2, 6, 14, 0, 0, 96, 254, 510, 1022, 1022, 1, 4097, 14335]) [0, 1, 2, 3, 4, 5, 6, 7, 8, 9, 10, 11, 12, 13, 14] (fun a0_ b a w' => a = putSel a0_ b [(0, 53, .pointer (some ⟨gh, 0, none⟩)), (1, 54, .pointer (some ⟨gh, 0, none⟩)), (2, 55, .pointer (some ⟨gh, 0, none⟩)), (3, 56, .pointer (some ⟨gh, 3, none⟩)), (4, 57, .agg #[.int .i64 s0, .int .i64 s1]), (5, 58, .int .i64 e), (6, 59, .int .i64 p), (7, 60, .agg #[.int .i64 x0, .int .i64 x1]), (8, 61, .tuple #[.agg #[.int .i64 z0, .int .i64 z1], .int .i64 0]), (9, 52, .tuple #[.agg #[.int .i64 z0, .int .i64 z1], .int .i64 0]), (10, 62, .agg #[.int .i64 z0, .int .i64 z1]), (11, 63, .int .i64 0), (12, 64, .pointer (some ⟨gh, 0, none⟩)), (13, 65, .pointer (some ⟨gh, 3, none⟩))] ∧ SB w5.drew (fun w' => ∃ w6, Below w5.drew.heap.size w5.drew w6 ∧ w' = w6.setCells gh 3 [.int .i64 z0, .int .i64 z1]) 14 b w') rfl (by kernel_rfl) (by kernel_rfl) (by kernel_rfl) ?_ ?_ ?_
  · exact ⟨by simp only [putSel, Bool.false_eq_true, if_false], SB.start⟩
  · refine steps_cons (by rintro b a w' ⟨ha, HI⟩ hb hon hoff; refine ⟨_, rfl, fun K hK => ?_⟩; have e0 := poff ha (t := 0) rfl rfl; exact value_ (v := .pointer (some ⟨gh, 0, none⟩)) (by rfl) rfl (by clear HI ha; go_simp) (hK.out _ _ ⟨upk ha 0 hb rfl rfl, HI.low (by decide)⟩)) ?_
    refine steps_cons (by rintro b a w' ⟨ha, HI⟩ hb hon hoff; refine ⟨_, rfl, fun K hK => ?_⟩; have e0 := poff ha (t := 0) rfl rfl; exact value_ (v := .pointer (some ⟨gh, 0, none⟩)) (by rfl) rfl (by clear HI ha; go_simp) (hK.out _ _ ⟨upk ha 1 hb rfl rfl, HI.low (by decide)⟩)) ?_
    refine steps_cons (by rintro b a w' ⟨ha, HI⟩ hb hon hoff; refine ⟨_, rfl, fun K hK => ?_⟩; have e54 := pon ha 1 (hon 1 rfl) rfl rfl rfl; exact value_ (v := .pointer (some ⟨gh, 0, none⟩)) (by rfl) rfl (by clear HI ha; go_simp) (hK.out _ _ ⟨upk ha 2 hb rfl rfl, HI.low (by decide)⟩)) ?_
    refine steps_cons (by rintro b a w' ⟨ha, HI⟩ hb hon hoff; refine ⟨_, rfl, fun K hK => ?_⟩; have e55 := pon ha 2 (hon 2 rfl) rfl rfl rfl; exact value_ (v := .pointer (some ⟨gh, 3, none⟩)) (by rfl) rfl (by clear HI ha; go_simp) (hK.out _ _ ⟨upk ha 3 hb rfl rfl, HI.low (by decide)⟩)) ?_
    refine steps_cons (by rintro b a w' ⟨ha, HI⟩ hb hon hoff; refine ⟨_, rfl, fun K hK => ?_⟩; have e56 := pon ha 3 (hon 3 rfl) rfl rfl rfl; have k0_ := bc (HI.n (hoff 14 rfl)) hgl hc3; have k1_ := bc (HI.n (hoff 14 rfl)) hgl hc4; have kz_ := bz (HI.n (hoff 14 rfl)) hgl; exact value_ (v := .agg #[.int .i64 s0, .int .i64 s1]) (by rfl) rfl (by clear HI ha; go_simp) (hK.out _ _ ⟨upk ha 4 hb rfl rfl, HI.low (by decide)⟩)) ?_
    refine steps_cons (by rintro b a w' ⟨ha, HI⟩ hb hon hoff; refine ⟨_, rfl, fun K hK => ?_⟩; have e2 := poff ha (t := 2) rfl rfl; exact value_ (v := .int .i64 e) (by rfl) rfl (by clear HI ha; go_simp) (hK.out _ _ ⟨upk ha 5 hb rfl rfl, HI.low (by decide)⟩)) ?_
    refine steps_cons (by rintro b a w' ⟨ha, HI⟩ hb hon hoff; refine ⟨_, rfl, fun K hK => ?_⟩; have e3 := poff ha (t := 3) rfl rfl; exact value_ (v := .int .i64 p) (by rfl) rfl (by clear HI ha; go_simp) (hK.out _ _ ⟨upk ha 6 hb rfl rfl, HI.low (by decide)⟩)) ?_
    refine steps_cons (by rintro b a w' ⟨ha, HI⟩ hb hon hoff; refine ⟨_, rfl, fun K hK => ?_⟩; have e58 := pon ha 5 (hon 5 rfl) rfl rfl rfl; have e59 := pon ha 6 (hon 6 rfl) rfl rfl rfl; refine goes_ Try.func23 (by kernel_rfl) rfl #[.int .i64 e, .int .i64 p] (by rfl) rfl rfl (by simp [Act.eval, e58, e59]) ((C23 _).out.mono ?_); rintro e_ w'' ⟨rfl, hbc⟩; exact ⟨_, rfl, hK.out _ _ ⟨upk ha 7 hb rfl rfl, HI.call (hoff 14 rfl) hbc (by decide)⟩⟩) ?_
    refine steps_cons (by rintro b a w' ⟨ha, HI⟩ hb hon hoff; refine ⟨_, rfl, fun K hK => ?_⟩; have e57 := pon ha 4 (hon 4 rfl) rfl rfl rfl; have e60 := pon ha 7 (hon 7 rfl) rfl rfl rfl; refine goes_ Try.func22 (by kernel_rfl) rfl #[.agg #[.int .i64 s0, .int .i64 s1], .agg #[.int .i64 x0, .int .i64 x1]] (by rfl) rfl rfl (by simp [Act.eval, e57, e60]) ((C22 _).out.mono ?_); rintro e_ w'' ⟨rfl, hbc⟩; exact ⟨_, rfl, hK.out _ _ ⟨upk ha 8 hb rfl rfl, HI.call (hoff 14 rfl) hbc (by decide)⟩⟩) ?_
    refine steps_cons (by rintro b a w' ⟨ha, HI⟩ hb hon hoff; refine ⟨_, rfl, fun K hK => ?_⟩; have e61 := pon ha 8 (hon 8 rfl) rfl rfl rfl; exact value_ (v := .tuple #[.agg #[.int .i64 z0, .int .i64 z1], .int .i64 0]) (by rfl) rfl (by clear HI ha; go_simp) (hK.out _ _ ⟨upk ha 9 hb rfl rfl, HI.low (by decide)⟩)) ?_
    refine steps_cons (by rintro b a w' ⟨ha, HI⟩ hb hon hoff; refine ⟨_, rfl, fun K hK => ?_⟩; have e52 := pon ha 9 (hon 9 rfl) rfl rfl rfl; exact value_ (v := .agg #[.int .i64 z0, .int .i64 z1]) (by rfl) rfl (by clear HI ha; go_simp) (hK.out _ _ ⟨upk ha 10 hb rfl rfl, HI.low (by decide)⟩)) ?_
    refine steps_cons (by rintro b a w' ⟨ha, HI⟩ hb hon hoff; refine ⟨_, rfl, fun K hK => ?_⟩; have e52 := pon ha 9 (hon 9 rfl) rfl rfl rfl; exact value_ (v := .int .i64 0) (by rfl) rfl (by clear HI ha; go_simp) (hK.out _ _ ⟨upk ha 11 hb rfl rfl, HI.low (by decide)⟩)) ?_
    refine steps_cons (by rintro b a w' ⟨ha, HI⟩ hb hon hoff; refine ⟨_, rfl, fun K hK => ?_⟩; have e53 := pon ha 0 (hon 0 rfl) rfl rfl rfl; exact value_ (v := .pointer (some ⟨gh, 0, none⟩)) (by rfl) rfl (by clear HI ha; go_simp) (hK.out _ _ ⟨upk ha 12 hb rfl rfl, HI.low (by decide)⟩)) ?_
    refine steps_cons (by rintro b a w' ⟨ha, HI⟩ hb hon hoff; refine ⟨_, rfl, fun K hK => ?_⟩; have e64 := pon ha 12 (hon 12 rfl) rfl rfl rfl; exact value_ (v := .pointer (some ⟨gh, 3, none⟩)) (by rfl) rfl (by clear HI ha; go_simp) (hK.out _ _ ⟨upk ha 13 hb rfl rfl, HI.low (by decide)⟩)) ?_
    refine steps_cons (by rintro b a w' ⟨ha, HI⟩ hb hon hoff; refine ⟨_, rfl, fun K hK => ?_⟩; have e65 := pon ha 13 (hon 13 rfl) rfl rfl rfl; have e62 := pon ha 10 (hon 10 rfl) rfl rfl rfl; have hbl := HI.n hb; exact skip_ (by rfl) rfl (by unfold execOp; simp [Act.eval, e65, e62, (HST.out _ hbl).1]) (hK.out _ _ ⟨ups ha rfl, SB.set ⟨_, hbl, rfl⟩⟩)) ?_
    exact steps_nil
  · rintro b a w' hall ⟨ha, HI⟩
    have hb0_ := hall 0 rfl; have hb1_ := hall 1 rfl; have hb2_ := hall 2 rfl; have hb3_ := hall 3 rfl; have hb4_ := hall 4 rfl; have hb5_ := hall 5 rfl; have hb6_ := hall 6 rfl; have hb7_ := hall 7 rfl
    have hb8_ := hall 8 rfl; have hb9_ := hall 9 rfl; have hb10_ := hall 10 rfl; have hb11_ := hall 11 rfl; have hb12_ := hall 12 rfl; have hb13_ := hall 13 rfl; have hb14_ := hall 14 rfl
    subst ha
    simp only [putSel, hb0_, hb1_, hb2_, hb3_, hb4_, hb5_, hb6_, hb7_, hb8_, hb9_, hb10_, hb11_, hb12_, hb13_, if_true, Act.put, List.setIfInBounds_toArray, List.set_cons_zero, List.set_cons_succ]
    obtain ⟨w6, hb6, rfl⟩ := HI.y hb14_
    clear hall HI hb0_ hb1_ hb2_ hb3_ hb4_ hb5_ hb6_ hb7_ hb8_ hb9_ hb10_ hb11_ hb12_ hb13_ hb14_
    refine ‹∀ (a : Act) (w : World), Code.wp Try.prog _ _ a w → _› _ _ ?_
    go_wp2
    go_ret
    have h6 := (HST.out w6 hb6).2
    refine ⟨rfl, ⟨HGD.out, _, _, h6.1, HIXN.out⟩, ?_⟩
    have hb6' := below_then (below_drew (Below.refl _ w5)) (Nat.le_refl _) hb6
    exact HC5.out.trans ((Chg.of_below (S := Foot gh bl bm) hb6').trans h6.2 (fun _ _ h => h)) (fun _ _ h => h)
end Go.Proofs.Ytfgmenndmcjggaa.LeF

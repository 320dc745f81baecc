/- Package calendar: slices.Insert of one item. No condition. -/
import Derived.Test.YtbppjaglgbhckaaCaJ
import Derived.Shelf.Spec.SlicesInsert
set_option linter.unusedVariables false
set_option linter.unusedSimpArgs false
namespace Go.Proofs.Ytbppjaglgbhckaa.CaK
open Go.RowKit Go.Shelf Go.Lib Go.Proofs.Ytbppjaglgbhckaa.Kit Go.Proofs.Ytbppjaglgbhckaa.CaA Go.Proofs.Ytbppjaglgbhckaa.CaB Go.Proofs.Ytbppjaglgbhckaa.CaC Go.Proofs.Ytbppjaglgbhckaa.CaD Go.Proofs.Ytbppjaglgbhckaa.CaF Go.Proofs.Ytbppjaglgbhckaa.CaJ
open Go.Proofs.YtbppjaglgbhckaaW.PrintWords (setCells_row setCells_far setCells_same)
def ins (xs : List It) (i : Nat) (x : It) : List It := xs.take i ++ x :: xs.drop i
theorem ins_end (xs : List It) (x : It) : ins xs xs.length x = xs ++ [x] := by unfold ins; simp
/-- What slices.Insert leaves. -/
structure Ins (w : World) (B : Nat) (v : Value) (xs : List It) (i : Nat) (x : It) (v' : Value) (w' : World) : Prop where
  row : Row w' B 44 v' (ins xs i x)
  chg : Chg w w' (fun k => some k = v.ownBlock)
  own : v'.ownBlock = v.ownBlock ∨ ∀ k, v'.ownBlock = some k → w.heap.size ≤ k
theorem cells1 {w : World} {gx : Nat} {x : It} {t : TypeId} (h : w.heap[gx]? = some (.cells #[.int .i64 x.1, .int .i64 x.2] t (0, 0))) : ∀ (j : Nat) (y : It), [x][j]? = some y → w.cell? ((⟨gx, 0, none⟩ : Addr).add (j * 2)) = some (.int .i64 y.1) ∧ w.cell? ((⟨gx, 0, none⟩ : Addr).add (j * 2 + 1)) = some (.int .i64 y.2) := by
  intro j y hy
  rcases j with _ | j
  · simp at hy
    subst hy
    rw [add0, add0, cell_of_row w gx _ _ _ (0, 0) h, cell_of_row w gx _ _ _ (0, 0) h]
    exact ⟨rfl, rfl⟩
  · simp at hy
set_option maxHeartbeats 4000000 in
set_option maxRecDepth 100000 in
theorem end_at (w : World) (B : Nat) (v : Value) (xs : List It) (x : It) (gx : Nat) (h : Row w B 44 v xs) (hl : xs.length ≤ 1000) (hx : w.heap[gx]? = some (.cells #[.int .i64 x.1, .int .i64 x.2] 44 (0, 0))) (hB : B ≤ w.heap.size) :
    Calls Try.prog 16 #[v, .int .i64 xs.length, .slice (some ⟨gx, 0, none⟩) 1 1] w fun r w' => ∃ v', r = .returned v' ∧ Ins w B v xs xs.length x v' w' := by
  have H := Side.mk h
  have HX := Side.mk hx
  have HB := Side.mk hB
  have hl1 : (xs.length : Int) ≤ 1000 := by omega
  have hl2 : ¬ ((xs.length : Int) < 0) := by omega
  obtain ⟨a0, c0, rfl, hc⟩ : ∃ a c, v = .slice a xs.length c ∧ xs.length ≤ c := by
    rcases h.read with ⟨rfl, rfl⟩ | ⟨g, cap, rfl, _, _, hn, _⟩
    · exact ⟨none, 0, rfl, Nat.le_refl _⟩
    · exact ⟨_, cap, rfl, hn⟩
  have hc0 : (xs.length : Int) ≤ c0 := by omega
  clear h hx hB hc
  by_cases hcp : c0 = xs.length
  · subst hcp
    go_enter Try.func16, Try.ntmps16
    go_wp2_with (at_builtin; refine wpList_app rfl _ _ rfl B _ xs rfl ?c1 ⟨gx, 0, none⟩ 1 [x] rfl ?c2 ?c3 ?c4 ?c5)
    case c1 => exact H.out
    case c2 => intro j y1 y2 hy; have := cells1 HX.out j (y1, y2) hy; rw [add0, add0] at this; exact this
    case c3 => first | omega | (simp; omega)
    case c4 => exact HB.out
    case c5 =>
      intro v' w' h1 h2 h3 h4
      have R : Side (Ins w B (.slice a0 xs.length xs.length) xs xs.length x v' w') := ⟨⟨by rw [ins_end]; exact h1, Chg.of_grown h2, by
        rcases h4 with h | h
        · exact .inl h
        · exact .inr (fun k hk => by rw [h] at hk; cases hk; exact Nat.le_refl _)⟩⟩
      clear h1 h2 h3 h4 H HX HB
      obtain ⟨a1, n1, c1, rfl⟩ : ∃ a n c, v' = .slice a n c := by
        rcases R.out.row.read with ⟨rfl, _⟩ | ⟨g, cap, rfl, _⟩
        · exact ⟨none, 0, 0, rfl⟩
        · exact ⟨_, _, cap, rfl⟩
      go_wp2
      go_ret
      exact ⟨_, rfl, R.out⟩

  · have hcp' : ¬ ((c0 : Int) = xs.length) := by omega
    go_enter Try.func16, Try.ntmps16
    go_wp2_with (at_builtin; refine wpList_app rfl _ _ rfl B _ xs rfl ?c1 ⟨gx, 0, none⟩ 1 [x] rfl ?c2 ?c3 ?c4 ?c5)
    case c1 => exact H.out
    case c2 => intro j y1 y2 hy; have := cells1 HX.out j (y1, y2) hy; rw [add0, add0] at this; exact this
    case c3 => first | omega | (simp; omega)
    case c4 => exact HB.out
    case c5 =>
      intro v' w' h1 h2 h3 h4
      have R : Side (Ins w B (.slice a0 xs.length c0) xs xs.length x v' w') := ⟨⟨by rw [ins_end]; exact h1, Chg.of_grown h2, by
        rcases h4 with h | h
        · exact .inl h
        · exact .inr (fun k hk => by rw [h] at hk; cases hk; exact Nat.le_refl _)⟩⟩
      clear h1 h2 h3 h4 H HX HB
      obtain ⟨a1, n1, c1, rfl⟩ : ∃ a n c, v' = .slice a n c := by
        rcases R.out.row.read with ⟨rfl, _⟩ | ⟨g, cap, rfl, _⟩
        · exact ⟨none, 0, 0, rfl⟩
        · exact ⟨_, _, cap, rfl⟩
      go_wp2
      go_ret
      exact ⟨_, rfl, R.out⟩
theorem Row.same {w w' : World} {B : Nat} {t : TypeId} {v : Value} {xs : List It} (h : Row w B t v xs) (e : w'.heap = w.heap) : Row w' B t v xs := Row.move h (fun k _ => by rw [e])
theorem list_grow (xs : List It) (i : Nat) (x : It) (hi : i < xs.length) :
    (((xs.take i ++ List.replicate (xs.length + 1 - i) (0, 0)).take i ++ [x] ++ (xs.take i ++ List.replicate (xs.length + 1 - i) (0, 0)).drop (i + 1)).take (i + 1) ++ xs.drop i ++
      ((xs.take i ++ List.replicate (xs.length + 1 - i) (0, 0)).take i ++ [x] ++ (xs.take i ++ List.replicate (xs.length + 1 - i) ((0, 0) : It)).drop (i + 1)).drop (i + 1 + (xs.drop i).length)) = ins xs i x := by
  have hzl : (List.replicate (xs.length + 1 - i) ((0, 0) : It)).length = xs.length + 1 - i := List.length_replicate
  generalize List.replicate (xs.length + 1 - i) ((0, 0) : It) = z at *
  have h0 : (xs.take i).length = i := by rw [List.length_take]; omega
  have h1 : (xs.take i ++ z).take i = xs.take i := List.take_left' h0
  have h2 : (xs.take i ++ [x]).length = i + 1 := by simp; omega
  rw [h1]
  have h3 : (xs.take i ++ [x] ++ (xs.take i ++ z).drop (i + 1)).take (i + 1) = xs.take i ++ [x] := List.take_left' h2
  have h4 : (xs.take i ++ [x] ++ (xs.take i ++ z).drop (i + 1)).drop (i + 1 + (xs.drop i).length) = [] := by
    apply List.drop_eq_nil_of_le
    simp only [List.length_append, List.length_drop, h0, hzl, List.length_cons, List.length_nil]
    omega
  rw [h3, h4, List.append_nil]
  unfold ins
  simp
set_option maxHeartbeats 4000000 in
set_option maxRecDepth 100000 in
theorem grow_at (w : World) (B g n cap : Nat) (xs : List It) (hxl : xs.length = n) (i : Nat) (x : It) (gx : Nat) (h : Row w B 44 (.slice (some ⟨g, 0, none⟩) n cap) xs) (hl : n ≤ 1000) (hi : i < n) (hc : cap < n + 1) (hx : w.heap[gx]? = some (.cells #[.int .i64 x.1, .int .i64 x.2] 44 (0, 0))) (hB : B ≤ w.heap.size) :
    Calls Try.prog 16 #[.slice (some ⟨g, 0, none⟩) n cap, .int .i64 i, .slice (some ⟨gx, 0, none⟩) 1 1] w fun r w' => ∃ v', r = .returned v' ∧ Ins w B (.slice (some ⟨g, 0, none⟩) n cap) xs i x v' w' := by
  have H := Side.mk h
  have HX := Side.mk hx
  have HB := Side.mk hB
  obtain ⟨-, hn, hBg, hgl, -, cur, hg, hcs, hrd⟩ := info_row h
  obtain rfl : cap = n := by omega
  obtain ⟨k, hk⟩ : ∃ k, k = cap + 1 - i := ⟨_, rfl⟩
  have RZ := fun ty => run_zeros ty h i (by omega) k (by omega) (by omega) (by omega) hB
  rw [show i + k = cap + 1 by omega] at RZ
  have hl1 : (cap : Int) ≤ 1000 := by omega
  have hi1 : (i : Int) < cap := by omega
  have hi0 : (0 : Int) ≤ i := by omega
  have hi2 : ¬ ((i : Int) = cap) := by omega
  have hi3 : (i : Int) ≤ cap := by omega
  have hi4 : ¬ (cap = i) := by omega
  have hkk : (cap : Int) + 1 - i = (k : Int) := by omega
  have HRD := Side.mk hrd
  have HGL := Side.mk hgl
  have HRZ := Side.mk RZ
  have HXL := Side.mk hxl
  clear h hx hB hrd hcs hg RZ hgl hBg hn hc hi hxl
  go_enter Try.func16, Try.ntmps16
  obtain ⟨G, hG, w1, hz, RZ, BZ, hZl⟩ := HRZ.out 40
  have hG1 : (cap : Int) + 1 ≤ G := by omega
  have hG2 : ¬ (G = i) := by omega
  have hG3 : ¬ (G = i + 1) := by omega
  have hi5 : (i : Int) ≤ (cap : Int) + 1 := by omega
  have hi6 : (i : Int) + 1 ≤ (cap : Int) + 1 := by omega
  have HZ := Side.mk hz
  have hgx : gx < w.heap.size := (Array.getElem?_eq_some_iff.1 HX.out).1
  have hgs : g < w.heap.size := HGL.out
  obtain ⟨-, -, -, -, -, c1, hc1, hs1, -⟩ := info_row RZ
  have C1 : ∀ ty dc, (Builtin.copy_ #[40, 40] ty #[.slice (some ⟨w.heap.size, i * 2, none⟩) (cap + 1 - i) dc, .slice (some ⟨gx, 0, none⟩) 1 1]).run Try.prog w1 = .ok (goInt 1) (w1.setCells w.heap.size (i * 2) (flat [x])) := fun ty dc =>
    run_copy_it w1 ty w.heap.size (i * 2) (cap + 1 - i) dc ⟨gx, 0, none⟩ 1 1 [x] c1 _ hc1 (by simp only [Nat.min_def, List.length_cons, List.length_nil]; split <;> omega) (by simp only [List.length_cons, List.length_nil]; omega) (cells1 ((BZ.block gx hgx).trans HX.out))
  have R2 := Row.splice RZ i [x] (by have := HXL.out; simp only [List.length_cons, List.length_nil, List.length_append, List.length_take, List.length_replicate]; omega)
  have X2 := chg_set w1 w.heap.size (i * 2) (flat [x])
  obtain ⟨w2, hw2⟩ : ∃ w2, w2 = w1.setCells w.heap.size (i * 2) (flat [x]) := ⟨_, rfl⟩
  rw [← hw2] at C1 R2 X2
  have HC1 := Side.mk C1
  obtain ⟨-, -, -, -, -, c2, hc2, hs2, -⟩ := info_row R2
  have hb2 : w2.heap[g]? = w.heap[g]? := (X2.block g (by omega) (by omega)).trans (BZ.block g hgs)
  have RG := Row.move (w' := w2) H.out (fun k hk => by simp [Value.ownBlock] at hk; rw [← hk]; exact hb2)
  have hdl : (xs.drop i).length = cap - i := by rw [List.length_drop]; have := HXL.out; omega
  have C2 : ∀ W : World, W.heap = w2.heap → ∀ ty dc sc, (Builtin.copy_ #[40, 40] ty #[.slice (some ⟨w.heap.size, (i + 1) * 2, none⟩) (cap - i) dc, .slice (some ⟨g, i * 2, none⟩) (cap - i) sc]).run Try.prog W = .ok (goInt (xs.drop i).length) (W.setCells w.heap.size ((i + 1) * 2) (flat (xs.drop i))) := fun W hW ty dc sc =>
    run_copy_it W ty w.heap.size ((i + 1) * 2) (cap - i) dc ⟨g, i * 2, none⟩ (cap - i) sc (xs.drop i) c2 _ (by rw [hW]; exact hc2) (by rw [hdl]; simp only [Nat.min_def]; split <;> omega) (by rw [hdl]; omega) (fun j y hy => by
      rw [List.getElem?_drop] at hy
      have := (info_row (Row.same RG hW)).2.2.2.2.2
      obtain ⟨_, _, _, hr⟩ := this
      have h3 := hr (i + j) y hy
      rw [Nat.add_mul] at h3
      rw [Addr.add_lit, Addr.add_lit]
      simpa [Nat.add_assoc] using h3)
  have HC2 := Side.mk C2
  have HFIN : Side (∀ W : World, W.heap = w2.heap → W.os = w2.os → W.tape = w2.tape → W.output = w2.output → Ins w B (.slice (some ⟨g, 0, none⟩) cap cap) xs i x (.slice (some ⟨w.heap.size, 0, none⟩) (cap + 1) G) (W.setCells w.heap.size ((i + 1) * 2) (flat (xs.drop i)))) := ⟨fun W e1 e2 e3 e4 => by
    have R3 := Row.splice (Row.same R2 e1) (i + 1) (xs.drop i) (by rw [hdl]; simp only [List.length_cons, List.length_nil, List.length_append, List.length_take, List.length_replicate, List.length_drop]; have := HXL.out; omega)
    have hk' : k = xs.length + 1 - i := by have := HXL.out; omega
    rw [show i + [x].length = i + 1 from rfl, hk', list_grow xs i x (by have := HXL.out; omega)] at R3
    refine ⟨R3, ?_, .inr (fun k hk => by simp [Value.ownBlock] at hk; omega)⟩
    have X0 : Chg w w1 (fun k => some k = (Value.slice (some ⟨g, 0, none⟩) cap cap).ownBlock) := Chg.of_below BZ
    have X1 : Chg w w2 (fun k => some k = (Value.slice (some ⟨g, 0, none⟩) cap cap).ownBlock) := X0.trans X2 (fun k hk he => by omega)
    have X3 : Chg w W (fun k => some k = (Value.slice (some ⟨g, 0, none⟩) cap cap).ownBlock) := ⟨e2.trans X1.os, e3.trans X1.tape, e4.trans X1.output, by rw [e1]; exact X1.size, fun k h1 h2 => by rw [e1]; exact X1.block k h1 h2⟩
    exact X3.trans (chg_set W w.heap.size ((i + 1) * 2) (flat (xs.drop i))) (fun k hk he => by omega)⟩
  clear hz RZ BZ hZl HRZ hG hk C1 R2 X2 hw2 RG C2 hb2 hdl hc1 hs1 hc2 hs2 H HX HB HXL HRD HGL hgx hgs
  go_upto_region 9 with (fail)
  go_wp2_with (first | (at_builtin; refine wpList_run rfl _ _ (exec_grow rfl rfl rfl HZ.out) ?_) | refine wpList_run rfl _ _ (exec_copy rfl rfl rfl (HC1.out _ _)) ?_)
  have mixed : Try.prog.follows Departure.mixedOrders = true := by kernel_rfl
  have hw1 : IntKind.i64.wrap ((i : Int) + 1) = (i : Int) + 1 := by rw [IntKind.wrap_i64]; omega
  have hb1 : (0 : Int) ≤ (i : Int) + 1 := by omega
  have htn : ((i : Int) + 1).toNat = i + 1 := by omega
  have HC3 := HC2.out w2.drew rfl
  go_region_law_o (refine step_copy_runI rfl _ _ 40 40 rfl _ _ (by simp [Act.eval, Act.put]) (by simp [Act.eval, Act.put]) (HC3 _ _ _) ?_)
  go_wp2
  go_ret
  exact ⟨_, rfl, HFIN.out _ rfl rfl rfl rfl⟩
end Go.Proofs.Ytbppjaglgbhckaa.CaK

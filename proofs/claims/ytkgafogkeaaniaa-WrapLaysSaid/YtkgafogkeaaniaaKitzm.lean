/- Words of my own for walks by hand: arguments that are arrays or structs of whole numbers opened; a frame that names the blocks that may turn. No program in sight. -/
import Derived.WalkKit
import Derived.ProofKit
import Derived.OpenShut
import Derived.ChangeOld
import Derived.Below
import Derived.SizedLaws
import Derived.Lib.SmallJoins
import Derived.Deep.Draws
namespace Go.Proofs.Ytkgafogkeaaniaa.Kit
open Go.ChangeShapes Go.WideShapes Go.ChangeAt Go.RowKit Go.Joins
section
variable {H : Type} {enc : TypeId × Value → H} {P : Program} {w : World} {base : Nat} {spare : Nat → Bool} {held : Bool}
theorem int_cell {t : TypeId} {k : IntKind} {n : Nat} {v : Value} {y : DataW H × List MemPlace} (ht : P.underlying t = some (.int k)) (h : DataW.trod enc P w base spare held n t [v] = some y) :
    ∃ x : Int, v = .int k x ∧ (Lit.int k x).wf = true := by
  obtain ⟨x, e, _, hw⟩ := DataW.trod_int ht h
  simp at e
  exact ⟨x, e, hw⟩
/-- An array of whole numbers, by value. -/
theorem open_arr {r : Reach} {b0 : Nat} {t e : TypeId} {m : Nat} {k : IntKind} {v : Value} {d : DataW H} {p : List MemPlace} (ht : P.underlying t = some (.array m e)) (he : P.underlying e = some (.int k)) (hc : P.cellsOf e = 1) (hC : P.cellsOf t = m)
    (hv : Value.okWide P w r b0 t v) (h : DataW.Trod enc P w base spare held t v d p) :
    ∃ xs : List Int, v = .agg (xs.map (Value.int k)).toArray ∧ xs.length = m ∧ ∀ x ∈ xs, (Lit.int k x).wf = true := by
  obtain ⟨cs, rfl, hsz, _⟩ : ∃ cs, v = .agg cs ∧ cs.size = P.cellsOf t ∧ Row.okWide P w r b0 t cs := by
    simpa [Value.okWide, ht] using hv
  obtain ⟨l⟩ := cs
  obtain ⟨fuel, hf⟩ := h
  obtain ⟨ys, m', _, _, _, hl, hel⟩ := DataW.trod_array ht hf
  rw [hC] at hsz
  have hsz' : l.length = m := by simpa using hsz
  have hat : ∀ i, (hi : i < m) → ∃ x : Int, l[i]'(by omega) = .int k x ∧ (Lit.int k x).wf = true := by
    intro i hi
    have h1 := hel i hi
    rw [hc, Nat.mul_one] at h1
    have h2 : ((Value.agg ⟨l⟩).cells.toList.drop i).take 1 = [l[i]'(by omega)] := by
      have : (Value.agg ⟨l⟩).cells.toList = l := rfl
      rw [this, List.drop_eq_getElem_cons (by omega)]; rfl
    rw [h2, List.getElem?_eq_getElem (by omega)] at h1
    exact int_cell he h1
  refine ⟨l.map fun v => match v with | .int _ x => x | _ => 0, ?_, by simpa using hsz', ?_⟩
  · congr 1
    apply Array.ext'
    simp only [List.map_map]
    symm
    calc List.map _ l = List.map id l := List.map_congr_left fun v hv => by
          obtain ⟨i, hi, rfl⟩ := List.getElem_of_mem hv
          obtain ⟨x, hx, _⟩ := hat i (by omega)
          simp [hx]
      _ = l := List.map_id l
  · intro x hx
    obtain ⟨v, hv, rfl⟩ := List.mem_map.1 hx
    obtain ⟨i, hi, rfl⟩ := List.getElem_of_mem hv
    obtain ⟨x, hx, hw⟩ := hat i (by omega)
    simpa [hx] using hw
end
/-- A fact that the walk's simp doesn't look into. -/
structure Side (p : Prop) : Prop where mk :: (out : p)
/-- Nothing but orders was drawn. -/
def Still (w w' : World) : Prop := ∃ n, w' = w.drewN n
theorem Still.refl (w : World) : Still w w := ⟨0, rfl⟩
theorem below_drewN {B : Nat} {a w : World} (h : Below B a w) (n : Nat) : Below B a (w.drewN n) := ⟨h.os, h.tape, h.output, h.size, h.block⟩
theorem below_drew {B : Nat} {a w : World} (h : Below B a w) : Below B a w.drew := h.drew
theorem below_alloc {w W : World} (h : Below w.heap.size w W) (o : Obj) : Below w.heap.size w (W.alloc o) := h.alloc h.size o
theorem below_then {B : Nat} {w w1 w2 : World} (h : Below B w w1) (hB : B ≤ w1.heap.size) (k : Below w1.heap.size w1 w2) : Below B w w2 := h.trans (k.mono hB)
theorem Still.below {w w' : World} (h : Still w w') : Below w.heap.size w w' := by
  obtain ⟨n, rfl⟩ := h; exact below_drewN (Below.refl _ _) n
theorem bcell {W w1 : World} (hb : Below W.heap.size W w1) : (∀ b o, b < W.heap.size → w1.cell? ⟨b, o, none⟩ = W.cell? ⟨b, o, none⟩) ∧ (∀ b o, b < W.heap.size → w1.frozen? ⟨b, o, none⟩ = W.frozen? ⟨b, o, none⟩) :=
  ⟨fun b o h => hb.cell (p := ⟨b, o, none⟩) h, fun b o h => hb.frozen (p := ⟨b, o, none⟩) h⟩
theorem wr {x : Int} (h1 : -9223372036854775808 ≤ x) (h2 : x < 9223372036854775808) : wrap64 x = x := by unfold wrap64; omega
theorem blk_set {w : World} {g : Nat} {t : TypeId} {cs : Array Value} (h : w.heap[g]? = some (.cells cs t (0, 0))) (i : Nat) (u : Value) : (w.setCell ⟨g, i, none⟩ u).heap[g]? = some (.cells (cs.setIfInBounds i u) t (0, 0)) := by
  simp [World.setCell, Array.getElem?_modify, h]
theorem blk_far {w : World} {g : Nat} (p : Addr) (hp : g ≠ p.block) (u : Value) : (w.setCell p u).heap[g]? = w.heap[g]? := Below.heap_setCell w p u g hp
theorem list2 {α : Type} {l : List α} (h : l.length = 2) : ∃ a b, l = [a, b] := by
  match l, h with
  | [a, b], _ => exact ⟨a, b, rfl⟩
end Go.Proofs.Ytkgafogkeaaniaa.Kit

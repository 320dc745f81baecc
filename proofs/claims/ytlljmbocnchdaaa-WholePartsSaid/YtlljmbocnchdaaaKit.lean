/- Words of my own for walks by hand: arguments that are arrays or structs of whole numbers opened; a frame that names the blocks that may turn. No program in sight. -/
import Derived.WalkKit
import Derived.ProofKit
import Derived.OpenShut
import Derived.ChangeOld
import Derived.Below
import Derived.SizedLaws
import Derived.Lib.SmallJoins
import Derived.Deep.Draws
namespace Go.Proofs.Ytlljmbocnchdaaa.Kit
open Go.ChangeShapes Go.WideShapes Go.ChangeAt Go.RowKit Go.Joins
section
variable {H : Type} {enc : TypeId × Value → H} {P : Program} {w : World} {base : Nat} {spare : Nat → Bool} {held : Bool}
theorem int_cell {t : TypeId} {k : IntKind} {n : Nat} {v : Value} {y : DataW H × List MemPlace} (ht : P.underlying t = some (.int k)) (h : DataW.trod enc P w base spare held n t [v] = some y) :
    ∃ x : Int, v = .int k x ∧ (Lit.int k x).wf = true := by
  obtain ⟨x, e, _, hw⟩ := DataW.trod_int ht h
  simp at e
  exact ⟨x, e, hw⟩
/-- An array of whole numbers, by value. -/
theorem open_arr {r : Reach} {b0 : Nat} {t e : TypeId} {m : Nat} {k : IntKind} {v : Value} {d : DataW H} {p : List MemPlace} (ht : P.underlying t = some (.array m e)) (he : P.underlying e = some (.int k)) (hc : P.cellsOf e = 1) (hC : P.cellsOf t = m)
    (hv : Value.okWide P w r b0 t v) (h : DataW.Trod enc P w base spare held t v d p) :
    ∃ xs : List Int, v = .agg (xs.map (Value.int k)).toArray ∧ xs.length = m ∧ ∀ x ∈ xs, (Lit.int k x).wf = true := by
  obtain ⟨cs, rfl, hsz, _⟩ : ∃ cs, v = .agg cs ∧ cs.size = P.cellsOf t ∧ Row.okWide P w r b0 t cs := by
    simpa [Value.okWide, ht] using hv
  obtain ⟨l⟩ := cs
  obtain ⟨fuel, hf⟩ := h
  obtain ⟨ys, m', _, _, _, hl, hel⟩ := DataW.trod_array ht hf
  rw [hC] at hsz
  have hsz' : l.length = m := by simpa using hsz
  have hat : ∀ i, (hi : i < m) → ∃ x : Int, l[i]'(by omega) = .int k x ∧ (Lit.int k x).wf = true := by
    intro i hi
    have h1 := hel i hi
    rw [hc, Nat.mul_one] at h1
    have h2 : ((Value.agg ⟨l⟩).cells.toList.drop i).take 1 = [l[i]'(by omega)] := by
      have : (Value.agg ⟨l⟩).cells.toList = l := rfl
      rw [this, List.drop_eq_getElem_cons (by omega)]; rfl
    rw [h2, List.getElem?_eq_getElem (by omega)] at h1
    exact int_cell he h1
  refine ⟨l.map fun v => match v with | .int _ x => x | _ => 0, ?_, by simpa using hsz', ?_⟩
  · congr 1
    apply Array.ext'
    simp only [List.map_map]
    symm
    calc List.map _ l = List.map id l := List.map_congr_left fun v hv => by
          obtain ⟨i, hi, rfl⟩ := List.getElem_of_mem hv
          obtain ⟨x, hx, _⟩ := hat i (by omega)
          simp [hx]
      _ = l := List.map_id l
  · intro x hx
    obtain ⟨v, hv, rfl⟩ := List.mem_map.1 hx
    obtain ⟨i, hi, rfl⟩ := List.getElem_of_mem hv
    obtain ⟨x, hx, hw⟩ := hat i (by omega)
    simpa [hx] using hw
end
theorem list2 {α : Type} {l : List α} (h : l.length = 2) : ∃ a b, l = [a, b] := by
  match l, h with
  | [a, b], _ => exact ⟨a, b, rfl⟩
theorem list5 {α : Type} {l : List α} (h : l.length = 5) : ∃ a b c d e, l = [a, b, c, d, e] := by
  match l, h with
  | [a, b, c, d, e], _ => exact ⟨a, b, c, d, e, rfl⟩
end Go.Proofs.Ytlljmbocnchdaaa.Kit

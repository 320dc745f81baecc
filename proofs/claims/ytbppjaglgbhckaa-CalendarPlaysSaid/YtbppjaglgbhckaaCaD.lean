/- Package calendar, fourth text: the queue's state; List, Put. No condition. -/
import Derived.Test.YtbppjaglgbhckaaCaC
set_option linter.unusedVariables false
set_option linter.unusedSimpArgs false
namespace Go.Proofs.Ytbppjaglgbhckaa.CaD
open Go.RowKit Go.Proofs.Ytbppjaglgbhckaa.Kit Go.Proofs.Ytbppjaglgbhckaa.CaA Go.Proofs.Ytbppjaglgbhckaa.CaB Go.Proofs.Ytbppjaglgbhckaa.CaC
open Go.Proofs.YtbppjaglgbhckaaW.PrintLast
/-- Nothing has turned but in the blocks of S. -/
structure Chg (w w' : World) (S : Nat → Prop) : Prop where
  os : w'.os = w.os
  tape : w'.tape = w.tape
  output : w'.output = w.output
  size : w.heap.size ≤ w'.heap.size
  block : ∀ k, k < w.heap.size → ¬ S k → w'.heap[k]? = w.heap[k]?
theorem Chg.refl (w : World) (S : Nat → Prop) : Chg w w S := ⟨rfl, rfl, rfl, Nat.le_refl _, fun _ _ _ => rfl⟩
theorem Chg.trans {w w1 w2 : World} {S S' : Nat → Prop} (h : Chg w w1 S) (k : Chg w1 w2 S') (hs : ∀ k, k < w.heap.size → S' k → S k) : Chg w w2 S :=
  ⟨k.os.trans h.os, k.tape.trans h.tape, k.output.trans h.output, Nat.le_trans h.size k.size, fun i hi hn => (k.block i (Nat.lt_of_lt_of_le hi h.size) (fun h' => hn (hs i hi h'))).trans (h.block i hi hn)⟩
theorem Chg.of_below {w w' : World} {S : Nat → Prop} (h : Below w.heap.size w w') : Chg w w' S := ⟨h.os, h.tape, h.output, h.size, fun k hk _ => h.block k hk⟩
theorem Chg.below {w w' : World} {S : Nat → Prop} {B : Nat} (h : Chg w w' S) (hB : B ≤ w.heap.size) (hs : ∀ k, S k → B ≤ k) : Below B w w' :=
  ⟨h.os, h.tape, h.output, h.size, fun k hk => h.block k (by omega) (fun h' => by have := hs k h'; omega)⟩
theorem Chg.of_grown {w w' : World} {r : Option Nat} (h : w.grownBy w' r) : Chg w w' (fun k => some k = r) := ⟨h.os, h.tape, h.output, h.size, fun k hk hn => h.block k hk hn⟩
theorem Row.move {w w' : World} {B : Nat} {t : TypeId} {v : Value} {xs : List It} (h : Row w B t v xs) (hm : ∀ k, v.ownBlock = some k → w'.heap[k]? = w.heap[k]?) : Row w' B t v xs := Go.Proofs.YtbppjaglgbhckaaW.PrintWords.own_move h hm
theorem Row.lt {w : World} {B : Nat} {t : TypeId} {v : Value} {xs : List It} (h : Row w B t v xs) (k : Nat) (hk : v.ownBlock = some k) : k < w.heap.size := by
  rcases h.read with ⟨rfl, _⟩ | ⟨g, cap, rfl, hB, hg, _⟩
  · simp [Value.ownBlock] at hk
  · simp [Value.ownBlock] at hk; omega
theorem Row.base {w : World} {B : Nat} {t : TypeId} {v : Value} {xs : List It} (h : Row w B t v xs) (k : Nat) (hk : v.ownBlock = some k) : B ≤ k := by
  rcases h.read with ⟨rfl, _⟩ | ⟨g, cap, rfl, hB, hg, _⟩
  · simp [Value.ownBlock] at hk
  · simp [Value.ownBlock] at hk; omega
theorem Row.below {w w' : World} {B : Nat} {t : TypeId} {v : Value} {xs : List It} (h : Row w B t v xs) (hb : Below w.heap.size w w') : Row w' B t v xs := Row.move h (fun k hk => hb.block k (Row.lt h k hk))
theorem Row.ne {w : World} {B : Nat} {t t' : TypeId} {v : Value} {xs : List It} {g : Nat} {cs : Array Value} (h : Row w B t v xs) (hg : w.heap[g]? = some (.cells cs t' (0, 0))) (hne : t ≠ t') : v.ownBlock ≠ some g := by
  intro he
  obtain ⟨cells, hc⟩ := Go.Proofs.YtbppjaglgbhckaaW.PrintWords.own_typed h g he
  rw [hc] at hg
  simp at hg
  exact hne hg.2
theorem Row.one {w : World} {B : Nat} {t : TypeId} {v : Value} {xs : List It} (h : Row w B t v xs) : v.cells.toList = [v] ∧ v.oneCell' = true := by
  rcases h.read with ⟨rfl, _⟩ | ⟨g, cap, rfl, _⟩ <;> exact ⟨rfl, rfl⟩
/-- A queue: its box, and the row that it bears. -/
structure Q (w : World) (B gq : Nat) (v : Value) (xs : List It) : Prop where
  box : w.heap[gq]? = some (.cells #[v] 42 (0, 0))
  row : Row w B 44 v xs
  base : B ≤ gq
theorem Q.below {w w' : World} {B gq : Nat} {v : Value} {xs : List It} (h : Q w B gq v xs) (hb : Below w.heap.size w w') : Q w' B gq v xs :=
  ⟨(hb.block gq (Array.getElem?_eq_some_iff.1 h.box).1).trans h.box, Row.below h.row hb, h.base⟩
theorem Q.cell {w : World} {B gq : Nat} {v : Value} {xs : List It} (h : Q w B gq v xs) : w.cell? ⟨gq, 0, none⟩ = some v := cell_of_row w gq 0 _ _ (0, 0) h.box
theorem Q.lt {w : World} {B gq : Nat} {v : Value} {xs : List It} (h : Q w B gq v xs) : gq < w.heap.size := (Array.getElem?_eq_some_iff.1 h.box).1
end Go.Proofs.Ytbppjaglgbhckaa.CaD

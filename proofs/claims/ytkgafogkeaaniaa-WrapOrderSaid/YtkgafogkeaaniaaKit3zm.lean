/- Words of my own: what turned is in some blocks alone. No program in sight. -/
import Derived.Test.YtkgafogkeaaniaaDvAzm
import Derived.Test.YtkgafogkeaaniaaWWordszm
namespace Go.Proofs.Ytkgafogkeaaniaa.Kit3
open Go.RowKit Go.Proofs.Ytkgafogkeaaniaa.Kit
/-- Nothing has turned but in the blocks of S. -/
structure Chg (w w' : World) (S : Nat → Prop) : Prop where
  os : w'.os = w.os
  tape : w'.tape = w.tape
  output : w'.output = w.output
  size : w.heap.size ≤ w'.heap.size
  block : ∀ k, k < w.heap.size → ¬ S k → w'.heap[k]? = w.heap[k]?
theorem Chg.refl (w : World) (S : Nat → Prop) : Chg w w S := ⟨rfl, rfl, rfl, Nat.le_refl _, fun _ _ _ => rfl⟩
theorem Chg.trans {w w1 w2 : World} {S S' : Nat → Prop} (h : Chg w w1 S) (k : Chg w1 w2 S') (hs : ∀ k, k < w.heap.size → S' k → S k) : Chg w w2 S :=
  ⟨k.os.trans h.os, k.tape.trans h.tape, k.output.trans h.output, Nat.le_trans h.size k.size, fun i hi hn => (k.block i (Nat.lt_of_lt_of_le hi h.size) (fun h' => hn (hs i hi h'))).trans (h.block i hi hn)⟩
theorem Chg.of_below {w w' : World} {S : Nat → Prop} (h : Below w.heap.size w w') : Chg w w' S := ⟨h.os, h.tape, h.output, h.size, fun k hk _ => h.block k hk⟩
theorem Chg.below {w w' : World} {S : Nat → Prop} {B : Nat} (h : Chg w w' S) (hB : B ≤ w.heap.size) (hs : ∀ k, S k → B ≤ k) : Below B w w' :=
  ⟨h.os, h.tape, h.output, h.size, fun k hk => h.block k (by omega) (fun h' => by have := hs k h'; omega)⟩
theorem Chg.set (w : World) (g o : Nat) (u : Value) : Chg w (w.setCell ⟨g, o, none⟩ u) (fun k => k = g) := by
  have h : Below 0 w (w.setCell ⟨g, o, none⟩ u) := Below.setCell (Below.refl 0 w) (Nat.zero_le _) u
  exact ⟨h.os, h.tape, h.output, h.size, fun k _ hk => Below.heap_setCell w _ u k hk⟩
theorem Chg.drew {w w' : World} {S : Nat → Prop} (h : Chg w w' S) (n : Nat) : Chg w (w'.drewN n) S := ⟨h.os, h.tape, h.output, h.size, h.block⟩
end Go.Proofs.Ytkgafogkeaaniaa.Kit3

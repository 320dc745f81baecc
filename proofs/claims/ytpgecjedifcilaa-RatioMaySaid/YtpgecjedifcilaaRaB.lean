/- Boxes of two whole numbers in memory. No condition. -/
import Derived.Test.YtpgecjedifcilaaProg
import Derived.Test.YtpgecjedifcilaaKit
import Derived.Test.YtpgecjedifcilaaWWords
import Derived.Deep.RegionHeld3
import Derived.Deep.QuietTactic
import Derived.BigQuiet
namespace Go.Proofs.Ytpgecjedifcilaa.RaB
open Go.RowKit Go.Proofs.Ytpgecjedifcilaa.Kit
structure Box2 (w : World) (g : Nat) (k : IntKind) (a b : Int) : Prop where
  c0 : w.cell? ⟨g, 0, none⟩ = some (.int k a)
  c1 : w.cell? ⟨g, 1, none⟩ = some (.int k b)
  lt : g < w.heap.size
theorem Box2.below {w w' : World} {g : Nat} {k : IntKind} {a b : Int} (h : Box2 w g k a b) (hb : Below w.heap.size w w') : Box2 w' g k a b :=
  ⟨((bcell hb).1 _ _ h.lt).trans h.c0, ((bcell hb).1 _ _ h.lt).trans h.c1, Nat.lt_of_lt_of_le h.lt hb.size⟩
theorem Box2.alloc {w : World} {g : Nat} {k : IntKind} {a b : Int} (h : Box2 w g k a b) (o : Obj) : Box2 (w.alloc o) g k a b := h.below ((Below.refl _ w).alloc (Nat.le_refl _) o)
theorem Box2.new (w : World) (k : IntKind) (a b : Int) (t : TypeId) : Box2 (w.alloc (.cells #[.int k a, .int k b] t)) w.heap.size k a b :=
  ⟨by go_simp, by go_simp, by simp⟩
theorem below_alloc2 {w W : World} (h : Below w.heap.size w W) (o : Obj) : Below w.heap.size w (W.alloc o) := h.alloc h.size o
end Go.Proofs.Ytpgecjedifcilaa.RaB

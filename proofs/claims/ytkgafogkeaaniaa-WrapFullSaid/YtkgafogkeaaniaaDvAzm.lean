/- Words of my own for walks by hand: arguments that are arrays or structs of whole numbers opened; a frame that names the blocks that may turn. No program in sight.; math/bits: Len64, LeadingZeros64 by the shelf's contracts. No condition. -/
import Derived.WalkKit
import Derived.ProofKit
import Derived.OpenShut
import Derived.ChangeOld
import Derived.Below
import Derived.SizedLaws
import Derived.Lib.SmallJoins
import Derived.Deep.Draws
import Derived.Test.YtkgafogkeaaniaaProg
import Derived.Shelf.Small.Bits
import Derived.Shelf.Strconv.Itoa0
section
namespace Go.Proofs.Ytkgafogkeaaniaa.Kit
open Go.ChangeShapes Go.WideShapes Go.ChangeAt Go.RowKit Go.Joins
section
variable {H : Type} {enc : TypeId × Value → H} {P : Program} {w : World} {base : Nat} {spare : Nat → Bool} {held : Bool}
end
/-- A fact that the walk's simp doesn't look into. -/
structure Side (p : Prop) : Prop where mk :: (out : p)
/-- Nothing but orders was drawn. -/
def Still (w w' : World) : Prop := ∃ n, w' = w.drewN n
theorem Still.refl (w : World) : Still w w := ⟨0, rfl⟩
theorem below_drewN {B : Nat} {a w : World} (h : Below B a w) (n : Nat) : Below B a (w.drewN n) := ⟨h.os, h.tape, h.output, h.size, h.block⟩
theorem below_drew {B : Nat} {a w : World} (h : Below B a w) : Below B a w.drew := h.drew
theorem below_alloc {w W : World} (h : Below w.heap.size w W) (o : Obj) : Below w.heap.size w (W.alloc o) := h.alloc h.size o
theorem below_then {B : Nat} {w w1 w2 : World} (h : Below B w w1) (hB : B ≤ w1.heap.size) (k : Below w1.heap.size w1 w2) : Below B w w2 := h.trans (k.mono hB)
theorem Still.below {w w' : World} (h : Still w w') : Below w.heap.size w w' := by
  obtain ⟨n, rfl⟩ := h; exact below_drewN (Below.refl _ _) n
theorem bcell {W w1 : World} (hb : Below W.heap.size W w1) : (∀ b o, b < W.heap.size → w1.cell? ⟨b, o, none⟩ = W.cell? ⟨b, o, none⟩) ∧ (∀ b o, b < W.heap.size → w1.frozen? ⟨b, o, none⟩ = W.frozen? ⟨b, o, none⟩) :=
  ⟨fun b o h => hb.cell (p := ⟨b, o, none⟩) h, fun b o h => hb.frozen (p := ⟨b, o, none⟩) h⟩
theorem wr {x : Int} (h1 : -9223372036854775808 ≤ x) (h2 : x < 9223372036854775808) : wrap64 x = x := by unfold wrap64; omega
theorem tm {a b : Int} (h : 0 ≤ a) : Int.tmod a b = a % b := Int.tmod_eq_emod_of_nonneg h
theorem blk_set {w : World} {g : Nat} {t : TypeId} {cs : Array Value} (h : w.heap[g]? = some (.cells cs t (0, 0))) (i : Nat) (u : Value) : (w.setCell ⟨g, i, none⟩ u).heap[g]? = some (.cells (cs.setIfInBounds i u) t (0, 0)) := by
  simp [World.setCell, Array.getElem?_modify, h]
theorem blk_far {w : World} {g : Nat} (p : Addr) (hp : g ≠ p.block) (u : Value) : (w.setCell p u).heap[g]? = w.heap[g]? := Below.heap_setCell w p u g hp
end Go.Proofs.Ytkgafogkeaaniaa.Kit
end
section
set_option linter.unusedVariables false
set_option linter.unusedSimpArgs false
namespace Go.Proofs.Ytkgafogkeaaniaa.DvA
open Go.RowKit Go.Shelf Go.Proofs.Ytkgafogkeaaniaa.Kit
def ren : Ren := { f := fun x => match x with | 134 => 67 | 129 => 68 | n => n, t := fun x => match x with | 3 => 3 | 4 => 4 | 5 => 5 | 9 => 9 | 46 => 85 | 53 => 63 | n => n, g := fun x => x }
theorem lays129 : Lays.n129 Try.prog ren where
  mixed := Eq.refl true
  f129 := Eq.trans Try.func68 (congrArg some (Eq.refl (Body.n129 ren)))
  t3 := Try.underlying3
  a3 := Try.isAgg3
  z3 := Try.sizeOf3
  v3 := Try.zeroValue3
  t4 := Try.underlying4
  a4 := Try.isAgg4
  z4 := Try.sizeOf4
  v4 := Try.zeroValue4
  t5 := Try.underlying5
  a5 := Try.isAgg5
  z5 := Try.sizeOf5
  v5 := Try.zeroValue5
  t9 := Try.underlying9
  a9 := Try.isAgg9
  z9 := Try.sizeOf9
  v9 := Try.zeroValue9
  t46 := Try.underlying85
  a46 := Try.isAgg85
  z46 := Try.sizeOf85
  v46 := Try.zeroValue85
  t53 := Try.underlying63
  a53 := Try.isAgg63
  z53 := Try.sizeOf63
  v53 := Try.zeroValue63
theorem lays134 : Lays.n134 Try.prog ren where
  mixed := Eq.refl true
  f129 := Eq.trans Try.func68 (congrArg some (Eq.refl (Body.n129 ren)))
  f134 := Eq.trans Try.func67 (congrArg some (Eq.refl (Body.n134 ren)))
  t3 := Try.underlying3
  a3 := Try.isAgg3
  z3 := Try.sizeOf3
  v3 := Try.zeroValue3
  t4 := Try.underlying4
  a4 := Try.isAgg4
  z4 := Try.sizeOf4
  v4 := Try.zeroValue4
  t5 := Try.underlying5
  a5 := Try.isAgg5
  z5 := Try.sizeOf5
  v5 := Try.zeroValue5
  t9 := Try.underlying9
  a9 := Try.isAgg9
  z9 := Try.sizeOf9
  v9 := Try.zeroValue9
  t46 := Try.underlying85
  a46 := Try.isAgg85
  z46 := Try.sizeOf85
  v46 := Try.zeroValue85
  t53 := Try.underlying63
  a53 := Try.isAgg63
  z53 := Try.sizeOf63
  v53 := Try.zeroValue63
/-- How many bits. -/
theorem Len_at (x : Nat) (h : x < 2 ^ 64) (w : World) : Calls Try.prog 68 #[.int .u64 x] w fun e w' => e = .returned (.int .i64 (Lib.bitLen x : Int)) ∧ w' = w := by
  have := Any.bits_Len64 lays129 (x : Int) w (by omega) (by omega)
  rw [Int.toNat_natCast] at this
  exact this
theorem Lead_at (x : Nat) (h : x < 2 ^ 64) (w : World) : Calls Try.prog 67 #[.int .u64 x] w fun e w' => e = .returned (.int .i64 (64 - (Lib.bitLen x : Int))) ∧ w' = w := by
  have := Any.bits_LeadingZeros64 lays134 (x : Int) w (by omega) (by omega)
  rw [Int.toNat_natCast] at this
  exact this
theorem bit_lo : ∀ (f x : Nat), x < 2 ^ f → x < 2 ^ Lib.bitLenAux f x ∧ (0 < x → 2 ^ Lib.bitLenAux f x ≤ 2 * x) ∧ Lib.bitLenAux f x ≤ f := by
  intro f
  induction f with
  | zero => intro x h; simp at h; subst h; simp [Lib.bitLenAux]
  | succ f ih =>
    intro x h
    unfold Lib.bitLenAux
    by_cases h0 : x = 0
    · rw [if_pos h0]; subst h0; simp
    · rw [if_neg h0]
      obtain ⟨i1, i2, i3⟩ := ih (x / 2) (by rw [Nat.pow_succ] at h; omega)
      have e : 2 ^ (1 + Lib.bitLenAux f (x / 2)) = 2 * 2 ^ Lib.bitLenAux f (x / 2) := by rw [Nat.pow_add]
      rw [e]
      refine ⟨by omega, fun _ => ?_, by omega⟩
      by_cases h1 : x / 2 = 0
      · rw [h1]
        have : Lib.bitLenAux f 0 = 0 := by cases f <;> simp [Lib.bitLenAux]
        rw [this]
        omega
      · have := i2 (by omega)
        omega
/-- x lies below the next power, and not below half of it. -/
theorem bit_at (x : Nat) (h : x < 2 ^ 64) : x < 2 ^ Lib.bitLen x ∧ (0 < x → 2 ^ Lib.bitLen x ≤ 2 * x) ∧ Lib.bitLen x ≤ 64 := bit_lo 64 x h
end Go.Proofs.Ytkgafogkeaaniaa.DvA
end

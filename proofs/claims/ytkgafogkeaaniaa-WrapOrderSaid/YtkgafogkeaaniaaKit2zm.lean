/- Words of my own for rows that come in: a slice of elements that are whole numbers, bools, arrays and structs of them, opened cell by cell. No program in sight. -/
import Derived.SizedLaws
import Derived.ChangeSlices
import Derived.Test.YtkgafogkeaaniaaDvAzm
import Derived.Deep.Slices
import Derived.Deep.Fields
import Derived.ChangeSame
section
-- PRINTED BY print.sh 35421559b90ae4d0a3588c463048766b98c2df88dd9212a6774a882060cdf62d: not written by this session
-- PRINTED WORDS (module Derived/Print/Sized.lean): go-gate-2's, for the rows of laws over slices: an AI agent of Go's test side, Tue Nov 17 2026; no person has read it. Lean checks it.
namespace Go.Proofs.YtkgafogkeaaniaaW.PrintWords
open Go.ChangeShapes Go.WideShapes
end Go.Proofs.YtkgafogkeaaniaaW.PrintWords
end
section
namespace Go.Proofs.Ytkgafogkeaaniaa.Kit2
open Go.ChangeShapes Go.WideShapes Go.ChangeAt Go.RowKit Go.Joins Go.Deep
/-- What a cell may hold. -/
inductive CK where
  | i (k : IntKind)
  | b
def CK.ok : CK → Value → Prop
  | .i k, v => ∃ x : Int, v = .int k x ∧ (Lit.int k x).wf = true
  | .b, v => ∃ x : Bool, v = .bool x
def Cells (ks : List CK) (cs : List Value) : Prop := cs.length = ks.length ∧ ∀ (j : Nat) (c : CK) (v : Value), ks[j]? = some c → cs[j]? = some v → c.ok v
/-- A slice that came in, cell by cell. -/
def InRow (ks : List CK) (W : World) (a : Option Addr) (len : Nat) (V : Nat → Nat → Value) : Prop :=
  ∃ b off, (0 < len → a = some ⟨b, off, none⟩ ∧ b < W.heap.size) ∧ ∀ i, i < len → ∀ (j : Nat) (c : CK), ks[j]? = some c → W.cell? ⟨b, off + (i * ks.length + j), none⟩ = some (V i j) ∧ c.ok (V i j)
section
variable {H : Type} {enc : TypeId × Value → H} {P : Program} {w : World} {base : Nat} {spare : Nat → Bool} {held : Bool}
theorem el_int {t : TypeId} {k : IntKind} (ht : P.underlying t = some (.int k)) (n : Nat) (cs : List Value) (y : DataW H × List MemPlace) (h : DataW.trod enc P w base spare held n t cs = some y) : Cells [.i k] cs := by
  obtain ⟨x, rfl, _, hw⟩ := DataW.trod_int ht h
  refine ⟨rfl, fun j c v hj hv => ?_⟩
  rcases j with _ | j
  · simp at hj hv
    subst hj hv
    exact ⟨x, rfl, hw⟩
  · simp at hj
theorem el_bool {t : TypeId} (ht : P.underlying t = some .bool) (n : Nat) (cs : List Value) (y : DataW H × List MemPlace) (h : DataW.trod enc P w base spare held n t cs = some y) : Cells [.b] cs := by
  obtain ⟨x, rfl, _⟩ := DataW.trod_bool ht h
  refine ⟨rfl, fun j c v hj hv => ?_⟩
  rcases j with _ | j
  · simp at hj hv
    subst hj hv
    exact ⟨x, rfl⟩
  · simp at hj
theorem el_struct {t : TypeId} {fs : Array Field} {ks : List CK} (ht : P.underlying t = some (.struct fs)) (hC : P.cellsOf t = ks.length)
    (hcov : ∀ (j : Nat) (c : CK), ks[j]? = some c → ∃ (i : Nat) (f : Field) (kf : List CK), fs[i]? = some f ∧ f.offset ≤ j ∧ kf[j - f.offset]? = some c ∧ P.cellsOf f.type = kf.length ∧ ∀ n cs y, DataW.trod enc P w base spare held n f.type cs = some y → Cells kf cs)
    (n : Nat) (cs : List Value) (y : DataW H × List MemPlace) (h : DataW.trod enc P w base spare held n t cs = some y) : Cells ks cs := by
  obtain ⟨xs, m, _, _, hl, hx, hf⟩ := DataW.trod_struct ht h
  refine ⟨by rw [hl, hC], fun j c v hj hv => ?_⟩
  obtain ⟨i, f, kf, h1, h2, h3, h4, h5⟩ := hcov j c hj
  have h6 := hf i f h1
  have hi : i < xs.length := by rw [hx]; exact (Array.getElem?_eq_some_iff.1 h1).1
  rw [List.getElem?_eq_getElem hi] at h6
  refine (h5 _ _ _ h6).2 (j - f.offset) c v h3 ?_
  have hk := (List.getElem?_eq_some_iff.1 h3).1
  rw [List.getElem?_take, if_pos (by omega), List.getElem?_drop, show f.offset + (j - f.offset) = j by omega]
  exact hv
theorem open_row {t e : TypeId} {ks : List CK} {a : Option Addr} {len cap : Nat} {d : DataW H} {p : List MemPlace} (ht : P.underlying t = some (.slice e)) (hC : P.cellsOf e = ks.length) (hk : 0 < ks.length)
    (he : ∀ n cs y, DataW.trod enc P w base spare held n e cs = some y → Cells ks cs) (h : DataW.Trod enc P w base spare held t (.slice a len cap) d p) : ∃ V, InRow ks w a len V ∧ len ≤ maxLen := by
  obtain ⟨fuel, hf⟩ := h
  rcases open_slice ht hf with ⟨hcs, _⟩ | ⟨x, l, c, m, n, D, Pl, hcs, _, hl, hm, hmm, _, hi⟩
  · simp [Value.cells] at hcs
    obtain ⟨rfl, rfl, rfl⟩ := hcs
    exact ⟨fun _ _ => undef, ⟨0, 0, fun h => absurd h (by simp), fun i h => absurd h (by simp)⟩, by simp⟩
  · simp [Value.cells] at hcs
    obtain ⟨rfl, rfl, rfl⟩ := hcs
    have hlm : len ≤ m := by rw [hmm]; split <;> omega
    have hall : ∀ i, i < len → ∃ cs', Cells ks cs' ∧ ∀ j, j < ks.length → w.cell? (x.add (i * ks.length + j)) = cs'[j]? := by
      intro i h
      obtain ⟨cs', h1, h2⟩ := hi i (by omega)
      obtain ⟨_, h4, h5⟩ := World.cells?_some h1
      refine ⟨cs', he _ _ _ h2, fun j hj => ?_⟩
      have := h5 j (by omega)
      rw [hC, Go.Deep.add_add] at this
      exact this
    by_cases h0 : len = 0
    · subst h0
      exact ⟨fun _ _ => undef, ⟨0, 0, fun h => absurd h (by simp), fun i h => absurd h (by simp)⟩, by simp⟩
    · obtain ⟨b, off, spot⟩ := x
      obtain ⟨cs0, hc0, hr0⟩ := hall 0 (by omega)
      have hz := hr0 0 hk
      rw [List.getElem?_eq_getElem (by rw [hc0.1]; exact hk)] at hz
      have hspot : spot = none := by simpa [Addr.add] using World.cell?_spot hz
      subst hspot
      have hadd : ∀ n, (⟨b, off, none⟩ : Addr).add n = ⟨b, off + n, none⟩ := fun n => by unfold Addr.add; split <;> simp_all
      simp only [hadd] at hall hz
      refine ⟨fun i j => (w.cell? ⟨b, off + (i * ks.length + j), none⟩).getD undef, ⟨b, off, fun _ => ⟨rfl, ?_⟩, fun i h j c hj => ?_⟩, by omega⟩
      · exact World.block_lt_of_cell? w _ hz
      · obtain ⟨cs', h1, h2⟩ := hall i h
        have hjl := (List.getElem?_eq_some_iff.1 hj).1
        have h3 := h2 j hjl
        have hcl : j < cs'.length := by rw [h1.1]; exact hjl
        rw [List.getElem?_eq_getElem hcl] at h3
        have e : (w.cell? ⟨b, off + (i * ks.length + j), none⟩).getD undef = cs'[j] := by rw [h3]; rfl
        exact ⟨by show _ = some ((w.cell? ⟨b, off + (i * ks.length + j), none⟩).getD undef); rw [e]; exact h3, by show c.ok ((w.cell? ⟨b, off + (i * ks.length + j), none⟩).getD undef); rw [e]; exact h1.2 j c _ hj (List.getElem?_eq_getElem hcl)⟩
end
theorem InRow.int {ks : List CK} {W : World} {a : Option Addr} {len : Nat} {V : Nat → Nat → Value} (h : InRow ks W a len V) (j : Nat) (k : IntKind) (hj : ks[j]? = some (.i k)) (i : Nat) (hi : i < len) : V i j = .int k (intOf (V i j)) ∧ (Lit.int k (intOf (V i j))).wf = true := by
  obtain ⟨b, off, _, h2⟩ := h
  obtain ⟨x, hx, hw⟩ := (h2 i hi j _ hj).2
  rw [hx]
  exact ⟨rfl, hw⟩
end Go.Proofs.Ytkgafogkeaaniaa.Kit2
end

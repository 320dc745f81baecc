/- Words of my own: how long a row that comes in is; its elements as a list of shares. No condition.; The laws of package wrap: where the rows stand while they are made; pieces in memory. No condition. -/
import Derived.Test.YtkgafogkeaaniaaKit2zm
import Derived.Test.YtkgafogkeaaniaaPWx0zm
import Derived.Test.YtkgafogkeaaniaaChAzm
import Derived.Test.YtkgafogkeaaniaaWOrAzm
import Derived.Test.YtkgafogkeaaniaaRlAzm
section
namespace Go.Proofs.Ytkgafogkeaaniaa.Kit6
open Go.ChangeShapes Go.WideShapes Go.ChangeAt Go.RowKit Go.Joins Go.Deep Go.Proofs.Ytkgafogkeaaniaa.Kit2 Go.Proofs.Ytkgafogkeaaniaa.PW Go.Proofs.YtkgafogkeaaniaaW.PrintWords
theorem row_cap {H : Type} {enc : TypeId × Value → H} {P : Program} {w : World} {base : Nat} {spare : Nat → Bool} {held : Bool} {t e : TypeId} {a : Option Addr} {len cap : Nat} {d : DataW H} {p : List MemPlace} (ht : P.underlying t = some (.slice e))
    (h : DataW.Trod enc P w base spare held t (.slice a len cap) d p) : len ≤ cap := by
  obtain ⟨fuel, hf⟩ := h
  rcases open_slice ht hf with ⟨hcs, _⟩ | ⟨x, l, c, m, n, D, Pl, hcs, _, hl, _⟩
  · simp [Value.cells] at hcs
    obtain ⟨rfl, rfl, rfl⟩ := hcs
    exact Nat.le_refl _
  · simp [Value.cells] at hcs
    obtain ⟨rfl, rfl, rfl⟩ := hcs
    exact hl
theorem hadd (b off n : Nat) : (⟨b, off, none⟩ : Addr).add n = ⟨b, off + n, none⟩ := by unfold Addr.add; split <;> simp_all
def bo : Value → Bool
  | .bool b => b
  | _ => false
abbrev SK : List CK := [.i .i64, .i .i64, .i .i64, .b]
/-- The shares of a row that came in. -/
def shares (len : Nat) (V : Nat → Nat → Value) : List S39 := (List.range len).map fun i => ⟨intOf (V i 0), ⟨intOf (V i 1), intOf (V i 2)⟩, bo (V i 3)⟩
theorem shares_len (len : Nat) (V : Nat → Nat → Value) : (shares len V).length = len := by simp [shares]
theorem shares_C {W : World} {a : Option Addr} {len : Nat} {V : Nat → Nat → Value} (h : InRow SK W a len V) (hl : len ≤ maxLen) : Kd.C k39 W a (shares len V).length (shares len V) := by
  refine ⟨rfl, by rw [shares_len]; exact hl, fun hn => ?_⟩
  rw [shares_len] at hn
  have g0 := fun i hi => h.int 0 .i64 rfl i hi
  have g1 := fun i hi => h.int 1 .i64 rfl i hi
  have g2 := fun i hi => h.int 2 .i64 rfl i hi
  obtain ⟨b, off, h1, h2⟩ := h
  obtain ⟨rfl, hb⟩ := h1 hn
  refine ⟨_, rfl, fun j p hj => ⟨_, rfl, k39_mk W p, fun i u hu => ?_⟩⟩
  unfold shares at hj
  rw [List.getElem?_map] at hj
  obtain ⟨j', hj1, rfl⟩ := Option.map_eq_some_iff.1 hj
  obtain ⟨hjl, hj2⟩ := List.getElem?_eq_some_iff.1 hj1
  simp at hj2 hjl
  subst hj2
  have at_ : ∀ q c, SK[q]? = some c → W.cell? ((⟨b, off, none⟩ : Addr).add (j * k39.sz + q)) = some (V j q) := fun q c hq => by
    rw [hadd]; exact (h2 j hjl q c hq).1
  match i, hu with
  | 0, hu => simp at hu; rw [at_ 0 _ rfl, ← hu, ← (g0 j hjl).1]
  | 1, hu => simp at hu; rw [at_ 1 _ rfl, ← hu, ← (g1 j hjl).1]
  | 2, hu => simp at hu; rw [at_ 2 _ rfl, ← hu, ← (g2 j hjl).1]
  | 3, hu =>
    simp at hu
    rw [at_ 3 _ rfl, ← hu]
    obtain ⟨x, hx⟩ := (h2 j hjl 3 _ rfl).2
    rw [hx]
    rfl
  | n + 4, hu => simp at hu
end Go.Proofs.Ytkgafogkeaaniaa.Kit6
end
section
set_option linter.unusedVariables false
set_option linter.unusedSimpArgs false
namespace Go.Proofs.Ytkgafogkeaaniaa.WOrB
open Go.RowKit Go.Proofs.Ytkgafogkeaaniaa.Kit Go.Proofs.Ytkgafogkeaaniaa.Kit3 Go.Proofs.Ytkgafogkeaaniaa.Kit4 Go.Proofs.Ytkgafogkeaaniaa.Kit5 Go.Proofs.Ytkgafogkeaaniaa.WlA Go.Proofs.Ytkgafogkeaaniaa.WlC Go.Proofs.Ytkgafogkeaaniaa.RlA
open Go.Proofs.Ytkgafogkeaaniaa.PW
open Go.Proofs.Ytkgafogkeaaniaa.WlX Go.Proofs.Ytkgafogkeaaniaa.WlY Go.Proofs.Ytkgafogkeaaniaa.SmF Go.Proofs.Ytkgafogkeaaniaa.ChA
open Go.Proofs.YtkgafogkeaaniaaW.PrintLast
open Go.Proofs.YtkgafogkeaaniaaW.PrintWords hiding below_then below_alloc below_drew
/-- Where the shares' row and the pieces stand, once they are made. -/
structure Bo (W : World) (L : List S49) (ps : List S41) (i j : Nat) (b : Nat → Bool) (ra : Option Addr) (rc : Nat) (pa : Option Addr) (pc : Nat) (w' : World) : Prop where
  bel : Below W.heap.size W w'
  r : b i = true → Kd.C k49 w' ra L.length L ∧ L.length ≤ rc
  p : b j = true → Kd.C k41 w' pa ps.length ps ∧ ps.length ≤ pc
section
variable {W w w' : World} {L : List S49} {ps : List S41} {i j : Nat} {b : Nat → Bool} {ra pa ra' pa' : Option Addr} {rc pc rc' pc' : Nat}
theorem Bo.start : Bo W L ps i j (fun _ => false) ra rc pa pc W := ⟨Below.refl _ _, fun h => (by cases h), fun h => (by cases h)⟩
theorem Bo.low (h : Bo W L ps i j b ra rc pa pc w) (hb : Below w.heap.size w w') (k : Nat) (hk : (k != i && k != j) = true) : Bo W L ps i j (up b k) ra rc pa pc w' := by
  simp only [Bool.and_eq_true, bne_iff_ne, ne_eq] at hk
  refine ⟨below_then h.bel h.bel.size hb, ?_, ?_⟩
  · rw [up_ne (Ne.symm hk.1)]; exact fun e => ⟨Kd.C_below (h.r e).1 hb, (h.r e).2⟩
  · rw [up_ne (Ne.symm hk.2)]; exact fun e => ⟨Kd.C_below (h.p e).1 hb, (h.p e).2⟩
theorem Bo.s1 (h : Bo W L ps i j b ra rc pa pc w) (hb : Below w.heap.size w w') (hC : Kd.C k49 w' ra' L.length L) (hl : L.length ≤ rc') (hij : (j != i) = true) : Bo W L ps i j (up b i) ra' rc' pa pc w' := by
  simp only [bne_iff_ne, ne_eq] at hij
  refine ⟨below_then h.bel h.bel.size hb, fun _ => ⟨hC, hl⟩, ?_⟩
  rw [up_ne hij]; exact fun e => ⟨Kd.C_below (h.p e).1 hb, (h.p e).2⟩
theorem Bo.s2 (h : Bo W L ps i j b ra rc pa pc w) (hb : Below w.heap.size w w') (hC : Kd.C k41 w' pa' ps.length ps) (hl : ps.length ≤ pc') (hij : (i != j) = true) : Bo W L ps i j (up b j) ra rc pa' pc' w' := by
  simp only [bne_iff_ne, ne_eq] at hij
  refine ⟨below_then h.bel h.bel.size hb, ?_, fun _ => ⟨hC, hl⟩⟩
  rw [up_ne hij]; exact fun e => ⟨Kd.C_below (h.r e).1 hb, (h.r e).2⟩
end
theorem at41 {w : World} {A : Option Addr} {n : Nat} {xs : List S41} (h : Kd.C k41 w A n xs) (j : Nat) (hj : j < n) : ∃ g off, A = some ⟨g, off, none⟩ ∧ g < w.heap.size ∧ w.cell? ⟨g, off + j * 8, none⟩ = some (.int .i64 (rd_T41 xs (j : Int)).f0) ∧ w.cell? ⟨g, off + j * 8 + 1, none⟩ = some (.int .i64 (rd_T41 xs (j : Int)).f1) ∧ w.cell? ⟨g, off + j * 8 + 2, none⟩ = some (.int .i64 (rd_T41 xs (j : Int)).f2) ∧
    w.cell? ⟨g, off + j * 8 + 3, none⟩ = some (.int .i64 (rd_T41 xs (j : Int)).f3.f0) ∧ w.cell? ⟨g, off + j * 8 + 4, none⟩ = some (.int .i64 (rd_T41 xs (j : Int)).f3.f1) ∧ w.cell? ⟨g, off + j * 8 + 5, none⟩ = some (.int .i64 (rd_T41 xs (j : Int)).f4.f0) ∧ w.cell? ⟨g, off + j * 8 + 6, none⟩ = some (.int .i64 (rd_T41 xs (j : Int)).f4.f1) ∧ w.cell? ⟨g, off + j * 8 + 7, none⟩ = some (.bool (rd_T41 xs (j : Int)).f5) := by
  obtain ⟨ad, rfl, c0, c1, c2, c3, c4, c5, c6, c7⟩ := at_T41 h (j : Int) (by omega) (by omega)
  obtain ⟨ad2, he, d0, -⟩ := at_T41 h 0 (by omega) (by omega)
  obtain rfl := Option.some.inj he
  clear he
  rw [Int.toNat_natCast] at c0 c1 c2 c3 c4 c5 c6 c7
  obtain ⟨g, off, spot⟩ := ad
  have hspot : spot = none := by simpa [Addr.add] using World.cell?_spot d0
  subst hspot
  rw [Kit6.hadd] at c0 c1 c2 c3 c4 c5 c6 c7
  exact ⟨g, off, rfl, World.block_lt_of_cell? w _ c0, c0, c1, c2, c3, c4, c5, c6, c7⟩
end Go.Proofs.Ytkgafogkeaaniaa.WOrB
end

/- Words of my own: how long a row that comes in is; its elements as a list of shares. No condition.; WrapLays: the law, out of its walk and of what both Lays answer. No condition. -/
import Derived.Test.YtkgafogkeaaniaaKit2zm
import Derived.Test.YtkgafogkeaaniaaPWx0zm
import Derived.Test.YtkgafogkeaaniaaRlCzm
import Derived.Test.YtkgafogkeaaniaaWLaPzm
section
namespace Go.Proofs.Ytkgafogkeaaniaa.Kit6
open Go.ChangeShapes Go.WideShapes Go.ChangeAt Go.RowKit Go.Joins Go.Deep Go.Proofs.Ytkgafogkeaaniaa.Kit2 Go.Proofs.Ytkgafogkeaaniaa.PW Go.Proofs.YtkgafogkeaaniaaW.PrintWords
theorem row_cap {H : Type} {enc : TypeId × Value → H} {P : Program} {w : World} {base : Nat} {spare : Nat → Bool} {held : Bool} {t e : TypeId} {a : Option Addr} {len cap : Nat} {d : DataW H} {p : List MemPlace} (ht : P.underlying t = some (.slice e))
    (h : DataW.Trod enc P w base spare held t (.slice a len cap) d p) : len ≤ cap := by
  obtain ⟨fuel, hf⟩ := h
  rcases open_slice ht hf with ⟨hcs, _⟩ | ⟨x, l, c, m, n, D, Pl, hcs, _, hl, _⟩
  · simp [Value.cells] at hcs
    obtain ⟨rfl, rfl, rfl⟩ := hcs
    exact Nat.le_refl _
  · simp [Value.cells] at hcs
    obtain ⟨rfl, rfl, rfl⟩ := hcs
    exact hl
theorem hadd (b off n : Nat) : (⟨b, off, none⟩ : Addr).add n = ⟨b, off + n, none⟩ := by unfold Addr.add; split <;> simp_all
def bo : Value → Bool
  | .bool b => b
  | _ => false
abbrev SK : List CK := [.i .i64, .i .i64, .i .i64, .b]
/-- The shares of a row that came in. -/
def shares (len : Nat) (V : Nat → Nat → Value) : List S39 := (List.range len).map fun i => ⟨intOf (V i 0), ⟨intOf (V i 1), intOf (V i 2)⟩, bo (V i 3)⟩
theorem shares_len (len : Nat) (V : Nat → Nat → Value) : (shares len V).length = len := by simp [shares]
theorem shares_C {W : World} {a : Option Addr} {len : Nat} {V : Nat → Nat → Value} (h : InRow SK W a len V) (hl : len ≤ maxLen) : Kd.C k39 W a (shares len V).length (shares len V) := by
  refine ⟨rfl, by rw [shares_len]; exact hl, fun hn => ?_⟩
  rw [shares_len] at hn
  have g0 := fun i hi => h.int 0 .i64 rfl i hi
  have g1 := fun i hi => h.int 1 .i64 rfl i hi
  have g2 := fun i hi => h.int 2 .i64 rfl i hi
  obtain ⟨b, off, h1, h2⟩ := h
  obtain ⟨rfl, hb⟩ := h1 hn
  refine ⟨_, rfl, fun j p hj => ⟨_, rfl, k39_mk W p, fun i u hu => ?_⟩⟩
  unfold shares at hj
  rw [List.getElem?_map] at hj
  obtain ⟨j', hj1, rfl⟩ := Option.map_eq_some_iff.1 hj
  obtain ⟨hjl, hj2⟩ := List.getElem?_eq_some_iff.1 hj1
  simp at hj2 hjl
  subst hj2
  have at_ : ∀ q c, SK[q]? = some c → W.cell? ((⟨b, off, none⟩ : Addr).add (j * k39.sz + q)) = some (V j q) := fun q c hq => by
    rw [hadd]; exact (h2 j hjl q c hq).1
  match i, hu with
  | 0, hu => simp at hu; rw [at_ 0 _ rfl, ← hu, ← (g0 j hjl).1]
  | 1, hu => simp at hu; rw [at_ 1 _ rfl, ← hu, ← (g1 j hjl).1]
  | 2, hu => simp at hu; rw [at_ 2 _ rfl, ← hu, ← (g2 j hjl).1]
  | 3, hu =>
    simp at hu
    rw [at_ 3 _ rfl, ← hu]
    obtain ⟨x, hx⟩ := (h2 j hjl 3 _ rfl).2
    rw [hx]
    rfl
  | n + 4, hu => simp at hu
end Go.Proofs.Ytkgafogkeaaniaa.Kit6
end
section
set_option linter.unusedVariables false
set_option linter.unusedSimpArgs false
namespace Go.Proofs.Ytkgafogkeaaniaa.WLaQ
open Go.RowKit Go.Proofs.Ytkgafogkeaaniaa.PW Go.Proofs.YtkgafogkeaaniaaW.PrintWords Go.Proofs.Ytkgafogkeaaniaa.RwC Go.Proofs.Ytkgafogkeaaniaa.RwV WhPlain RaPlain Go.Proofs.Ytkgafogkeaaniaa.WlB Go.Proofs.Ytkgafogkeaaniaa.WlC Go.Proofs.Ytkgafogkeaaniaa.WlX Go.Proofs.Ytkgafogkeaaniaa.WlY Go.Proofs.Ytkgafogkeaaniaa.RfX Go.Proofs.Ytkgafogkeaaniaa.SmF Go.Proofs.Ytkgafogkeaaniaa.RlA Go.Proofs.Ytkgafogkeaaniaa.RlC
theorem line {M fr tt : Int} (hM : Mb M) (h1 : -1048576 ≤ fr) (h2 : fr ≤ 1048576) (h3 : fr < tt) (h4 : tt ≤ fr + 1024) : Ln M (fr * M) (tt * M) fr tt ∧ tt * M - fr * M ≤ 17179869184 := by
  have hl := hM.le
  have hp := hM.pos
  have b1 : (fr * M).natAbs ≤ 1048576 * 16777216 := by rw [Int.natAbs_mul]; exact Nat.mul_le_mul (by omega) (by omega)
  have b2 : (tt * M).natAbs ≤ 1049600 * 16777216 := by rw [Int.natAbs_mul]; exact Nat.mul_le_mul (by omega) (by omega)
  have b3 : (tt - fr) * M ≤ 1024 * 16777216 := Int.mul_le_mul (by omega) hl (by omega) (by decide)
  have b4 : fr * M < tt * M := (Int.mul_lt_mul_right hp).2 h3
  rw [Int.sub_mul] at b3
  exact ⟨⟨hM, rfl, rfl, by omega, by omega, b4⟩, by omega⟩
/-- Both Lays, of small shares. -/
theorem both {M : Int} (hM : Mb M) (l : List S39) (hx : ∀ x ∈ l, Sml M x) (hl : l.length ≤ 41) (fr tt co : Int) (h1 : -1048576 ≤ fr) (h2 : fr ≤ 1048576) (h4 : tt ≤ fr + 1024) :
    ∃ p e, wrap_Lay.f (l.map to49) fr tt co = some (p, e) ∧ evenhandedref12_Lay.f l fr tt co = some (p, e) ∧ (e = 0 ∨ e = 2 ∨ e = 6) ∧ (e ≠ 0 → p = []) ∧ p.length ≤ 82 ∧
      (e = 0 → fr < tt ∧ ∃ xs : List Sh, l = xs.map (toR M) ∧ (∀ x ∈ xs, 0 ≤ x.2.1 ∧ x.2.1 ≤ tt * M - fr * M) ∧ 1 ≤ co ∧ co ≤ 64 ∧ sumI xs ≤ (tt * M - fr * M) * co ∧ p = (layI M (fr * M) (tt * M) xs 0 (fr * M) []).2.2) := by
  unfold wrap_Lay.f evenhandedref12_Lay.f
  rw [if_pos ⟨h1, h2, h4⟩]
  by_cases hf : fr ≥ tt
  · refine ⟨[], 2, lay_none _ _ hf, ?_, Or.inr (Or.inl rfl), fun _ => rfl, by simp, fun e => absurd e (by decide)⟩
    unfold refF
    rw [if_pos hf]
  · obtain ⟨L, hts⟩ := line hM h1 h2 (by omega) h4
    obtain ⟨p, e, q1, q2, q3, q4, q5⟩ := lay_same L rfl co l hx (by omega) (by omega) 4
    refine ⟨p, e, q1, q2, q3, q4, ?_, fun e0 => ⟨by omega, q5 e0⟩⟩
    by_cases e0 : e = 0
    · obtain ⟨xs, rfl, _, _, _, _, rfl⟩ := q5 e0
      have := layI_len M (fr * M) (tt * M) xs 0 (fr * M) []
      simp at this hl
      omega
    · rw [q4 e0]; simp
theorem lays_f (l : List S39) (fr tt co : Int) : ∃ k, evenhandedlaw18_WrapLays.f k l fr tt co = some true := by
  obtain ⟨b, hb, hs⟩ := small_f l (2 * l.length + 200) (by omega)
  refine ⟨K0 + (2 * l.length + 200), ?_⟩
  obtain ⟨q, hq⟩ : ∃ q, K0 + (2 * l.length + 200) = q + 1 := ⟨K0 + (2 * l.length + 199), by omega⟩
  have yes : ∀ a b, evenhandedlaw18_WrapLays.j0 (K0 + (2 * l.length + 200)) l co true a b = some true := fun a b => by rw [hq, evenhandedlaw18_WrapLays.j0, if_pos rfl]
  unfold evenhandedlaw18_WrapLays.f
  rw [awake_f, Option.bind_some, if_pos rfl, hb, Option.bind_some]
  cases b with
  | false => rw [if_neg (by decide)]; exact yes _ _
  | true =>
    rw [if_pos rfl]
    obtain ⟨M, hM, hl, hx⟩ := hs rfl
    by_cases h1 : fr < -1048576
    · rw [if_pos h1]; exact yes _ _
    rw [if_neg h1]
    by_cases h2 : fr > 1048576
    · rw [if_pos h2]; exact yes _ _
    rw [if_neg h2, RwC.wr (x := fr + 1024) (by omega) (by omega)]
    by_cases h3 : tt > fr + 1024
    · rw [decide_eq_true h3]; exact yes _ _
    rw [decide_eq_false h3, hq, evenhandedlaw18_WrapLays.j0, if_neg (by decide), rows_f l (by omega) q (by omega), Option.bind_some]
    obtain ⟨p, e, q1, q2, _, _, q5, _⟩ := both hM l hx hl fr tt co (by omega) (by omega) (by omega)
    rw [show (l.map fun x => (⟨x.f0, ⟨x.f1.f0, x.f1.f1⟩, x.f2⟩ : S49)) = l.map to49 from rfl, q1, Option.bind_some, q2, Option.bind_some, if_pos rfl, same_f p (by omega) q (by omega), Option.bind_some]
end Go.Proofs.Ytkgafogkeaaniaa.WLaQ
namespace Go.Proofs.Ytkgafogkeaaniaa.WLaQ
open Go.RowKit Go.Proofs.Ytkgafogkeaaniaa.PW Go.Proofs.YtkgafogkeaaniaaW.PrintWords Go.Proofs.Ytkgafogkeaaniaa.Kit2 Go.Proofs.Ytkgafogkeaaniaa.Kit6
theorem walk (ar : Option Addr) (len cap : Nat) (V : Nat → Nat → Value) (n0 n1 co : Int) (w : World) (hrow : InRow SK w ar len V) (hlen : len ≤ maxLen) (hcap : len ≤ cap) (w0 : (Lit.int .i64 n0).wf = true) (w1 : (Lit.int .i64 n1).wf = true) (w2 : (Lit.int .i64 co).wf = true) :
    Calls Try.prog 3 #[.slice ar len cap, .agg #[.int .i64 n0, .int .i64 n1], .int .i64 co] w fun e w' => e = .returned (.bool true) ∧ Below w.heap.size w w' := by
  obtain ⟨k, hk⟩ := lays_f (shares len V) n0 n1 co
  have h := evenhandedlaw18_WrapLays.calls k ar cap (shares len V) n0 n1 co true w (shares_C hrow hlen) (by rw [shares_len]; exact hcap) hk
  rw [shares_len] at h
  exact h
end Go.Proofs.Ytkgafogkeaaniaa.WLaQ
end

/- The laws of package wrap: what the program's Lay answers, of small shares. No condition. -/
import Derived.Test.YtkgafogkeaaniaaChAzm
import Derived.Test.YtkgafogkeaaniaaWFuLzm
set_option linter.unusedVariables false
set_option linter.unusedSimpArgs false
namespace Go.Proofs.Ytkgafogkeaaniaa.WOrA
open Go.RowKit Go.Proofs.Ytkgafogkeaaniaa.PW Go.Proofs.YtkgafogkeaaniaaW.PrintWords Go.Proofs.Ytkgafogkeaaniaa.RwC Go.Proofs.Ytkgafogkeaaniaa.RwV WhPlain RaPlain Go.Proofs.Ytkgafogkeaaniaa.WlB Go.Proofs.Ytkgafogkeaaniaa.WlC Go.Proofs.Ytkgafogkeaaniaa.WlX Go.Proofs.Ytkgafogkeaaniaa.WlY Go.Proofs.Ytkgafogkeaaniaa.SmF Go.Proofs.Ytkgafogkeaaniaa.ChA
theorem line {M fr tt : Int} (hM : Mb M) (h1 : -1048576 ≤ fr) (h2 : fr ≤ 1048576) (h3 : fr < tt) (h4 : tt ≤ fr + 1024) : Ln M (fr * M) (tt * M) fr tt ∧ tt * M - fr * M ≤ 17179869184 := by
  have hl := hM.le
  have hp := hM.pos
  have b1 : (fr * M).natAbs ≤ 1048576 * 16777216 := by rw [Int.natAbs_mul]; exact Nat.mul_le_mul (by omega) (by omega)
  have b2 : (tt * M).natAbs ≤ 1049600 * 16777216 := by rw [Int.natAbs_mul]; exact Nat.mul_le_mul (by omega) (by omega)
  have b3 : (tt - fr) * M ≤ 1024 * 16777216 := Int.mul_le_mul (by omega) hl (by omega) (by decide)
  have b4 : fr * M < tt * M := (Int.mul_lt_mul_right hp).2 h3
  rw [Int.sub_mul] at b3
  exact ⟨⟨hM, rfl, rfl, by omega, by omega, b4⟩, by omega⟩
def to39 (x : S49) : S39 := ⟨x.f0, ⟨x.f1.f0, x.f1.f1⟩, x.f2⟩
theorem from49 {M : Int} {l : List S39} {xs : List Sh} (h : l.map to49 = xs.map (toS M)) : l = xs.map (toR M) := by
  have e := congrArg (List.map to39) h
  rw [List.map_map, List.map_map] at e
  have e1 : l.map (to39 ∘ to49) = l := by
    have : (to39 ∘ to49) = id := by funext x; rfl
    rw [this, List.map_id]
  rw [e1] at e
  exact e
theorem layP {M : Int} (hM : Mb M) (l : List S39) (hx : ∀ x ∈ l, Sml M x) (hl : l.length ≤ 41) (fr tt co : Int) (h1 : -1048576 ≤ fr) (h2 : fr ≤ 1048576) (h4 : tt ≤ fr + 1024) :
    ∃ p e, wrap_Lay.f (l.map to49) fr tt co = some (p, e) ∧ True ∧ (e = 0 ∨ e = 2 ∨ e = 6) ∧ (e ≠ 0 → p = []) ∧ p.length ≤ 82 ∧
      (e = 0 → fr < tt ∧ ∃ xs : List Sh, l = xs.map (toR M) ∧ (∀ x ∈ xs, 0 ≤ x.2.1 ∧ x.2.1 ≤ tt * M - fr * M) ∧ 1 ≤ co ∧ co ≤ 64 ∧ sumI xs ≤ (tt * M - fr * M) * co ∧ p = (layI M (fr * M) (tt * M) xs 0 (fr * M) []).2.2) := by
  unfold wrap_Lay.f
  by_cases hf : fr ≥ tt
  · exact ⟨[], 2, lay_none _ _ hf, trivial, Or.inr (Or.inl rfl), fun _ => rfl, by simp, fun e => absurd e (by decide)⟩
  · obtain ⟨L, hts⟩ := line hM h1 h2 (by omega) h4
    have hO : ∀ x ∈ l.map to49, OkS M x := fun x h => by
      obtain ⟨y, hy, rfl⟩ := List.mem_map.1 h
      exact (hx y hy).ok hM
    rcases lay_any L (co := co) (l.map to49) hO (by simp; omega) (by omega) with ⟨e, h0, h26, h⟩ | ⟨xs, hxs, q1, q2, q3, q4, h⟩
    · exact ⟨[], e, h, trivial, Or.inr h26, fun _ => rfl, by simp, fun e0 => absurd e0 h0⟩
    · have hl2 := from49 hxs
      refine ⟨_, 0, h, trivial, Or.inl rfl, fun e => absurd rfl e, ?_, fun _ => ⟨by omega, xs, hl2, q1, q2, q3, q4, rfl⟩⟩
      have := layI_len M (fr * M) (tt * M) xs 0 (fr * M) []
      rw [hl2] at hl
      simp at this hl
      omega
end Go.Proofs.Ytkgafogkeaaniaa.WOrA

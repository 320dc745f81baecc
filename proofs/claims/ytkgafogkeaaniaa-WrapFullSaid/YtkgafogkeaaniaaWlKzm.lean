/- Package wrap: Lay as laws use it; rows of shares written out; the law's look at the document's example. No condition. -/
import Derived.Test.YtkgafogkeaaniaaWlDzm
set_option linter.unusedVariables false
set_option linter.unusedSimpArgs false
namespace Go.Proofs.Ytkgafogkeaaniaa.WlK
open Go.RowKit Go.Proofs.Ytkgafogkeaaniaa.Kit Go.Proofs.Ytkgafogkeaaniaa.Kit3 Go.Proofs.Ytkgafogkeaaniaa.Kit4 Go.Proofs.Ytkgafogkeaaniaa.Kit5 Go.Proofs.Ytkgafogkeaaniaa.WlA Go.Proofs.Ytkgafogkeaaniaa.WlB Go.Proofs.Ytkgafogkeaaniaa.WlC Go.Proofs.Ytkgafogkeaaniaa.WlD
open Go.Proofs.Ytkgafogkeaaniaa.PW
open Go.Proofs.YtkgafogkeaaniaaW.PrintLast
open Go.Proofs.YtkgafogkeaaniaaW.PrintWords hiding below_then below_alloc below_drew
theorem LayC {k F : Nat} {A : Option Addr} {c : Nat} {l : List S49} {fr tt co e : Int} {OUT : List S41} {w : World} (hr : Kd.C k49 w A l.length l) (hc : l.length ≤ c) (h : layF k F l fr tt co = some (OUT, e)) :
    Calls Try.prog 11 #[.slice A l.length c, .int .i64 fr, .int .i64 tt, .int .i64 co] w fun r w' => ∃ v, r = .returned (.tuple #[v, .int .i64 e]) ∧ PRow w' w.heap.size v OUT ∧ Below w.heap.size w w' := by
  unfold layF at h
  obtain ⟨x, hx, h⟩ := Option.bind_eq_some_iff.1 h
  by_cases h0 : x = 0
  · subst h0
    rw [if_pos rfl] at h
    obtain ⟨out, ho, h⟩ := Option.bind_eq_some_iff.1 h
    simp only [Option.some.injEq, Prod.mk.injEq] at h
    obtain ⟨rfl, rfl⟩ := h
    exact Lay_yes k F A c l fr tt co out w hr hc hx ho
  · rw [if_neg h0] at h
    simp only [Option.some.injEq, Prod.mk.injEq] at h
    obtain ⟨rfl, rfl⟩ := h
    refine (Lay_no k F A c l fr tt co x w hr hc hx h0).mono ?_
    rintro r w' ⟨rfl, hb⟩
    exact ⟨_, rfl, GRow.nil _ _, hb⟩
theorem PRow.reads {w : World} {B : Nat} {v : Value} {ms : List S41} (h : PRow w B v ms) : ∃ A c, v = .slice A ms.length c ∧ ms.length ≤ c ∧ Kd.C k41 w A ms.length ms := by
  rcases h.read E8 with ⟨rfl, rfl⟩ | ⟨g, cap, rfl, hB, hg, hn, hm, _, hr⟩
  · exact ⟨none, 0, rfl, Nat.le_refl _, rfl, by simp, fun h => absurd h (by simp)⟩
  · refine ⟨_, cap, rfl, hn, rfl, by unfold maxLen at hm; omega, fun _ => ⟨_, rfl, fun j p hj => ⟨pcl p, rfl, k41_mk w p, fun i u hu => ?_⟩⟩⟩
    have := hr j p hj i u hu
    rw [show (⟨g, 0, none⟩ : Addr).add (j * k41.sz + i) = ⟨g, j * 8 + i, none⟩ by
      show Addr.add ⟨g, 0, none⟩ (j * 8 + i) = _
      rw [Addr.add_lit, Nat.zero_add]]
    exact this
end Go.Proofs.Ytkgafogkeaaniaa.WlK

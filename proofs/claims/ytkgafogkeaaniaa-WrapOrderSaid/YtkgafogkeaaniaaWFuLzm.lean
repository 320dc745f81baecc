/- Package wrap: Lay as laws use it; rows of shares written out; the law's look at the document's example. No condition.; Package wrap: Lay in the printer's form. No condition. -/
import Derived.Test.YtkgafogkeaaniaaWlDzm
import Derived.Test.YtkgafogkeaaniaaRwVzm
section
set_option linter.unusedVariables false
set_option linter.unusedSimpArgs false
namespace Go.Proofs.Ytkgafogkeaaniaa.WlK
open Go.RowKit Go.Proofs.Ytkgafogkeaaniaa.Kit Go.Proofs.Ytkgafogkeaaniaa.Kit3 Go.Proofs.Ytkgafogkeaaniaa.Kit4 Go.Proofs.Ytkgafogkeaaniaa.Kit5 Go.Proofs.Ytkgafogkeaaniaa.WlA Go.Proofs.Ytkgafogkeaaniaa.WlB Go.Proofs.Ytkgafogkeaaniaa.WlC Go.Proofs.Ytkgafogkeaaniaa.WlD
open Go.Proofs.Ytkgafogkeaaniaa.PW
open Go.Proofs.YtkgafogkeaaniaaW.PrintLast
open Go.Proofs.YtkgafogkeaaniaaW.PrintWords hiding below_then below_alloc below_drew
theorem LayC {k F : Nat} {A : Option Addr} {c : Nat} {l : List S49} {fr tt co e : Int} {OUT : List S41} {w : World} (hr : Kd.C k49 w A l.length l) (hc : l.length ≤ c) (h : layF k F l fr tt co = some (OUT, e)) :
    Calls Try.prog 11 #[.slice A l.length c, .int .i64 fr, .int .i64 tt, .int .i64 co] w fun r w' => ∃ v, r = .returned (.tuple #[v, .int .i64 e]) ∧ PRow w' w.heap.size v OUT ∧ Below w.heap.size w w' := by
  unfold layF at h
  obtain ⟨x, hx, h⟩ := Option.bind_eq_some_iff.1 h
  by_cases h0 : x = 0
  · subst h0
    rw [if_pos rfl] at h
    obtain ⟨out, ho, h⟩ := Option.bind_eq_some_iff.1 h
    simp only [Option.some.injEq, Prod.mk.injEq] at h
    obtain ⟨rfl, rfl⟩ := h
    exact Lay_yes k F A c l fr tt co out w hr hc hx ho
  · rw [if_neg h0] at h
    simp only [Option.some.injEq, Prod.mk.injEq] at h
    obtain ⟨rfl, rfl⟩ := h
    refine (Lay_no k F A c l fr tt co x w hr hc hx h0).mono ?_
    rintro r w' ⟨rfl, hb⟩
    exact ⟨_, rfl, GRow.nil _ _, hb⟩
theorem PRow.reads {w : World} {B : Nat} {v : Value} {ms : List S41} (h : PRow w B v ms) : ∃ A c, v = .slice A ms.length c ∧ ms.length ≤ c ∧ Kd.C k41 w A ms.length ms := by
  rcases h.read E8 with ⟨rfl, rfl⟩ | ⟨g, cap, rfl, hB, hg, hn, hm, _, hr⟩
  · exact ⟨none, 0, rfl, Nat.le_refl _, rfl, by simp, fun h => absurd h (by simp)⟩
  · refine ⟨_, cap, rfl, hn, rfl, by unfold maxLen at hm; omega, fun _ => ⟨_, rfl, fun j p hj => ⟨pcl p, rfl, k41_mk w p, fun i u hu => ?_⟩⟩⟩
    have := hr j p hj i u hu
    rw [show (⟨g, 0, none⟩ : Addr).add (j * k41.sz + i) = ⟨g, j * 8 + i, none⟩ by
      show Addr.add ⟨g, 0, none⟩ (j * 8 + i) = _
      rw [Addr.add_lit, Nat.zero_add]]
    exact this
end Go.Proofs.Ytkgafogkeaaniaa.WlK
end
section
set_option linter.unusedVariables false
set_option linter.unusedSimpArgs false
namespace Go.Proofs.Ytkgafogkeaaniaa.PW
open Go.RowKit Go.Proofs.Ytkgafogkeaaniaa.Kit Go.Proofs.Ytkgafogkeaaniaa.Kit5 Go.Proofs.Ytkgafogkeaaniaa.WlC Go.Proofs.Ytkgafogkeaaniaa.WlD Go.Proofs.Ytkgafogkeaaniaa.WlK
open Go.Proofs.YtkgafogkeaaniaaW.PrintWords hiding below_then below_alloc below_drew
/-- Lay, with rounds enough. -/
def wrap_Lay.f (l : List S49) (fr tt co : Int) : Option (List S41 × Int) := layF (RwV.K0 + 4 + 96) 50 l fr tt co
theorem reps_from (w : World) (base : Nat) (ok : Nat → Prop) : ∀ (l acc : List S41), Reps (k41.M w base ok) 8 acc (gflat pcl acc) → Reps (k41.M w base ok) 8 (acc ++ l) (gflat pcl (acc ++ l))
  | [], acc, h => by simpa using h
  | x :: r, acc, h => by
    have := reps_from w base ok r (acc ++ [x]) (by
      rw [show gflat pcl (acc ++ [x]) = gflat pcl acc ++ pcl x by simp [gflat]]
      exact h.snoc (k41_mkM w base ok x) rfl)
    simpa using this
theorem reps_pcl (w : World) (base : Nat) (ok : Nat → Prop) (l : List S41) : Reps (k41.M w base ok) 8 l (gflat pcl l) := by
  have := reps_from w base ok l [] (Reps.none _ _)
  simpa using this
theorem prow_R {w : World} {B : Nat} {v : Value} {ms : List S41} (h : PRow w B v ms) : Kd.R k41 41 w B (fun _ => True) v ms :=
  ⟨fun _ _ => trivial, _, h, reps_pcl _ _ _ _⟩
theorem wrap_Lay.calls (A0 : Option Addr) (c0 : Nat) (l0 : List S49) (a1 a2 a3 : Int) (r1 : List S41) (r2 : Int) (w : World) (hr0 : Kd.C k49 w A0 l0.length l0) (hc0 : l0.length ≤ c0) (h : wrap_Lay.f l0 a1 a2 a3 = some (r1, r2)) :
    Calls Try.prog 11 #[.slice A0 l0.length c0, .int .i64 a1, .int .i64 a2, .int .i64 a3] w fun e w' => ∃ v0_ : Value, e = .returned (.tuple #[v0_, .int .i64 r2]) ∧ Kd.R k41 41 w' w.heap.size (fun _ => True) v0_ r1 ∧ Below w.heap.size w w' := by
  refine (LayC hr0 hc0 h).mono ?_
  rintro e w' ⟨v, rfl, hrow, hb⟩
  exact ⟨v, rfl, prow_R hrow, hb⟩
end Go.Proofs.Ytkgafogkeaaniaa.PW
end

/- Package slack, tenth text: the queue's contracts as laws use them; awake. No condition. -/
import Derived.Test.YtlmckindacnkoaaSlI
set_option linter.unusedVariables false
set_option linter.unusedSimpArgs false
namespace Go.Proofs.Ytlmckindacnkoaa.SlJ
open Go.RowKit Go.Proofs.Ytlmckindacnkoaa.Kit Go.Proofs.Ytlmckindacnkoaa.SlA Go.Proofs.Ytlmckindacnkoaa.SlB Go.Proofs.Ytlmckindacnkoaa.SlC Go.Proofs.Ytlmckindacnkoaa.SlD Go.Proofs.Ytlmckindacnkoaa.SlE Go.Proofs.Ytlmckindacnkoaa.SlF Go.Proofs.Ytlmckindacnkoaa.SlG Go.Proofs.Ytlmckindacnkoaa.SlH Go.Proofs.Ytlmckindacnkoaa.SlI
/-- Blocks of other types stay as they are. -/
def Fr (w w' : World) : Prop := ∀ (k : Nat) (cs : Array Value) (t : TypeId), w.heap[k]? = some (.cells cs t (0, 0)) → t ≠ 41 → t ≠ 51 → w'.heap[k]? = some (.cells cs t (0, 0))
theorem Fr.refl (w : World) : Fr w w := fun _ _ _ h _ _ => h
theorem Fr.trans {w w1 w2 : World} (h : Fr w w1) (k : Fr w1 w2) : Fr w w2 := fun b cs t e h1 h2 => k b cs t (h b cs t e h1 h2) h1 h2
theorem Fr.below {w w' : World} (h : Below w.heap.size w w') : Fr w w' := fun k cs t e _ _ => (h.block k (Array.getElem?_eq_some_iff.1 e).1).trans e
structure St (W w : World) (gq : Nat) (xs : List It) : Prop where
  below : Below W.heap.size W w
  q : ∃ v, Q w W.heap.size gq v xs
theorem Done.st {W w w' : World} {gq : Nat} {v : Value} {xs ys : List It} (hb : Below W.heap.size W w) (hq : Q w W.heap.size gq v xs) (h : Done w w' W.heap.size gq v ys) : St W w' gq ys ∧ Fr w w' := by
  obtain ⟨v', hq', hc, _⟩ := h
  refine ⟨⟨hb.trans (Chg.below hc (by have := hb.size; omega) ?_), v', hq'⟩, ?_⟩
  · rintro k (rfl | hk)
    · exact hq.base
    · exact Row.base hq.row k hk.symm
  · intro k cs t e h1 h2
    refine (hc.block k (Array.getElem?_eq_some_iff.1 e).1 ?_).trans e
    rintro (rfl | hk)
    · rw [hq.box] at e
      simp at e
      exact h2 e.2.symm
    · exact Row.ne hq.row e (fun h => h1 h.symm) hk.symm
theorem St.below' {W w w' : World} {gq : Nat} {xs : List It} (h : St W w gq xs) (hb : Below w.heap.size w w') : St W w' gq xs := by
  obtain ⟨h1, v, h2⟩ := h
  exact ⟨h1.trans (hb.mono h1.size), v, h2.below hb⟩
theorem St.start {W w : World} (hb : Below W.heap.size W w) : St W (w.alloc (.cells #[.slice none 0 0] 51)) w.heap.size [] :=
  ⟨hb.alloc hb.size _, .slice none 0 0, ⟨heap_alloc_new w _, ⟨rfl, .inl ⟨rfl, rfl⟩⟩, hb.size⟩⟩
theorem IRow.fr {w w' : World} {B : Nat} {v : Value} {xs : List Int} (h : IRow w B v xs) (hf : Fr w w') : IRow w' B v xs := by
  refine IRow.move h (fun k hk => ?_)
  obtain ⟨cells, hc⟩ := Go.Proofs.YtlmckindacnkoaaW.PrintWords.own_typed h k hk
  rw [hc]
  exact hf k cells _ hc (by decide) (by decide)
theorem IRow.shape {w : World} {B : Nat} {v : Value} {xs : List Int} (h : IRow w B v xs) : ∃ a cap, v = .slice a xs.length cap := by
  rcases h.read with ⟨rfl, rfl⟩ | ⟨g, cap, rfl, _⟩
  · exact ⟨none, 0, rfl⟩
  · exact ⟨_, cap, rfl⟩
theorem Row.shape {w : World} {B : Nat} {t : TypeId} {v : Value} {xs : List It} (h : Row w B t v xs) : ∃ a cap, v = .slice a xs.length cap := by
  rcases h.read with ⟨rfl, rfl⟩ | ⟨g, cap, rfl, _⟩
  · exact ⟨none, 0, rfl⟩
  · exact ⟨_, cap, rfl⟩
theorem IRow.get {w : World} {B n cap : Nat} {a : Option Addr} {xs : List Int} (h : IRow w B (.slice a n cap) xs) (hx : xs ≠ []) : ∃ g, a = some ⟨g, 0, none⟩ ∧ g < w.heap.size ∧ B ≤ g ∧ n = xs.length ∧ ∀ (j : Nat) (x : Int), xs[j]? = some x → w.cell? ⟨g, j, none⟩ = some (.int .i64 x) := by
  rcases h.read with ⟨_, rfl⟩ | ⟨g, cap, h0, h1, h2, _, _, h3⟩
  · exact absurd rfl hx
  · simp at h0
    exact ⟨g, h0.1, h2, h1, h0.2.1, h3⟩
theorem Put_st {W w : World} {gq : Nat} {xs : List It} (h : St W w gq xs) (hl : xs.length ≤ 1000) (id need : Int) (e : Int) (ys : List It) (he : putE xs id need = e) (hy : putL xs id need = ys) :
    Calls Try.prog 10 #[.pointer (some ⟨gq, 0, none⟩), .int .i64 id, .int .i64 need] w fun r w' => r = .returned (.int .i64 e) ∧ St W w' gq ys ∧ Fr w w' := by
  obtain ⟨hb, v, hq⟩ := h
  subst he hy
  exact (Put_at w W.heap.size gq v xs hq hl id need hb.size).mono fun r w' ⟨h1, h2⟩ => ⟨h1, (Done.st hb hq h2).1, (Done.st hb hq h2).2⟩
theorem Give_st {W w : World} {gq : Nat} {xs : List It} (h : St W w gq xs) (hl : xs.length ≤ 1000) (hp : ∀ x ∈ xs, 1 ≤ x.2 ∧ x.2 ≤ 1048576) (free : Int) (n : Nat) (os : List Int) (ys : List It) (hn : many free xs.length = n) (ho : over n xs = os) (hy : left (decr n xs) = ys) :
    Calls Try.prog 12 #[.pointer (some ⟨gq, 0, none⟩), .int .i64 free] w fun r w' => ∃ a cap, r = .returned (.tuple #[.int .i64 (n : Int), .slice a os.length cap]) ∧ IRow w' w.heap.size (.slice a os.length cap) os ∧ St W w' gq ys ∧ Fr w w' := by
  obtain ⟨hb, v, hq⟩ := h
  subst hn ho hy
  refine (Give_at w W.heap.size gq v xs free hq hl hp hb.size).mono fun r w' h2 => ?_
  obtain ⟨vo, h1, h2, h3⟩ := h2
  obtain ⟨a, cap, rfl⟩ := IRow.shape h2
  exact ⟨a, cap, h1, h2, (Done.st hb hq h3).1, (Done.st hb hq h3).2⟩
theorem List_st {W w : World} {gq : Nat} {xs : List It} (h : St W w gq xs) (hl : xs.length ≤ 1000) :
    Calls Try.prog 14 #[.pointer (some ⟨gq, 0, none⟩)] w fun r w' => ∃ a cap, r = .returned (.slice a xs.length cap) ∧ Row w' w.heap.size 41 (.slice a xs.length cap) xs ∧ St W w' gq xs ∧ Below w.heap.size w w' := by
  obtain ⟨hb, v, hq⟩ := h
  refine (List_at w W.heap.size gq v xs hq hl).mono fun r w' h2 => ?_
  obtain ⟨v', h1, h2, h3⟩ := h2
  obtain ⟨a, cap, rfl⟩ := Row.shape h2
  exact ⟨a, cap, h1, h2, St.below' ⟨hb, v, hq⟩ h3, h3⟩
theorem awake1 : putE [] 5 2 = 0 ∧ putL [] 5 2 = [(5, 2)] := by decide
theorem awake2 : over 1 [(5, 2)] = [] ∧ left (decr 1 [(5, 2)]) = [(5, 1)] ∧ over 1 [(5, 1)] = [5] ∧ left (decr 1 [(5, 1)]) = [] := by decide
set_option maxHeartbeats 8000000 in
set_option maxRecDepth 100000 in
theorem awake_at (w : World) : Calls Try.prog 8 #[] w fun r w' => r = .returned (.bool true) ∧ Below w.heap.size w w' := by
  have S0 := Side.mk (St.start (Below.refl w.heap.size w))
  have C0 := Side.mk (Put_st S0.out (by simp) 5 2 0 _ awake1.1 awake1.2)
  have A1 := Side.mk awake1
  have A2 := Side.mk awake2
  go_enter Try.func8, Try.ntmps8
  go_wp2_with fail
  refine (New_at _).mono ?_
  rintro e w1 ⟨rfl, rfl⟩
  go_wp2_with fail
  refine C0.out.mono ?_
  rintro e w2 ⟨rfl, S2, F2⟩
  have S2 := Side.mk S2
  clear F2 C0
  go_wp2_with fail
  refine (Give_st S2.out (by simp) (by simp) 3 1 [] _ rfl A2.out.1 A2.out.2.1).mono ?_
  rintro e w3 ⟨a, cap, rfl, I3, S3, F3⟩
  have S3 := Side.mk S3
  clear I3 F3
  go_wp2_with fail
  refine (Give_st S3.out (by simp) (by simp) 1 1 _ _ rfl A2.out.2.2.1 A2.out.2.2.2).mono ?_
  rintro e w4 ⟨a4, cap4, rfl, I4, S4, F4⟩
  obtain ⟨g4, rfl, hg4, -, -, hr⟩ := IRow.get I4 (by simp)
  have r0 := hr 0 5 rfl
  have S4 := Side.mk S4
  clear I4 F4 hr
  go_wp2_with fail
  refine (List_st S4.out (by simp)).mono ?_
  rintro e w5 ⟨a5, cap5, rfl, _, S5, _⟩
  have S5 := Side.mk S5
  go_wp2_with fail
  go_ret
  exact ⟨rfl, S5.out.below⟩
end Go.Proofs.Ytlmckindacnkoaa.SlJ

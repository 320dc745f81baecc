/- Package slack: plain words of SlackOnce. No condition. -/
import Derived.Test.YtlmckindacnkoaaSlO
set_option linter.unusedVariables false
set_option linter.unusedSimpArgs false
namespace Go.Proofs.Ytlmckindacnkoaa.SlP
open Go.RowKit Go.Proofs.Ytlmckindacnkoaa.Kit Go.Proofs.Ytlmckindacnkoaa.Kit2 Go.Proofs.Ytlmckindacnkoaa.SlA Go.Proofs.Ytlmckindacnkoaa.SlB Go.Proofs.Ytlmckindacnkoaa.SlC Go.Proofs.Ytlmckindacnkoaa.SlD Go.Proofs.Ytlmckindacnkoaa.SlE Go.Proofs.Ytlmckindacnkoaa.SlF Go.Proofs.Ytlmckindacnkoaa.SlG Go.Proofs.Ytlmckindacnkoaa.SlH Go.Proofs.Ytlmckindacnkoaa.SlI Go.Proofs.Ytlmckindacnkoaa.SlJ Go.Proofs.Ytlmckindacnkoaa.SlK Go.Proofs.Ytlmckindacnkoaa.SlL Go.Proofs.Ytlmckindacnkoaa.SlN Go.Proofs.Ytlmckindacnkoaa.SlO
def ids (xs : List It) : List Int := xs.map (fun x => x.1)
theorem ids_cons (x : It) (r : List It) : ids (x :: r) = x.1 :: ids r := rfl
/-- Each id once, from 0 to 7, and what is left 1 or 2. -/
structure Ones (xs : List It) : Prop where
  once : (ids xs).Nodup
  low : ∀ x ∈ xs, 0 ≤ x.1 ∧ x.1 < 8 ∧ 1 ≤ x.2 ∧ x.2 ≤ 2
def on (xs : List It) (k : Nat) : Bool := decide ((k : Int) ∈ ids xs)
theorem bound_nodup : ∀ (n : Nat) (l : List Int), l.Nodup → (∀ x ∈ l, 0 ≤ x ∧ x < (n : Int)) → l.length ≤ n := by
  intro n
  induction n with
  | zero =>
    intro l _ h
    cases l with
    | nil => simp
    | cons x r => have := h x (by simp); simp at this; omega
  | succ n ih =>
    intro l hn h
    by_cases hm : (n : Int) ∈ l
    · have h1 := ih (l.erase (n : Int)) (hn.erase _) (fun x hx => by
        have h2 := (hn.mem_erase_iff).1 hx
        have h3 := h x h2.2
        have h4 := h2.1
        push_cast at h3
        omega)
      rw [List.length_erase_of_mem hm] at h1
      omega
    · have h1 := ih l hn (fun x hx => by
        have h3 := h x hx
        have h4 : x ≠ (n : Int) := fun e => hm (e ▸ hx)
        push_cast at h3
        omega)
      omega
theorem Ones.len {xs : List It} (h : Ones xs) : xs.length ≤ 8 := by
  have := bound_nodup 8 (ids xs) h.once (fun x hx => by
    obtain ⟨y, hy, rfl⟩ := List.mem_map.1 hx
    have := h.low y hy
    exact ⟨this.1, this.2.1⟩)
  simpa [ids] using this
theorem over_sub (xs : List It) : ∀ nn, (over nn xs).Sublist (ids xs) := by
  induction xs with
  | nil => intro nn; rw [over_nil]; exact List.Sublist.refl _
  | cons x r ih =>
    intro nn
    cases nn with
    | zero => rw [over_zero]; exact List.nil_sublist _
    | succ s =>
      rw [over_cons, ids_cons]
      split
      · exact (ih s).cons_cons _
      · exact (ih s).cons _
theorem left_sub (xs : List It) : ∀ nn, (ids (left (decr nn xs))).Sublist (ids xs) := by
  induction xs with
  | nil => intro nn; rw [decr_nil]; exact List.Sublist.refl _
  | cons x r ih =>
    intro nn
    cases nn with
    | zero =>
      rw [decr_zero]
      exact List.Sublist.map _ List.filter_sublist
    | succ s =>
      rw [decr_cons, left_cons, ids_cons]
      split
      · exact (ih s).cons _
      · rw [ids_cons]; exact (ih s).cons_cons _
theorem Ones.give {xs : List It} (h : Ones xs) (nn : Nat) : Ones (left (decr nn xs)) := by
  refine ⟨h.once.sublist (left_sub xs nn), ?_⟩
  have hl := h.low
  clear h
  induction xs generalizing nn with
  | nil => rw [decr_nil]; intro x hx; simp [left] at hx
  | cons x r ih =>
    cases nn with
    | zero =>
      rw [decr_zero]
      intro y hy
      exact hl y (List.mem_filter.1 hy).1
    | succ s =>
      have h1 := hl x (by simp)
      rw [decr_cons, left_cons]
      intro y hy
      split at hy
      · exact ih s (fun z hz => hl z (by simp [hz])) y hy
      · rename_i h0
        rcases List.mem_cons.1 hy with rfl | hy
        · simp at h0 ⊢
          omega
        · exact ih s (fun z hz => hl z (by simp [hz])) y hy
theorem on_give {xs : List It} : ∀ (nn k : Nat), (ids xs).Nodup → (∀ x ∈ xs, 1 ≤ x.2) → on (left (decr nn xs)) k = (on xs k && !decide ((k : Int) ∈ over nn xs)) := by
  induction xs with
  | nil => intro nn k _ _; rw [decr_nil, over_nil]; simp [on, ids, left]
  | cons x r ih =>
    intro nn k h hl
    cases nn with
    | zero => rw [decr_zero, over_zero, left_all _ hl]; simp
    | succ s =>
      rw [ids_cons, List.nodup_cons] at h
      have hi := ih s k h.2 (fun y hy => hl y (by simp [hy]))
      have hx := hl x (by simp)
      rw [decr_cons, left_cons, over_cons]
      unfold on at hi ⊢
      by_cases h1 : x.2 = 1
      · rw [if_pos (by simp [h1]), if_pos (by simp [h1]), hi, ids_cons]
        by_cases hk : (k : Int) = x.1
        · have : ¬ (k : Int) ∈ ids r := by rw [hk]; exact h.1
          simp [hk, h.1]
        · simp [hk]
      · rw [if_neg (by simp; omega), if_neg (by simpa using h1), ids_cons, ids_cons]
        by_cases hk : (k : Int) = x.1
        · have : ¬ (k : Int) ∈ over s r := by rw [hk]; exact fun hm => h.1 ((over_sub r s).subset hm)
          simp only [List.mem_cons, hk, true_or, decide_true, Bool.true_and]
          rw [← hk]
          simp [this]
        · simp only [List.mem_cons, hk, false_or]
          exact hi
theorem Ones.put {xs : List It} (h : Ones xs) (k : Nat) (need : Int) (hk : k < 8) (h1 : 1 ≤ need) (h2 : need ≤ 2) (hn : on xs k = false) : Ones (xs ++ [((k : Int), need)]) := by
  have hn' : ¬ (k : Int) ∈ ids xs := by simpa [on] using hn
  refine ⟨?_, fun x hx => ?_⟩
  · unfold ids at hn' ⊢
    rw [List.map_append]
    rw [List.nodup_append]
    refine ⟨h.once, by simp, fun a ha b hb e => ?_⟩
    simp at hb
    subst e hb
    exact hn' ha
  · rcases List.mem_append.1 hx with hx | hx
    · exact h.low x hx
    · simp at hx
      subst hx
      simp; omega
theorem on_put (xs : List It) (k j : Nat) (need : Int) : on (xs ++ [((k : Int), need)]) j = (on xs j || decide (j = k)) := by
  have e : decide ((j : Int) = (k : Int)) = decide (j = k) := by
    rw [decide_eq_decide]; omega
  unfold on ids
  rw [List.map_append, ← e]
  simp only [List.map_cons, List.map_nil, List.mem_append, List.mem_singleton, Bool.decide_or]
theorem Ones.put_on {xs : List It} (h : Ones xs) (k : Nat) (need : Int) (h1 : 1 ≤ need) (h2 : need ≤ 2) (hn : on xs k = true) : putE xs k need = 4 ∧ putL xs k need = xs := by
  have hn' : (k : Int) ∈ ids xs := by simpa [on] using hn
  obtain ⟨x, hx, he⟩ := List.mem_map.1 hn'
  exact put_there h1 (by omega) x hx he
theorem Ones.put_off {xs : List It} (h : Ones xs) (k : Nat) (need : Int) (h1 : 1 ≤ need) (h2 : need ≤ 2) (hn : on xs k = false) : putE xs k need = 0 ∧ putL xs k need = xs ++ [((k : Int), need)] := by
  have hn' : ¬ (k : Int) ∈ ids xs := by simpa [on] using hn
  exact put_new h1 (by omega) (fun x hx he => hn' (he ▸ List.mem_map_of_mem hx)) (by have := h.len; omega)
/-- The array of bools. -/
def On (w : World) (go : Nat) (f : Nat → Bool) : Prop := ∃ cs, w.heap[go]? = some (.cells cs 47 (0, 0)) ∧ ∀ k, k < 8 → cs[k]? = some (.bool (f k))
theorem On.fr {w w' : World} {go : Nat} {f : Nat → Bool} (h : On w go f) (hf : Fr w w') : On w' go f := by
  obtain ⟨cs, h1, h2⟩ := h
  exact ⟨cs, hf go cs 47 h1 (by decide) (by decide), h2⟩
theorem On.cell {w : World} {go : Nat} {f : Nat → Bool} (h : On w go f) (k : Nat) (hk : k < 8) : w.cell? ⟨go, k, none⟩ = some (.bool (f k)) := by
  obtain ⟨cs, h1, h2⟩ := h
  rw [cell_of_row w go k cs 47 (0, 0) h1]
  exact h2 k hk
theorem On.free {w : World} {go : Nat} {f : Nat → Bool} (h : On w go f) (k : Nat) : w.frozen? ⟨go, k, none⟩ = false := by
  obtain ⟨cs, h1, h2⟩ := h
  exact Go.Proofs.YtlmckindacnkoaaW.PrintWords.blk_frozen h1 k
theorem On.lt {w : World} {go : Nat} {f : Nat → Bool} (h : On w go f) : go < w.heap.size := by
  obtain ⟨cs, h1, h2⟩ := h
  exact (Array.getElem?_eq_some_iff.1 h1).1
theorem On.set {w : World} {go : Nat} {f g : Nat → Bool} (h : On w go f) (k : Nat) (hk : k < 8) (b : Bool) (hg : ∀ j, j < 8 → g j = if j = k then b else f j) : On (w.setCell ⟨go, k, none⟩ (.bool b)) go g := by
  obtain ⟨cs, h1, h2⟩ := h
  refine ⟨_, blk_set h1 k (.bool b), fun j hj => ?_⟩
  rw [Array.getElem?_setIfInBounds, hg j hj]
  by_cases e : k = j
  · subst e
    have := (Array.getElem?_eq_some_iff.1 (h2 k hj)).1
    simp [this]
  · rw [if_neg e, if_neg (fun h => e h.symm)]
    exact h2 j hj
theorem On.congr {w : World} {go : Nat} {f g : Nat → Bool} (h : On w go f) (hg : ∀ j, j < 8 → g j = f j) : On w go g := by
  obtain ⟨cs, h1, h2⟩ := h
  exact ⟨cs, h1, fun j hj => by rw [hg j hj]; exact h2 j hj⟩
theorem On.ne {w : World} {go : Nat} {f : Nat → Bool} (h : On w go f) {k : Nat} {cs : Array Value} {t : TypeId} (hk : w.heap[k]? = some (.cells cs t (0, 0))) (ht : t ≠ 47) : k ≠ go := by
  obtain ⟨cs', h1, _⟩ := h
  rintro rfl
  rw [h1] at hk
  simp at hk
  exact ht hk.2.symm
theorem St.set {W w : World} {gq go : Nat} {xs : List It} {f : Nat → Bool} (h : St W w gq xs) (ho : On w go f) (hg : W.heap.size ≤ go) (k : Nat) (v : Value) : St W (w.setCell ⟨go, k, none⟩ v) gq xs := by
  obtain ⟨h1, u, h2⟩ := h
  refine ⟨Below.setCell h1 hg v, u, (blk_far _ (On.ne ho h2.box (by decide)) _).trans h2.box, Row.move h2.row (fun b hb => blk_far _ ?_ _), h2.base⟩
  obtain ⟨cells, hc⟩ := Go.Proofs.YtlmckindacnkoaaW.PrintWords.own_typed h2.row b hb
  exact On.ne ho hc (by decide)
theorem IRow.set {w : World} {B go : Nat} {u : Value} {xs : List Int} {f : Nat → Bool} (h : IRow w B u xs) (ho : On w go f) (k : Nat) (v : Value) : IRow (w.setCell ⟨go, k, none⟩ v) B u xs := by
  refine IRow.move h (fun b hb => blk_far _ ?_ _)
  obtain ⟨cells, hc⟩ := Go.Proofs.YtlmckindacnkoaaW.PrintWords.own_typed h b hb
  exact On.ne ho hc (by decide)
theorem on_take {os : List Int} (j k zn : Nat) (hz : os[j]? = some (zn : Int)) (p : Bool) : (p && !decide ((k : Int) ∈ os.take (j + 1))) = if k = zn then false else (p && !decide ((k : Int) ∈ os.take j)) := by
  obtain ⟨hl, hx⟩ := List.getElem?_eq_some_iff.1 hz
  rw [List.take_succ_eq_append_getElem hl, hx]
  by_cases e : k = zn
  · subst e; simp
  · have : ¬ (k : Int) = (zn : Int) := by omega
    simp [e, this]
theorem not_taken {os : List Int} (hn : os.Nodup) (j : Nat) (z : Int) (hz : os[j]? = some z) : ¬ z ∈ os.take j := by
  obtain ⟨hl, hx⟩ := List.getElem?_eq_some_iff.1 hz
  intro hm
  obtain ⟨i, hi, he⟩ := List.getElem_of_mem hm
  rw [List.length_take] at hi
  rw [List.getElem_take] at he
  exact (List.pairwise_iff_getElem.1 hn) i j (by omega) hl (by omega) (by rw [he, hx])
end Go.Proofs.Ytlmckindacnkoaa.SlP

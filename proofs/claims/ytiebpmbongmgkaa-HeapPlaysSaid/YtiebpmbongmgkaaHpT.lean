/- Package heap: deeds in a row of one's own; the scan of HeapPlays. No condition. -/
import Derived.Test.YtiebpmbongmgkaaHpS
import Derived.Test.YtiebpmbongmgkaaKit5
set_option linter.unusedVariables false
set_option linter.unusedSimpArgs false
namespace Go.Proofs.Ytiebpmbongmgkaa.HpT
open Go.RowKit Go.Proofs.Ytiebpmbongmgkaa.Kit Go.Proofs.Ytiebpmbongmgkaa.Kit2 Go.Proofs.Ytiebpmbongmgkaa.Kit3 Go.Proofs.Ytiebpmbongmgkaa.Kit4 Go.Proofs.Ytiebpmbongmgkaa.Kit5 HpPlain Go.Proofs.Ytiebpmbongmgkaa.HpK Go.Proofs.Ytiebpmbongmgkaa.HpO
abbrev De := Int × It
def dcl (x : De) : List Value := [.int .i64 x.1, .int .i64 x.2.1, .int .i64 x.2.2.1, .int .i64 x.2.2.2.1, .int .i64 x.2.2.2.2.1, .int .i64 x.2.2.2.2.2]
theorem E6 : El 6 dcl := ⟨by decide, fun _ => rfl, fun x v hv => by simp [dcl] at hv; rcases hv with rfl | rfl | rfl | rfl | rfl | rfl <;> rfl⟩
abbrev DRow := GRow 42 6 dcl
def its (ms : List De) : List It := ms.map (·.2)
theorem its_len (ms : List De) : (its ms).length = ms.length := by simp [its]
theorem its_at (ms : List De) (j : Nat) (x : De) (h : ms[j]? = some x) : at_ (its ms) j = x.2 := at_of (by unfold its; rw [List.getElem?_map, h]; rfl)
theorem DRow.fr {X : Nat → Prop} {w w' : World} {B : Nat} {v : Value} {ms : List De} (h : DRow w B v ms) (hf : Fr X w w') : DRow w' B v ms := by
  refine h.move fun j hj => ?_
  obtain ⟨cur, hc⟩ := h.cells j hj
  rw [hc]
  exact hf.block j _ hc (.inr ⟨_, _, rfl, by decide, by decide⟩)
/-! ### the scan -/
def atOf (s : Int) (l : List It) : Nat → Int
  | 0 => -1
  | j + 1 => if (at_ l j).1 = s then (j : Int) else atOf s l j
def tst (k : Int) (l : List It) (j : Nat) (b : Int) : Bool := decide (b < 0) || lt k (at_ l j) (at_ l b.toNat)
def bestOf (k : Int) (l : List It) : Nat → Int
  | 0 => -1
  | j + 1 => if tst k l j (bestOf k l j) = true then (j : Int) else bestOf k l j
theorem atOf_spec (s : Int) (l : List It) (n : Nat) : (atOf s l n = -1 ∧ ∀ j, j < n → (at_ l j).1 ≠ s) ∨ ∃ q : Nat, q < n ∧ atOf s l n = q ∧ (at_ l q).1 = s := by
  induction n with
  | zero => exact .inl ⟨rfl, fun j hj => absurd hj (by omega)⟩
  | succ n ih =>
    unfold atOf
    by_cases h : (at_ l n).1 = s
    · rw [if_pos h]; exact .inr ⟨n, by omega, rfl, h⟩
    · rw [if_neg h]
      rcases ih with ⟨h1, h2⟩ | ⟨q, hq, h1, h2⟩
      · refine .inl ⟨h1, fun j hj => ?_⟩
        by_cases e : j = n
        · rw [e]; exact h
        · exact h2 j (by omega)
      · exact .inr ⟨q, by omega, h1, h2⟩
theorem atOf_has (s : Int) (l : List It) : (atOf s l l.length = -1 ∧ hasS l s = false) ∨ ∃ q : Nat, q < l.length ∧ atOf s l l.length = q ∧ (at_ l q).1 = s ∧ hasS l s = true := by
  rcases atOf_spec s l l.length with ⟨h1, h2⟩ | ⟨q, hq, h1, h2⟩
  · refine .inl ⟨h1, ?_⟩
    cases hh : hasS l s
    · rfl
    · obtain ⟨x, hx, he⟩ := List.mem_map.1 (hasS_iff.1 hh)
      obtain ⟨j, hj⟩ := List.getElem?_of_mem hx
      exact absurd (by rw [at_of hj]; exact he) (h2 j (List.getElem?_eq_some_iff.1 hj).1)
  · exact .inr ⟨q, hq, h1, h2, hasS_iff.2 (List.mem_map.2 ⟨_, at_mem hq, h2⟩)⟩
theorem bestOf_spec (k : Int) (l : List It) (n : Nat) : (n = 0 ∧ bestOf k l n = -1) ∨ ∃ q : Nat, q < n ∧ bestOf k l n = q ∧ ∀ j, j < n → lt k (at_ l j) (at_ l q) = false := by
  induction n with
  | zero => exact .inl ⟨rfl, rfl⟩
  | succ n ih =>
    have ht : tst k l n (bestOf k l n) = (decide (bestOf k l n < 0) || lt k (at_ l n) (at_ l (bestOf k l n).toNat)) := rfl
    unfold bestOf
    generalize bestOf k l n = b at *
    rcases ih with ⟨rfl, rfl⟩ | ⟨q, hq, rfl, h2⟩
    · rw [if_pos (by rw [ht]; rfl)]
      refine .inr ⟨0, by omega, rfl, fun j hj => ?_⟩
      obtain rfl : j = 0 := by omega
      exact lt_self _ _
    · rw [Int.toNat_natCast, decide_eq_false (by omega), Bool.false_or] at ht
      cases hl : lt k (at_ l n) (at_ l q)
      · rw [if_neg (by rw [ht, hl]; decide)]
        refine .inr ⟨q, by omega, rfl, fun j hj => ?_⟩
        by_cases e : j = n
        · rw [e]; exact hl
        · exact h2 j (by omega)
      · rw [if_pos (by rw [ht]; exact hl)]
        refine .inr ⟨n, by omega, rfl, fun j hj => ?_⟩
        by_cases e : j = n
        · rw [e]; exact lt_self _ _
        · exact nlt_trans (lt_asymm hl) (h2 j (by omega))
theorem bestOf_first (k : Int) (l : List It) : (l = [] ∧ bestOf k l l.length = -1) ∨ ∃ q : Nat, q < l.length ∧ bestOf k l l.length = q ∧ First k l (at_ l q) := by
  rcases bestOf_spec k l l.length with ⟨h1, h2⟩ | ⟨q, hq, h1, h2⟩
  · exact .inl ⟨List.eq_nil_of_length_eq_zero h1, h2⟩
  · refine .inr ⟨q, hq, h1, at_mem hq, fun y hy => ?_⟩
    obtain ⟨j, hj⟩ := List.getElem?_of_mem hy
    rw [← at_of hj]
    exact h2 j (List.getElem?_eq_some_iff.1 hj).1
/-- What is left when the one at a place goes. -/
def rem (ms : List De) (out : Int) : List De := if out < 0 then ms else ms.take out.toNat ++ ms.drop (out.toNat + 1)
theorem rem_none (ms : List De) : rem ms (-1) = ms := rfl
theorem rem_some (ms : List De) (q : Nat) : rem ms (q : Int) = ms.take q ++ ms.drop (q + 1) := by unfold rem; rw [if_neg (by omega), Int.toNat_natCast]
theorem rem_drop {ms : List De} {q : Nat} (hn : (slots (its ms)).Nodup) (hq : q < ms.length) : its (rem ms (q : Int)) = drop (its ms) (at_ (its ms) q).1 := by
  obtain ⟨x, hx⟩ : ∃ x, ms[q]? = some x := ⟨ms[q], List.getElem?_eq_getElem hq⟩
  obtain ⟨hq', hxe⟩ := List.getElem?_eq_some_iff.1 hx
  have e : ms = ms.take q ++ x :: ms.drop (q + 1) := by
    conv => lhs; rw [← List.take_append_drop q ms]
    rw [List.drop_eq_getElem_cons hq', hxe]
  rw [rem_some, its_at ms q x hx]
  have e2 : its ms = its (ms.take q) ++ x.2 :: its (ms.drop (q + 1)) := by
    conv => lhs; rw [e]
    simp [its]
  have e3 : its (ms.take q ++ ms.drop (q + 1)) = its (ms.take q) ++ its (ms.drop (q + 1)) := by simp [its]
  rw [e3, e2]
  rw [e2] at hn
  unfold slots at hn
  rw [List.map_append, List.map_cons, List.nodup_append] at hn
  obtain ⟨h1, h2, h3⟩ := hn
  have h4 := List.nodup_cons.1 h2
  unfold drop
  rw [List.filter_append, List.filter_cons]
  have f1 : (its (ms.take q)).filter (fun y => !(y.1 == x.2.1)) = its (ms.take q) := List.filter_eq_self.2 fun y hy => by
    have := h3 y.1 (List.mem_map.2 ⟨y, hy, rfl⟩) x.2.1 (by simp)
    simpa using this
  have f2 : (its (ms.drop (q + 1))).filter (fun y => !(y.1 == x.2.1)) = its (ms.drop (q + 1)) := List.filter_eq_self.2 fun y hy => by
    have : y.1 ≠ x.2.1 := fun e => h4.1 (by rw [← e]; exact List.mem_map.2 ⟨y, hy, rfl⟩)
    simpa using this
  rw [f1, f2]
  simp
theorem its_set {ms : List De} {q : Nat} {x : It} (d : Int) (hn : (slots (its ms)).Nodup) (hq : q < ms.length) (he : (at_ (its ms) q).1 = x.1) : its (ms.set q (d, x)) = put (its ms) x := by
  rw [put_at hn (by rw [its_len]; exact hq) x he]
  unfold its
  rw [List.map_set]
theorem its_app {ms : List De} {x : It} (d : Int) (hh : hasS (its ms) x.1 = false) : its (ms ++ [(d, x)]) = put (its ms) x := by
  unfold put
  rw [if_neg (by rw [hh]; decide)]
  simp [its]
end Go.Proofs.Ytiebpmbongmgkaa.HpT

/- Package heap: items by slot that stand or not; the first of them by a scan; rows of one's own, cell by cell. No condition. -/
import Derived.Test.YtiebpmbongmgkaaHpO
set_option linter.unusedVariables false
set_option linter.unusedSimpArgs false
namespace Go.Proofs.Ytiebpmbongmgkaa.HpP
open Go.RowKit Go.Proofs.Ytiebpmbongmgkaa.Kit Go.Proofs.Ytiebpmbongmgkaa.Kit3 Go.Proofs.Ytiebpmbongmgkaa.Kit4 HpPlain Go.Proofs.Ytiebpmbongmgkaa.HpD Go.Proofs.Ytiebpmbongmgkaa.HpK Go.Proofs.Ytiebpmbongmgkaa.HpO
def upd {α : Type} (f : Nat → α) (k : Nat) (v : α) (j : Nat) : α := if j = k then v else f j
def item (L : Nat → Int) (id : Int) (j : Nat) : It := ((j : Int), L j, 0, 0, id)
def alive (L : Nat → Int) (id : Int) (n : Nat) (on : Nat → Bool) : List It := ((List.range n).filter on).map (item L id)
theorem alive_mem {L : Nat → Int} {id : Int} {n : Nat} {on : Nat → Bool} {x : It} : x ∈ alive L id n on ↔ ∃ j, j < n ∧ on j = true ∧ x = item L id j := by
  unfold alive
  rw [List.mem_map]
  constructor
  · rintro ⟨j, hj, rfl⟩
    obtain ⟨h1, h2⟩ := List.mem_filter.1 hj
    exact ⟨j, List.mem_range.1 h1, h2, rfl⟩
  · rintro ⟨j, h1, h2, rfl⟩
    exact ⟨j, List.mem_filter.2 ⟨List.mem_range.2 h1, h2⟩, rfl⟩
theorem item_inj {L L' : Nat → Int} {id id' : Int} {i j : Nat} (h : item L id i = item L' id' j) : i = j := by
  have := congrArg (·.1) h
  exact Int.ofNat.inj this
theorem nodup_of_slots {m : List It} (h : (slots m).Nodup) : m.Nodup := by
  unfold slots at h
  rw [List.Nodup, List.pairwise_map] at h
  exact h.imp (fun {a b} hab e => hab (by rw [e]))
theorem alive_slots (L : Nat → Int) (id : Int) (n : Nat) (on : Nat → Bool) : (slots (alive L id n on)).Nodup := by
  unfold slots alive
  rw [List.map_map, List.Nodup, List.pairwise_map]
  refine List.Pairwise.imp ?_ (List.Pairwise.filter on List.nodup_range)
  intro a b hab e
  exact hab (Int.ofNat.inj e)
theorem alive_len (L : Nat → Int) (id : Int) (n : Nat) (on : Nat → Bool) : (alive L id n on).length ≤ n := by
  unfold alive
  rw [List.length_map]
  exact Nat.le_trans (List.length_filter_le _ _) (by simp)
theorem alive_has (L : Nat → Int) (id : Int) (n : Nat) (on : Nat → Bool) (k : Nat) (hk : k < n) : hasS (alive L id n on) k = on k := by
  rw [Bool.eq_iff_iff, hasS_iff]
  constructor
  · intro h
    obtain ⟨x, hx, he⟩ := List.mem_map.1 h
    obtain ⟨j, h1, h2, rfl⟩ := alive_mem.1 hx
    have : j = k := Int.ofNat.inj he
    rw [← this]; exact h2
  · intro h
    exact List.mem_map.2 ⟨_, alive_mem.2 ⟨k, hk, h, rfl⟩, rfl⟩
theorem alive_drop (L : Nat → Int) (id : Int) (n : Nat) (on : Nat → Bool) (k : Nat) : (drop (alive L id n on) k).Perm (alive L id n (upd on k false)) := by
  refine (List.perm_ext_iff_of_nodup (nodup_of_slots (nodup_drop (alive_slots L id n on) k)) (nodup_of_slots (alive_slots _ _ _ _))).2 fun x => ?_
  constructor
  · intro h
    obtain ⟨h1, h2⟩ := drop_sub h
    obtain ⟨j, j1, j2, rfl⟩ := alive_mem.1 h1
    have hjk : ¬ j = k := fun e => h2 (by rw [e]; rfl)
    exact alive_mem.2 ⟨j, j1, by unfold upd; rw [if_neg hjk]; exact j2, rfl⟩
  · intro h
    obtain ⟨j, j1, j2, rfl⟩ := alive_mem.1 h
    have hjk : ¬ j = k := fun e => by unfold upd at j2; rw [if_pos e] at j2; cases j2
    unfold upd at j2
    rw [if_neg hjk] at j2
    refine List.mem_filter.2 ⟨alive_mem.2 ⟨j, j1, j2, rfl⟩, ?_⟩
    have : ((item L id j).1 == (k : Int)) = false := by simp [item]; omega
    rw [this]; rfl
theorem alive_off (L : Nat → Int) (id : Int) (n : Nat) (on : Nat → Bool) (k : Nat) (h : on k = false) : alive L id n (upd on k false) = alive L id n on := by
  unfold alive
  congr 1
  apply List.filter_congr
  intro j _
  unfold upd
  split
  · rename_i e; rw [e, h]
  · rfl
theorem alive_put (L : Nat → Int) (id d : Int) (n : Nat) (on : Nat → Bool) (k : Nat) (hk : k < n) : (put (alive L id n on) ((k : Int), d, 0, 0, id)).Perm (alive (upd L k d) id n (upd on k true)) := by
  refine (List.perm_ext_iff_of_nodup (nodup_of_slots (nodup_put (alive_slots L id n on) _)) (nodup_of_slots (alive_slots _ _ _ _))).2 fun x => ?_
  have hh := alive_has L id n on k hk
  have e1 : item (upd L k d) id k = ((k : Int), d, 0, 0, id) := by unfold item upd; rw [if_pos rfl]
  have e2 : ∀ j, j ≠ k → item (upd L k d) id j = item L id j := fun j hj => by unfold item upd; rw [if_neg hj]
  have hr : x ∈ alive (upd L k d) id n (upd on k true) ↔ (x = ((k : Int), d, 0, 0, id) ∨ ∃ j, j < n ∧ j ≠ k ∧ on j = true ∧ x = item L id j) := by
    rw [alive_mem]
    constructor
    · rintro ⟨j, j1, j2, rfl⟩
      by_cases hj : j = k
      · subst hj; exact .inl e1
      · unfold upd at j2
        rw [if_neg hj] at j2
        exact .inr ⟨j, j1, hj, j2, e2 j hj⟩
    · rintro (rfl | ⟨j, j1, j2, j3, rfl⟩)
      · exact ⟨k, hk, by unfold upd; rw [if_pos rfl], e1.symm⟩
      · exact ⟨j, j1, by unfold upd; rw [if_neg j2]; exact j3, (e2 j j2).symm⟩
  rw [hr]
  unfold put
  rw [hh]
  split
  · rw [List.mem_map]
    constructor
    · rintro ⟨y, hy, rfl⟩
      obtain ⟨j, j1, j2, rfl⟩ := alive_mem.1 hy
      by_cases hj : j = k
      · subst hj; rw [if_pos (by rfl)]; exact .inl rfl
      · rw [if_neg (by simp [item]; omega)]
        exact .inr ⟨j, j1, hj, j2, rfl⟩
    · rintro (rfl | ⟨j, j1, j2, j3, rfl⟩)
      · exact ⟨item L id k, alive_mem.2 ⟨k, hk, by assumption, rfl⟩, by rw [if_pos (by rfl)]⟩
      · exact ⟨item L id j, alive_mem.2 ⟨j, j1, j3, rfl⟩, by rw [if_neg (by simp [item]; omega)]⟩
  · rename_i hno
    rw [List.mem_append, List.mem_singleton, alive_mem]
    constructor
    · rintro (⟨j, j1, j2, rfl⟩ | rfl)
      · exact .inr ⟨j, j1, fun e => hno (by rw [← e]; exact j2), j2, rfl⟩
      · exact .inl rfl
    · rintro (rfl | ⟨j, j1, j2, j3, rfl⟩)
      · exact .inr rfl
      · exact .inl ⟨j, j1, j3, rfl⟩
/-- The scan: the first of the least. -/
def tst (on : Nat → Bool) (L : Nat → Int) (i : Nat) (b : Int) : Bool := on i && (decide (b < 0) || decide (L i < L b.toNat))
def best (on : Nat → Bool) (L : Nat → Int) : Nat → Int
  | 0 => -1
  | i + 1 => if tst on L i (best on L i) = true then (i : Int) else best on L i
theorem best_spec (on : Nat → Bool) (L : Nat → Int) (i : Nat) : (best on L i = -1 ∧ ∀ j, j < i → on j = false) ∨ ∃ q : Nat, q < i ∧ best on L i = q ∧ on q = true ∧ ∀ j, j < i → on j = true → L q < L j ∨ (L q = L j ∧ q ≤ j) := by
  induction i with
  | zero => exact .inl ⟨rfl, fun j hj => absurd hj (by omega)⟩
  | succ i ih =>
    have ht : tst on L i (best on L i) = (on i && (decide (best on L i < 0) || decide (L i < L (best on L i).toNat))) := rfl
    unfold best
    generalize best on L i = b at *
    rcases ih with ⟨rfl, h1⟩ | ⟨q, hq, rfl, h2, h3⟩
    · cases hi : on i
      · rw [if_neg (by rw [ht, hi, Bool.false_and]; decide)]
        exact .inl ⟨rfl, fun j hj => by
          by_cases e : j = i
          · rw [e]; exact hi
          · exact h1 j (by omega)⟩
      · rw [if_pos (by rw [ht, hi, Bool.true_and]; rfl)]
        exact .inr ⟨i, by omega, rfl, hi, fun j hj hjo => by
          by_cases e : j = i
          · subst e; exact .inr ⟨rfl, Nat.le_refl _⟩
          · rw [h1 j (by omega)] at hjo; cases hjo⟩
    · rw [Int.toNat_natCast] at ht
      cases hi : on i
      · rw [if_neg (by rw [ht, hi, Bool.false_and]; decide)]
        exact .inr ⟨q, by omega, rfl, h2, fun j hj hjo => by
          by_cases e : j = i
          · subst e; rw [hi] at hjo; cases hjo
          · exact h3 j (by omega) hjo⟩
      · by_cases hl : L i < L q
        · rw [if_pos (by rw [ht, hi, decide_eq_true hl, Bool.or_true]; rfl)]
          exact .inr ⟨i, by omega, rfl, hi, fun j hj hjo => by
            by_cases e : j = i
            · subst e; exact .inr ⟨rfl, Nat.le_refl _⟩
            · rcases h3 j (by omega) hjo with h | h <;> omega⟩
        · rw [if_neg (by rw [ht, hi, decide_eq_false hl, decide_eq_false (by omega)]; decide)]
          exact .inr ⟨q, by omega, rfl, h2, fun j hj hjo => by
            by_cases e : j = i
            · subst e; omega
            · exact h3 j (by omega) hjo⟩
theorem item_lt (L : Nat → Int) (id : Int) (i j : Nat) : lt 2 (item L id i) (item L id j) = true ↔ L i < L j ∨ (L i = L j ∧ i < j) := by
  rw [lt_iff]
  unfold key item
  rw [if_pos rfl, if_pos rfl]
  simp only [klt, Int.lt_irrefl, false_or, true_and]
  omega
/-- Who the scan finds is first. -/
theorem best_tops (L : Nat → Int) (id : Int) (n : Nat) (on : Nat → Bool) : (best on L n = -1 ∧ alive L id n on = []) ∨ ∃ q : Nat, q < n ∧ best on L n = q ∧ on q = true ∧ First 2 (alive L id n on) (item L id q) := by
  rcases best_spec on L n with ⟨h1, h2⟩ | ⟨q, hq, h1, h2, h3⟩
  · refine .inl ⟨h1, List.eq_nil_iff_forall_not_mem.2 fun x hx => ?_⟩
    obtain ⟨j, j1, j2, _⟩ := alive_mem.1 hx
    rw [h2 j j1] at j2
    cases j2
  · refine .inr ⟨q, hq, h1, h2, alive_mem.2 ⟨q, hq, h2, rfl⟩, fun y hy => ?_⟩
    obtain ⟨j, j1, j2, rfl⟩ := alive_mem.1 hy
    cases hl : lt 2 (item L id j) (item L id q)
    · rfl
    · have := (item_lt L id j q).1 hl
      rcases h3 j j1 j2 with h | h <;> omega
theorem St.perm {W w : World} {Y : Nat → Prop} {gh : Nat} {kind : Int} {m m' : List It} (h : St W w Y gh kind m) (hp : m.Perm m') : St W w Y gh kind m' := by
  obtain ⟨v, bm, l, h1, h2, h3, h4⟩ := h.h
  exact ⟨h.below, h.xlt, v, bm, l, h1, h2, h3.trans hp, h4⟩
/-! ### cells of one's own -/
def fl (n : Nat) (f : Nat → Value) : List Value := (List.range n).map f
theorem fl_at {n i : Nat} (f : Nat → Value) (h : i < n) : (fl n f)[i]? = some (f i) := by simp [fl, h]
theorem fl_len (n : Nat) (f : Nat → Value) : (fl n f).length = n := by simp [fl]
theorem fl_set (n i : Nat) (f : Nat → Value) (v : Value) : (fl n f).set i v = fl n (upd f i v) := by
  apply List.ext_getElem?
  intro j
  rw [List.getElem?_set, fl_len]
  by_cases hj : j < n
  · rw [fl_at _ hj, fl_at _ hj]
    unfold upd
    by_cases e : i = j
    · subst e; rw [if_pos rfl, if_pos hj, if_pos rfl]
    · rw [if_neg e, if_neg (fun h => e h.symm)]
  · have e1 : (fl n f)[j]? = none := List.getElem?_eq_none (by rw [fl_len]; omega)
    have e2 : (fl n (upd f i v))[j]? = none := List.getElem?_eq_none (by rw [fl_len]; omega)
    rw [e1, e2]
    by_cases e : i = j
    · subst e; rw [if_pos rfl, if_neg hj]
    · rw [if_neg e]
theorem fl_congr {n : Nat} {f g : Nat → Value} (h : ∀ i, i < n → f i = g i) : fl n f = fl n g := by
  unfold fl
  exact List.map_congr_left fun i hi => h i (List.mem_range.1 hi)
theorem Val.set {w : World} {T p : Nat} {c : List Value} (h : Val w T p c) (i : Nat) (v : Value) : Val (w.setCell ⟨p, i, none⟩ v) T p (c.set i v) := by
  obtain ⟨cs, rfl, h2⟩ := h
  exact ⟨cs.setIfInBounds i v, by simp, blk_set h2 i v⟩
theorem Val.fr {X : Nat → Prop} {w w' : World} {T p : Nat} {c : List Value} (h : Val w T p c) (hf : Fr X w w') (h1 : T ≠ 56) (h2 : T ≠ 53) : Val w' T p c := by
  obtain ⟨cs, hc, hh⟩ := h
  exact ⟨cs, hc, hf.block p _ hh (.inr ⟨_, _, rfl, h1, h2⟩)⟩
theorem Val.froz {w : World} {T p : Nat} {c : List Value} (h : Val w T p c) (o : Nat) : w.frozen? ⟨p, o, none⟩ = false := by
  obtain ⟨cs, _, hh⟩ := h
  exact Go.Proofs.YtiebpmbongmgkaaW.PrintWords.blk_frozen hh o
/-- A cell of a block of one's own is written: the heap stands. -/
theorem St.setCell {W w : World} {Y : Nat → Prop} {gh T p : Nat} {kind : Int} {m : List It} {c : List Value} (h : St W w Y gh kind m) (hv : Val w T p c) (hp : W.heap.size ≤ p) (h1 : T ≠ 56) (h2 : T ≠ 53) (i : Nat) (v : Value) : St W (w.setCell ⟨p, i, none⟩ v) Y gh kind m := by
  refine h.chg (Chg.set w p i v) (by rintro q rfl; exact hp) ?_ (by rintro q rfl; exact hv.lt)
  rintro q o ho rfl
  obtain ⟨cs, _, hh⟩ := hv
  rw [hh] at ho
  exact .inr ⟨_, _, (Option.some.inj ho).symm, h1, h2⟩
end Go.Proofs.Ytiebpmbongmgkaa.HpP

/- Package pick, plain: who can, who is how urgent, who is chosen. No program in sight. -/
import Derived.Test.YticcgmlgiijjnaaHpPlain
import Derived.Test.YticcgmlgiijjnaaWinPlain
import Derived.Test.YticcgmlgiijjnaaRankC
import Derived.Test.YticcgmlgiijjnaaRankL
set_option linter.unusedVariables false
namespace Go.Proofs.Yticcgmlgiijjnaa.PkPlain
open HpPlain EvPlain Go.Proofs.Yticcgmlgiijjnaa.Rank Go.Proofs.Yticcgmlgiijjnaa.Cmp
/-- A task as a row has it. -/
structure Tk where
  id : Int
  e : Int
  p : Int
  s : Bool
  l : Bool
  wt : Bool
  a : Bool
  r : Int
  g : Int
  d : Bool
  c : Int
def nx (t : Tk) : Prop := t.a = true ∧ t.g < t.e ∧ T t.e t.p (t.g + 1)
instance (e p i : Int) : Decidable (T e p i) := decidable_of_iff ((1 ≤ e ∧ e ≤ p ∧ p ≤ 1048575) ∧ 1 ≤ i ∧ i ≤ e) ⟨fun ⟨⟨a, b, c⟩, d, e⟩ => ⟨a, b, c, d, e⟩, fun h => ⟨⟨h.e1, h.ep, h.pm⟩, h.i1, h.ie⟩⟩
instance (t : Tk) : Decidable (nx t) := by unfold nx; infer_instance
def can (t : Tk) (c : Int) (y : Bool) : Bool := decide (nx t) && (decide (t.r ≤ c) && (y || decide (t.r + rel t.e t.p (t.g + 1) ≤ c)))
def rk (t : Tk) : R := if nx t then ofq t.e t.p (t.g + 1) t.r t.id else ⟨0, 0, 0, t.id⟩
theorem rk_i (t : Tk) : (rk t).i = t.id := by
  unfold rk
  split
  · unfold ofq; split <;> rfl
  · rfl
def itm (f : Nat → Tk) (j : Nat) : It := ((j : Int), (rk (f j)).d, (rk (f j)).b, (rk (f j)).g, (rk (f j)).i)
def upd {α : Type} (f : Nat → α) (k : Nat) (v : α) (j : Nat) : α := if j = k then v else f j
def alv (f : Nat → Tk) (n : Nat) (on : Nat → Bool) : List It := ((List.range n).filter on).map (itm f)
theorem alv_mem {f : Nat → Tk} {n : Nat} {on : Nat → Bool} {x : It} : x ∈ alv f n on ↔ ∃ j, j < n ∧ on j = true ∧ x = itm f j := by
  unfold alv
  rw [List.mem_map]
  constructor
  · rintro ⟨j, hj, rfl⟩
    obtain ⟨h1, h2⟩ := List.mem_filter.1 hj
    exact ⟨j, List.mem_range.1 h1, h2, rfl⟩
  · rintro ⟨j, h1, h2, rfl⟩
    exact ⟨j, List.mem_filter.2 ⟨List.mem_range.2 h1, h2⟩, rfl⟩
theorem alv_slots (f : Nat → Tk) (n : Nat) (on : Nat → Bool) : (slots (alv f n on)).Nodup := by
  unfold slots alv
  rw [List.map_map, List.Nodup, List.pairwise_map]
  refine List.Pairwise.imp ?_ (List.Pairwise.filter on List.nodup_range)
  intro a b hab e
  exact hab (Int.ofNat.inj e)
theorem nodup_of_slots {m : List It} (h : (slots m).Nodup) : m.Nodup := by
  unfold slots at h
  rw [List.Nodup, List.pairwise_map] at h
  exact h.imp (fun {a b} hab e => hab (by rw [e]))
theorem drop_sub {m : List It} {s : Int} {y : It} (h : y ∈ drop m s) : y ∈ m ∧ y.1 ≠ s := by
  have := List.mem_filter.1 h
  exact ⟨this.1, by simpa using this.2⟩
theorem alv_len (f : Nat → Tk) (n : Nat) (on : Nat → Bool) : (alv f n on).length ≤ n := by
  unfold alv
  rw [List.length_map]
  exact Nat.le_trans (List.length_filter_le _ _) (by simp)
theorem alv_drop (f : Nat → Tk) (n : Nat) (on : Nat → Bool) (k : Nat) : (drop (alv f n on) k).Perm (alv f n (upd on k false)) := by
  refine (List.perm_ext_iff_of_nodup (nodup_of_slots (nodup_drop (alv_slots f n on) k)) (nodup_of_slots (alv_slots _ _ _))).2 fun x => ?_
  constructor
  · intro h
    obtain ⟨h1, h2⟩ := drop_sub h
    obtain ⟨j, j1, j2, rfl⟩ := alv_mem.1 h1
    have hjk : ¬ j = k := fun e => h2 (by rw [e]; rfl)
    exact alv_mem.2 ⟨j, j1, by unfold upd; rw [if_neg hjk]; exact j2, rfl⟩
  · intro h
    obtain ⟨j, j1, j2, rfl⟩ := alv_mem.1 h
    have hjk : ¬ j = k := fun e => by unfold upd at j2; rw [if_pos e] at j2; cases j2
    unfold upd at j2
    rw [if_neg hjk] at j2
    refine List.mem_filter.2 ⟨alv_mem.2 ⟨j, j1, j2, rfl⟩, ?_⟩
    have : ((itm f j).1 == (k : Int)) = false := by simp [itm]; omega
    rw [this]; rfl
theorem alv_dlen (f : Nat → Tk) (n : Nat) (on : Nat → Bool) (k : Nat) (hk : k < n) (ho : on k = true) : (alv f n (upd on k false)).length + 1 = (alv f n on).length := by
  have h1 : (alv f n (upd on k false)).length = ((List.range n).filter (upd on k false)).length := by unfold alv; rw [List.length_map]
  have h2 : (alv f n on).length = ((List.range n).filter on).length := by unfold alv; rw [List.length_map]
  rw [h1, h2]
  clear h1 h2
  induction n with
  | zero => omega
  | succ n ih =>
    rw [List.range_succ, List.filter_append, List.filter_append, List.length_append, List.length_append]
    by_cases e : k = n
    · subst e
      have h3 : (List.range k).filter (upd on k false) = (List.range k).filter on := by
        apply List.filter_congr
        intro j hj
        have := List.mem_range.1 hj
        unfold upd
        rw [if_neg (by omega)]
      rw [h3]
      have h4 : upd on k false k = false := by unfold upd; rw [if_pos rfl]
      simp [h4, ho]
    · have := ih (by omega)
      have h4 : upd on k false n = on n := by unfold upd; rw [if_neg (by omega)]
      simp only [List.filter_cons, List.filter_nil, h4]
      omega
theorem alv_put (f : Nat → Tk) (n : Nat) (on : Nat → Bool) (h : on n = true) : put (alv f n on) (itm f n) = alv f (n + 1) on := by
  have hh : hasS (alv f n on) (itm f n).1 = false := by
    cases h : hasS (alv f n on) (itm f n).1
    · rfl
    · obtain ⟨x, hx, he⟩ := List.mem_map.1 (hasS_iff.1 h)
      obtain ⟨j, hj, _, rfl⟩ := alv_mem.1 hx
      simp [itm] at he
      omega
  unfold put
  rw [if_neg (by rw [hh]; decide)]
  unfold alv
  rw [List.range_succ, List.filter_append, List.map_append]
  simp [h]
theorem alv_skip (f : Nat → Tk) (n : Nat) (on : Nat → Bool) (h : on n = false) : alv f (n + 1) on = alv f n on := by
  unfold alv
  rw [List.range_succ, List.filter_append, List.map_append]
  simp [h]
/-! ### the scan -/
def tst (on : Nat → Bool) (f : Nat → Tk) (i : Nat) (b : Int) : Bool := on i && (decide (b < 0) || rless (rk (f i)) (rk (f b.toNat)))
def bst (on : Nat → Bool) (f : Nat → Tk) : Nat → Int
  | 0 => -1
  | i + 1 => if tst on f i (bst on f i) = true then (i : Int) else bst on f i
theorem rless_iff (x y : R) : rless x y = true ↔ x.d < y.d ∨ (x.d = y.d ∧ (y.b < x.b ∨ (x.b = y.b ∧ ((x.b = 1 ∧ y.g < x.g) ∨ ((¬ x.b = 1 ∨ x.g = y.g) ∧ x.i < y.i))))) := by
  unfold rless
  split
  · rw [decide_eq_true_eq]; omega
  · split
    · rw [decide_eq_true_eq]; omega
    · split
      · rw [decide_eq_true_eq]; omega
      · rw [decide_eq_true_eq]; omega
theorem rless_no (x y : R) : rless x y = false ↔ ¬ (x.d < y.d ∨ (x.d = y.d ∧ (y.b < x.b ∨ (x.b = y.b ∧ ((x.b = 1 ∧ y.g < x.g) ∨ ((¬ x.b = 1 ∨ x.g = y.g) ∧ x.i < y.i)))))) := by
  rw [← rless_iff]; simp
theorem lt_itm (f : Nat → Tk) (i j : Nat) : lt 1 (itm f i) (itm f j) = true ↔ rless (rk (f i)) (rk (f j)) = true ∨ (rless (rk (f j)) (rk (f i)) = false ∧ i < j) := by
  rw [rless_iff, rless_no]
  unfold lt key itm
  generalize rk (f i) = x
  generalize rk (f j) = y
  obtain ⟨d, b, g, k⟩ := x
  obtain ⟨d', b', g', k'⟩ := y
  simp only [show ¬ (1 : Int) = 2 by decide, if_false, decide_eq_true_eq, klt]
  have hu : ∃ u, u = (if b = 1 then -g else 0) ∧ ((b = 1 ∧ u = -g) ∨ (¬ b = 1 ∧ u = 0)) := ⟨_, rfl, by split <;> omega⟩
  have hv : ∃ u, u = (if b' = 1 then -g' else 0) ∧ ((b' = 1 ∧ u = -g') ∨ (¬ b' = 1 ∧ u = 0)) := ⟨_, rfl, by split <;> omega⟩
  obtain ⟨u, hu, hu'⟩ := hu
  obtain ⟨v, hv, hv'⟩ := hv
  rw [← hu, ← hv]
  clear hu hv
  omega
theorem bst_spec (on : Nat → Bool) (f : Nat → Tk) (i : Nat) : (bst on f i = -1 ∧ ∀ j, j < i → on j = false) ∨ ∃ q : Nat, q < i ∧ bst on f i = q ∧ on q = true ∧ ∀ j, j < i → on j = true → lt 1 (itm f j) (itm f q) = false := by
  induction i with
  | zero => exact .inl ⟨rfl, fun j hj => absurd hj (by omega)⟩
  | succ i ih =>
    have ht : tst on f i (bst on f i) = (on i && (decide (bst on f i < 0) || rless (rk (f i)) (rk (f (bst on f i).toNat)))) := rfl
    unfold bst
    generalize bst on f i = b at *
    rcases ih with ⟨rfl, h1⟩ | ⟨q, hq, rfl, h2, h3⟩
    · cases hi : on i
      · rw [if_neg (by rw [ht, hi, Bool.false_and]; decide)]
        exact .inl ⟨rfl, fun j hj => by
          by_cases e : j = i
          · rw [e]; exact hi
          · exact h1 j (by omega)⟩
      · rw [if_pos (by rw [ht, hi, Bool.true_and]; rfl)]
        exact .inr ⟨i, by omega, rfl, hi, fun j hj hjo => by
          by_cases e : j = i
          · subst e; exact lt_self _ _
          · rw [h1 j (by omega)] at hjo; cases hjo⟩
    · rw [Int.toNat_natCast, decide_eq_false (by omega), Bool.false_or] at ht
      cases hi : on i
      · rw [if_neg (by rw [ht, hi, Bool.false_and]; decide)]
        exact .inr ⟨q, by omega, rfl, h2, fun j hj hjo => by
          by_cases e : j = i
          · subst e; rw [hi] at hjo; cases hjo
          · exact h3 j (by omega) hjo⟩
      · cases hl : rless (rk (f i)) (rk (f q))
        · rw [if_neg (by rw [ht, hi, hl]; decide)]
          exact .inr ⟨q, by omega, rfl, h2, fun j hj hjo => by
            by_cases e : j = i
            · subst e
              cases hll : lt 1 (itm f j) (itm f q)
              · rfl
              · rcases (lt_itm f j q).1 hll with h | ⟨_, h⟩
                · rw [hl] at h; cases h
                · omega
            · exact h3 j (by omega) hjo⟩
        · rw [if_pos (by rw [ht, hi, hl]; rfl)]
          have hlq : lt 1 (itm f i) (itm f q) = true := (lt_itm f i q).2 (.inl hl)
          exact .inr ⟨i, by omega, rfl, hi, fun j hj hjo => by
            by_cases e : j = i
            · subst e; exact lt_self _ _
            · exact nlt_of hlq (h3 j (by omega) hjo)⟩
/-- Who the scan finds is first. -/
theorem bst_tops (f : Nat → Tk) (n : Nat) (on : Nat → Bool) : (bst on f n = -1 ∧ alv f n on = []) ∨ ∃ q : Nat, q < n ∧ bst on f n = q ∧ on q = true ∧ First 1 (alv f n on) (itm f q) := by
  rcases bst_spec on f n with ⟨h1, h2⟩ | ⟨q, hq, h1, h2, h3⟩
  · refine .inl ⟨h1, List.eq_nil_iff_forall_not_mem.2 fun x hx => ?_⟩
    obtain ⟨j, j1, j2, _⟩ := alv_mem.1 hx
    rw [h2 j j1] at j2
    cases j2
  · refine .inr ⟨q, hq, h1, h2, alv_mem.2 ⟨q, hq, h2, rfl⟩, fun y hy => ?_⟩
    obtain ⟨j, j1, j2, rfl⟩ := alv_mem.1 hy
    exact h3 j j1 j2
/-! ### who is chosen -/
def picks (f : Nat → Tk) (n : Nat) : Nat → (Nat → Bool) → List Nat
  | 0, _ => []
  | k + 1, on => if bst on f n < 0 then [] else (bst on f n).toNat :: picks f n k (upd on (bst on f n).toNat false)
theorem picks_lt {f : Nat → Tk} {n : Nat} (k : Nat) (on : Nat → Bool) : ∀ q ∈ picks f n k on, q < n := by
  induction k generalizing on with
  | zero => intro q hq; cases hq
  | succ k ih =>
    intro q hq
    unfold picks at hq
    rcases bst_tops f n on with ⟨h1, _⟩ | ⟨r, hr, h1, _⟩
    · rw [h1, if_pos (by decide)] at hq; cases hq
    · rw [h1, if_neg (by omega), Int.toNat_natCast] at hq
      rcases List.mem_cons.1 hq with rfl | hq
      · exact hr
      · exact ih _ q hq
theorem picks_none {f : Nat → Tk} {n : Nat} {on : Nat → Bool} (h : bst on f n = -1) (k : Nat) : picks f n k on = [] := by
  cases k with
  | zero => rfl
  | succ k => unfold picks; rw [h, if_pos (by decide)]
theorem picks_some {f : Nat → Tk} {n : Nat} {on : Nat → Bool} {q : Nat} (h : bst on f n = q) (k : Nat) : picks f n (k + 1) on = q :: picks f n k (upd on q false) := by
  conv => lhs; unfold picks
  rw [h, if_neg (by omega), Int.toNat_natCast]
theorem picks_len (f : Nat → Tk) (n : Nat) (k : Nat) (on : Nat → Bool) : (picks f n k on).length = min k (alv f n on).length := by
  induction k generalizing on with
  | zero => simp [picks]
  | succ k ih =>
    rcases bst_tops f n on with ⟨h1, h2⟩ | ⟨r, hr, h1, h2, _⟩
    · rw [picks_none h1, h2]; simp
    · rw [picks_some h1, List.length_cons, ih]
      have := alv_dlen f n on r hr h2
      omega
theorem picks_take (f : Nat → Tk) (n : Nat) (k m : Nat) (on : Nat → Bool) (h : k ≤ m) : picks f n k on = (picks f n m on).take k := by
  induction k generalizing m on with
  | zero => simp [picks]
  | succ k ih =>
    obtain ⟨m, rfl⟩ : ∃ m', m = m' + 1 := ⟨m - 1, by omega⟩
    rcases bst_tops f n on with ⟨h1, h2⟩ | ⟨r, hr, h1, h2, _⟩
    · rw [picks_none h1, picks_none h1]; simp
    · rw [picks_some h1, picks_some h1, List.take_succ_cons, ← ih m _ (by omega)]
/-- An id that does not stand ahead. -/
def fresh (f : Nat → Tk) (i : Nat) : Bool := !((List.range i).any fun j => (f j).id == (f i).id)
def on0 (f : Nat → Tk) (c : Int) (y : Bool) (i : Nat) : Bool := fresh f i && can (f i) c y
def ids (f : Nat → Tk) (n : Nat) (c : Int) (k : Nat) (y : Bool) : List Int := (picks f n k (on0 f c y)).map fun q => (f q).id
theorem ids_len (f : Nat → Tk) (n : Nat) (c : Int) (k : Nat) (y : Bool) : (ids f n c k y).length ≤ n := by
  unfold ids
  rw [List.length_map, picks_len]
  have := alv_len f n (on0 f c y)
  omega
theorem bst_congr {f g : Nat → Tk} {on on' : Nat → Bool} {n : Nat} (hf : ∀ i, i < n → f i = g i) (ho : ∀ i, i < n → on i = on' i) : bst on f n = bst on' g n := by
  have key : ∀ k, k ≤ n → bst on f k = bst on' g k := by
    intro k
    induction k with
    | zero => intro _; rfl
    | succ k ih =>
      intro hk
      have h1 := ih (by omega)
      have ht : tst on f k (bst on f k) = tst on' g k (bst on' g k) := by
        unfold tst
        rw [← h1, ho k (by omega), hf k (by omega)]
        rcases bst_spec on f k with ⟨h2, _⟩ | ⟨q, hq, h2, _⟩
        · rw [h2]; rfl
        · rw [h2, Int.toNat_natCast, hf q (by omega)]
      unfold bst
      rw [ht, h1]
  exact key n (Nat.le_refl _)
theorem picks_congr {f g : Nat → Tk} {n : Nat} (hf : ∀ i, i < n → f i = g i) (k : Nat) {on on' : Nat → Bool} (ho : ∀ i, i < n → on i = on' i) : picks f n k on = picks g n k on' := by
  induction k generalizing on on' with
  | zero => rfl
  | succ k ih =>
    have h1 := bst_congr hf ho
    rcases bst_spec on f n with ⟨h2, _⟩ | ⟨q, hq, h2, _⟩
    · rw [picks_none h2, picks_none (by rw [← h1]; exact h2)]
    · rw [picks_some h2, picks_some (by rw [← h1]; exact h2)]
      congr 1
      refine ih fun i hi => ?_
      unfold upd
      split
      · rfl
      · exact ho i hi
theorem fresh_congr {f g : Nat → Tk} {n i : Nat} (hf : ∀ i, i < n → f i = g i) (hi : i < n) : fresh f i = fresh g i := by
  unfold fresh
  rw [hf i hi]
  congr 1
  rw [Bool.eq_iff_iff, List.any_eq_true, List.any_eq_true]
  constructor <;> rintro ⟨j, hj, h⟩ <;> refine ⟨j, hj, ?_⟩
  · rw [← hf j (by have := List.mem_range.1 hj; omega)]; exact h
  · rw [hf j (by have := List.mem_range.1 hj; omega)]; exact h
theorem on0_congr {f g : Nat → Tk} {n i : Nat} (hf : ∀ i, i < n → f i = g i) (hi : i < n) (c : Int) (y : Bool) : on0 f c y i = on0 g c y i := by
  unfold on0
  rw [fresh_congr hf hi, hf i hi]
theorem ids_congr {f g : Nat → Tk} {n : Nat} (hf : ∀ i, i < n → f i = g i) (c : Int) (k : Nat) (y : Bool) : ids f n c k y = ids g n c k y := by
  unfold ids
  rw [picks_congr hf k (fun i hi => on0_congr hf hi c y)]
  apply List.map_congr_left
  intro q hq
  rw [hf q (picks_lt _ _ q hq)]
end Go.Proofs.Yticcgmlgiijjnaa.PkPlain

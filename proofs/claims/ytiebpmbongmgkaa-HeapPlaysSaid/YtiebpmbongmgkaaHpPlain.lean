/- Package heap, plain: items in a heap by a whole order. No program in sight. -/
set_option linter.unusedVariables false
namespace HpPlain
/-- An item: slot, deadline, bit, group, id. -/
abbrev It := Int × Int × Int × Int × Int
abbrev Key := Int × Int × Int × Int × Int
def z : It := (0, 0, 0, 0, 0)
def key (k : Int) (x : It) : Key := if k = 2 then (x.2.1, 0, 0, x.2.2.2.2, x.1) else (x.2.1, -x.2.2.1, (if x.2.2.1 = 1 then -x.2.2.2.1 else 0), x.2.2.2.2, x.1)
def klt (a b : Key) : Prop := a.1 < b.1 ∨ (a.1 = b.1 ∧ (a.2.1 < b.2.1 ∨ (a.2.1 = b.2.1 ∧ (a.2.2.1 < b.2.2.1 ∨ (a.2.2.1 = b.2.2.1 ∧ (a.2.2.2.1 < b.2.2.2.1 ∨ (a.2.2.2.1 = b.2.2.2.1 ∧ a.2.2.2.2 < b.2.2.2.2)))))))
instance (a b : Key) : Decidable (klt a b) := by unfold klt; infer_instance
theorem klt_irrefl (a : Key) : ¬ klt a a := by unfold klt; omega
theorem klt_trans {a b c : Key} (h : klt a b) (g : klt b c) : klt a c := by unfold klt at *; omega
theorem klt_total (a b : Key) : klt a b ∨ a = b ∨ klt b a := by
  obtain ⟨a1, a2, a3, a4, a5⟩ := a
  obtain ⟨b1, b2, b3, b4, b5⟩ := b
  simp only [klt, Prod.mk.injEq]
  omega
def lt (k : Int) (x y : It) : Bool := decide (klt (key k x) (key k y))
theorem lt_asymm {k : Int} {x y : It} (h : lt k x y = true) : lt k y x = false := by
  unfold lt at *
  rw [decide_eq_true_eq] at h
  rw [decide_eq_false_iff_not]
  exact fun g => klt_irrefl _ (klt_trans h g)
theorem lt_self (k : Int) (x : It) : lt k x x = false := by
  unfold lt
  rw [decide_eq_false_iff_not]
  exact klt_irrefl _
/-- Not above, and not above: not above. -/
theorem nlt_trans {k : Int} {x y v : It} (h : lt k y x = false) (g : lt k v y = false) : lt k v x = false := by
  unfold lt at *
  rw [decide_eq_false_iff_not] at *
  intro e
  rcases klt_total (key k v) (key k y) with a | a | a
  · exact g a
  · rw [a] at e; exact h e
  · exact h (klt_trans a e)
theorem nlt_of {k : Int} {x p s : It} (h : lt k x p = true) (g : lt k s p = false) : lt k s x = false := nlt_trans (lt_asymm h) g
theorem key_slot {k : Int} {x y : It} (h : key k x = key k y) : x.1 = y.1 := by
  unfold key at h
  split at h <;> simp only [Prod.mk.injEq] at h <;> exact h.2.2.2.2
theorem nlt_anti {k : Int} {x y : It} (h : lt k x y = false) (g : lt k y x = false) : x.1 = y.1 := by
  unfold lt at *
  rw [decide_eq_false_iff_not] at *
  rcases klt_total (key k x) (key k y) with a | a | a
  · exact absurd a h
  · exact key_slot a
  · exact absurd a g
/-! ### places -/
def swf (f : Nat → It) (i j x : Nat) : It := if x = j then f i else if x = i then f j else f x
structure Near (k : Int) (f : Nat → It) (n i : Nat) : Prop where
  e : ∀ j, 0 < j → j < n → j ≠ i → (j - 1) / 2 ≠ i → lt k (f j) (f ((j - 1) / 2)) = false
  g : ∀ j, 0 < j → j < n → (j - 1) / 2 = i → 0 < i → lt k (f j) (f ((i - 1) / 2)) = false
structure Down (k : Int) (f : Nat → It) (n i : Nat) : Prop where
  e : ∀ j, 0 < j → j < n → (j - 1) / 2 ≠ i → lt k (f j) (f ((j - 1) / 2)) = false
  g : ∀ j, 0 < j → j < n → (j - 1) / 2 = i → 0 < i → lt k (f j) (f ((i - 1) / 2)) = false
def Ordered (k : Int) (f : Nat → It) (n : Nat) : Prop := ∀ j, 0 < j → j < n → lt k (f j) (f ((j - 1) / 2)) = false
theorem up_step {k : Int} {f : Nat → It} {n i : Nat} (h : Near k f n i) (hi : 0 < i) (hn : i < n) (hl : lt k (f i) (f ((i - 1) / 2)) = true) : Near k (swf f i ((i - 1) / 2)) n ((i - 1) / 2) := by
  constructor
  · intro j hj hjn hne hpe
    have hji : j ≠ i := fun e => hpe (by rw [e])
    have e1 : swf f i ((i - 1) / 2) j = f j := by unfold swf; rw [if_neg hne, if_neg hji]
    rw [e1]
    by_cases hc : (j - 1) / 2 = i
    · have e2 : swf f i ((i - 1) / 2) ((j - 1) / 2) = f ((i - 1) / 2) := by unfold swf; rw [if_neg hpe, if_pos hc]
      rw [e2]
      exact h.g j hj hjn hc hi
    · have e2 : swf f i ((i - 1) / 2) ((j - 1) / 2) = f ((j - 1) / 2) := by unfold swf; rw [if_neg hpe, if_neg hc]
      rw [e2]
      exact h.e j hj hjn hji hc
  · intro j hj hjn hpj hp0
    have e2 : swf f i ((i - 1) / 2) (((i - 1) / 2 - 1) / 2) = f (((i - 1) / 2 - 1) / 2) := by unfold swf; rw [if_neg (by omega), if_neg (by omega)]
    rw [e2]
    have hp : lt k (f ((i - 1) / 2)) (f (((i - 1) / 2 - 1) / 2)) = false := h.e _ hp0 (by omega) (by omega) (by omega)
    by_cases hji : j = i
    · subst hji
      have e1 : swf f j ((j - 1) / 2) j = f ((j - 1) / 2) := by unfold swf; rw [if_neg (by omega), if_pos rfl]
      rw [e1]
      exact hp
    · have e1 : swf f i ((i - 1) / 2) j = f j := by unfold swf; rw [if_neg (by omega), if_neg hji]
      rw [e1]
      refine nlt_trans hp ?_
      have := h.e j hj hjn hji (by omega)
      rw [hpj] at this
      exact this
theorem up_stop {k : Int} {f : Nat → It} {n i : Nat} (h : Near k f n i) (hl : 0 < i → lt k (f i) (f ((i - 1) / 2)) = false) : Down k f n i := by
  constructor
  · intro j hj hjn hne
    by_cases hji : j = i
    · subst hji; exact hl hj
    · exact h.e j hj hjn hji hne
  · exact h.g
theorem down_step {k : Int} {f : Nat → It} {n i c : Nat} (h : Down k f n i) (hc0 : 0 < c) (hcn : c < n) (hci : (c - 1) / 2 = i) (hl : lt k (f c) (f i) = true) (hmin : ∀ j, 0 < j → j < n → (j - 1) / 2 = i → lt k (f j) (f c) = false) : Down k (swf f i c) n c := by
  have hic : i < c := by omega
  have ei : swf f i c i = f c := by unfold swf; rw [if_neg (by omega), if_pos rfl]
  constructor
  · intro j hj hjn hne
    by_cases hjc : j = c
    · subst hjc
      have e1 : swf f i j j = f i := by unfold swf; rw [if_pos rfl]
      rw [e1, hci, ei]
      exact lt_asymm hl
    · by_cases hji : j = i
      · subst hji
        have e2 : swf f j c ((j - 1) / 2) = f ((j - 1) / 2) := by unfold swf; rw [if_neg hne, if_neg (by omega)]
        rw [ei, e2]
        exact h.g c hc0 hcn hci hj
      · have e1 : swf f i c j = f j := by unfold swf; rw [if_neg hjc, if_neg hji]
        rw [e1]
        by_cases hpi : (j - 1) / 2 = i
        · rw [hpi, ei]
          exact hmin j hj hjn hpi
        · have e2 : swf f i c ((j - 1) / 2) = f ((j - 1) / 2) := by unfold swf; rw [if_neg hne, if_neg hpi]
          rw [e2]
          exact h.e j hj hjn hpi
  · intro j hj hjn hpj _
    have e1 : swf f i c j = f j := by unfold swf; rw [if_neg (by omega), if_neg (by omega)]
    rw [e1, hci, ei, ← hpj]
    exact h.e j hj hjn (by omega)
theorem down_stop {k : Int} {f : Nat → It} {n i : Nat} (h : Down k f n i) (hl : ∀ j, 0 < j → j < n → (j - 1) / 2 = i → lt k (f j) (f i) = false) : Ordered k f n := by
  intro j hj hjn
  by_cases hp : (j - 1) / 2 = i
  · rw [hp]; exact hl j hj hjn hp
  · exact h.e j hj hjn hp
theorem ordered_root {k : Int} {f : Nat → It} {n : Nat} (h : Ordered k f n) : ∀ j, j < n → lt k (f j) (f 0) = false := by
  intro j
  induction j using Nat.strongRecOn with
  | _ j ih =>
    intro hj
    by_cases h0 : j = 0
    · subst h0; exact lt_self _ _
    · exact nlt_trans (ih ((j - 1) / 2) (by omega) (by omega)) (h j (by omega) hj)
/-- A new value at a place of a heap. -/
theorem near_set {k : Int} {f f' : Nat → It} {n n' i : Nat} (h : Ordered k f n) (hn : n' ≤ n) (he : ∀ j, j ≠ i → j < n' → f' j = f j) : Near k f' n' i := by
  constructor
  · intro j hj hjn hji hpi
    rw [he j hji hjn, he _ hpi (by omega)]
    exact h j hj (by omega)
  · intro j hj hjn hpi hi
    rw [he j (by omega) hjn, he _ (by omega) (by omega)]
    have h1 := h j hj (by omega)
    rw [hpi] at h1
    exact nlt_trans (h i hi (by omega)) h1
/-- One more at the end. -/
theorem near_new {k : Int} {f f' : Nat → It} {n : Nat} (h : Ordered k f n) (he : ∀ j, j < n → f' j = f j) : Near k f' (n + 1) n := by
  constructor
  · intro j hj hjn hji hpi
    rw [he j (by omega), he _ (by omega)]
    exact h j hj (by omega)
  · intro j hj hjn hpi hi
    omega
/-! ### lists -/
def at_ (l : List It) (i : Nat) : It := l.getD i z
theorem at_lt {l : List It} {i : Nat} (h : i < l.length) : l[i]? = some (at_ l i) := by
  unfold at_
  rw [List.getD_eq_getElem?_getD, List.getElem?_eq_getElem h]; rfl
theorem at_mem {l : List It} {i : Nat} (h : i < l.length) : at_ l i ∈ l := List.mem_of_getElem? (at_lt h)
theorem at_of {l : List It} {i : Nat} {x : It} (h : l[i]? = some x) : at_ l i = x := by
  unfold at_
  rw [List.getD_eq_getElem?_getD, h]; rfl
theorem at_set (l : List It) (i : Nat) (x : It) (hi : i < l.length) (j : Nat) : at_ (l.set i x) j = if j = i then x else at_ l j := by
  unfold at_
  rw [List.getD_eq_getElem?_getD, List.getD_eq_getElem?_getD, List.getElem?_set]
  by_cases h : j = i
  · subst h; simp [hi]
  · rw [if_neg h, if_neg (fun e => h e.symm)]
def sw (l : List It) (i j : Nat) : List It := (l.set i (at_ l j)).set j (at_ l i)
theorem sw_len (l : List It) (i j : Nat) : (sw l i j).length = l.length := by simp [sw]
theorem at_sw (l : List It) (i j : Nat) (hi : i < l.length) (hj : j < l.length) : at_ (sw l i j) = swf (at_ l) i j := by
  funext x
  unfold sw swf
  rw [at_set _ _ _ (by simpa using hj), at_set _ _ _ hi]
theorem set_split {l : List It} {i : Nat} (h : i < l.length) (x : It) : l.set i x = l.take i ++ x :: l.drop (i + 1) := List.set_eq_take_append_cons_drop.trans (if_pos h)
theorem set_at (l : List It) (i : Nat) : l.set i (at_ l i) = l := by
  apply List.ext_getElem?
  intro j
  rw [List.getElem?_set]
  split
  · rename_i e
    subst e
    split
    · rename_i h; exact (at_lt h).symm
    · rename_i h; exact (List.getElem?_eq_none (by omega)).symm
  · rfl
theorem sw_self (l : List It) (i : Nat) : sw l i i = l := by unfold sw; rw [set_at, set_at]
/-- Two elements change places. -/
theorem sw_perm (l : List It) (i j : Nat) (hi : i < l.length) (hj : j < l.length) : (sw l i j).Perm l := by
  have key : ∀ (a b : Nat), a < b → b < l.length → (sw l a b).Perm l := by
    intro a b hab hb
    have e1 : l = l.take a ++ at_ l a :: ((l.drop (a + 1)).take (b - a - 1) ++ at_ l b :: l.drop (b + 1)) := by
      have h1 : l = l.take a ++ at_ l a :: l.drop (a + 1) := by
        conv => lhs; rw [← set_at l a]
        exact set_split (by omega) _
      have h2 : l.drop (a + 1) = (l.drop (a + 1)).take (b - a - 1) ++ at_ l b :: l.drop (b + 1) := by
        have h3 := List.take_append_drop (b - a - 1) (l.drop (a + 1))
        rw [List.drop_drop, show a + 1 + (b - a - 1) = b by omega, List.drop_eq_getElem_cons hb] at h3
        have h4 : l[b] = at_ l b := by
          have := at_lt hb
          rw [List.getElem?_eq_getElem hb] at this
          exact Option.some.inj this
        rw [h4] at h3
        exact h3.symm
      rw [← h2]; exact h1
    have e2 : sw l a b = l.take a ++ at_ l b :: ((l.drop (a + 1)).take (b - a - 1) ++ at_ l a :: l.drop (b + 1)) := by
      apply List.ext_getElem?
      intro x
      have hx := congrFun (at_sw l a b (by omega) hb) x
      have hlt : (l.take a).length = a := by simp; omega
      have hmt : ((l.drop (a + 1)).take (b - a - 1)).length = b - a - 1 := by simp; omega
      by_cases hxl : x < l.length
      · rw [at_lt (by rw [sw_len]; exact hxl), hx]
        have hxx := at_lt hxl
        by_cases h1 : x < a
        · rw [List.getElem?_append_left (by omega), List.getElem?_take, if_pos h1]
          unfold swf
          rw [if_neg (by omega), if_neg (by omega), hxx]
        · rw [List.getElem?_append_right (by omega), hlt]
          by_cases h2 : x = a
          · subst h2
            unfold swf
            rw [if_neg (by omega), if_pos rfl]
            simp
          · obtain ⟨d, hd⟩ : ∃ d, x - a = d + 1 := ⟨x - a - 1, by omega⟩
            rw [hd, List.getElem?_cons_succ]
            by_cases h3 : x < b
            · rw [List.getElem?_append_left (by omega), List.getElem?_take, if_pos (by omega), List.getElem?_drop, show a + 1 + d = x by omega]
              unfold swf
              rw [if_neg (by omega), if_neg h2, hxx]
            · rw [List.getElem?_append_right (by omega), hmt]
              by_cases h4 : x = b
              · subst h4
                unfold swf
                rw [if_pos rfl, show d - (x - a - 1) = 0 by omega]
                rfl
              · obtain ⟨e, he⟩ : ∃ e, d - (b - a - 1) = e + 1 := ⟨d - (b - a - 1) - 1, by omega⟩
                rw [he, List.getElem?_cons_succ, List.getElem?_drop, show b + 1 + e = x by omega]
                unfold swf
                rw [if_neg h4, if_neg h2, hxx]
      · rw [List.getElem?_eq_none (by rw [sw_len]; omega), List.getElem?_eq_none]
        simp
        omega
    rw [e2]
    conv => rhs; rw [e1]
    refine List.Perm.append_left _ ?_
    have p1 : ∀ (u v : It) (m r : List It), (u :: (m ++ v :: r)).Perm (u :: v :: (m ++ r)) := fun u v m r => List.Perm.cons _ List.perm_middle
    exact (p1 _ _ _ _).trans ((List.Perm.swap _ _ _).trans (p1 _ _ _ _).symm)
  rcases Nat.lt_trichotomy i j with h | h | h
  · exact key i j h hj
  · subst h; rw [sw_self]
  · have e : sw l i j = sw l j i := by
      unfold sw
      rw [List.set_comm _ _ (by omega)]
    rw [e]
    exact key j i h hi
def slots (l : List It) : List Int := l.map (·.1)
theorem slots_perm {l m : List It} (h : l.Perm m) : (slots l).Perm (slots m) := h.map _
theorem slots_nodup {l m : List It} (h : l.Perm m) (hn : (slots m).Nodup) : (slots l).Nodup := (slots_perm h).nodup_iff.2 hn
/-- Of one slot there is one place. -/
theorem slot_inj {l : List It} (hn : (slots l).Nodup) {i j : Nat} (hi : i < l.length) (hj : j < l.length) (he : (at_ l i).1 = (at_ l j).1) : i = j := by
  have hl : (slots l).length = l.length := by simp [slots]
  have hs : ∀ a, (h : a < (slots l).length) → (slots l)[a] = (at_ l a).1 := by
    intro a h
    have h1 : (slots l)[a]? = some (at_ l a).1 := by unfold slots; rw [List.getElem?_map, at_lt (by omega)]; rfl
    rw [List.getElem?_eq_getElem h] at h1
    exact Option.some.inj h1
  have hp := List.pairwise_iff_getElem.1 hn
  rcases Nat.lt_trichotomy i j with h | h | h
  · exact absurd (by rw [hs, hs]; exact he) (hp i j (by omega) (by omega) h)
  · exact h
  · exact absurd (by rw [hs, hs]; exact he.symm) (hp j i (by omega) (by omega) h)
/-! ### what is done -/
def hasS (m : List It) (s : Int) : Bool := m.any fun y => y.1 == s
theorem hasS_iff {m : List It} {s : Int} : hasS m s = true ↔ s ∈ slots m := by
  unfold hasS slots
  rw [List.any_eq_true, List.mem_map]
  constructor
  · rintro ⟨x, hx, he⟩; exact ⟨x, hx, by simpa using he⟩
  · rintro ⟨x, hx, he⟩; exact ⟨x, hx, by simpa using he⟩
theorem hasS_perm {l m : List It} (h : l.Perm m) (s : Int) : hasS l s = hasS m s := by
  rw [Bool.eq_iff_iff, hasS_iff, hasS_iff]; exact (slots_perm h).mem_iff
/-- A slot with a rank: anew, or one more. -/
def put (m : List It) (x : It) : List It := if hasS m x.1 = true then m.map (fun y => if y.1 = x.1 then x else y) else m ++ [x]
def drop (m : List It) (s : Int) : List It := m.filter fun y => !(y.1 == s)
theorem put_perm {l m : List It} (h : l.Perm m) (x : It) : (put l x).Perm (put m x) := by
  unfold put
  rw [hasS_perm h]
  split
  · exact h.map _
  · exact h.append_right _
theorem drop_perm {l m : List It} (h : l.Perm m) (s : Int) : (drop l s).Perm (drop m s) := h.filter _
theorem slots_put {m : List It} {x : It} (h : hasS m x.1 = true) : slots (put m x) = slots m := by
  unfold put
  rw [if_pos h]
  unfold slots
  rw [List.map_map]
  apply List.map_congr_left
  intro y _
  show (if y.1 = x.1 then x else y).1 = y.1
  split
  · rename_i e; exact e.symm
  · rfl
theorem nodup_put {m : List It} (hn : (slots m).Nodup) (x : It) : (slots (put m x)).Nodup := by
  cases h : hasS m x.1
  · have h' : x.1 ∉ slots m := fun e => by rw [hasS_iff.2 e] at h; cases h
    unfold put
    rw [if_neg (by rw [h]; decide)]
    unfold slots at *
    rw [List.map_append, List.nodup_append]
    refine ⟨hn, by simp, ?_⟩
    intro a ha b hb e
    simp at hb
    subst hb
    exact h' (e ▸ ha)
  · rw [slots_put h]; exact hn
theorem nodup_drop {m : List It} (hn : (slots m).Nodup) (s : Int) : (slots (drop m s)).Nodup := List.Nodup.sublist (List.Sublist.map _ List.filter_sublist) hn
/-- Anew at its place. -/
theorem put_at {l : List It} (hn : (slots l).Nodup) {i : Nat} (hi : i < l.length) (x : It) (he : (at_ l i).1 = x.1) : put l x = l.set i x := by
  have hh : hasS l x.1 = true := hasS_iff.2 (by rw [← he]; exact List.mem_map.2 ⟨_, at_mem hi, rfl⟩)
  unfold put
  rw [if_pos hh]
  apply List.ext_getElem?
  intro j
  by_cases hj : j < l.length
  · rw [List.getElem?_map, at_lt hj, List.getElem?_set]
    by_cases hij : i = j
    · subst hij
      simp [hi, he]
    · rw [if_neg hij, at_lt hj]
      have : ¬ (at_ l j).1 = x.1 := fun e => hij (slot_inj hn hi hj (he.trans e.symm))
      simp [this]
  · rw [List.getElem?_eq_none (by simp; omega), List.getElem?_eq_none (by simp; omega)]
/-- The last one to the place of the one that goes. -/
theorem drop_at {l : List It} (hn : (slots l).Nodup) {i : Nat} (hi : i < l.length) : ((sw l i (l.length - 1)).take (l.length - 1)).Perm (drop l (at_ l i).1) := by
  have hl : l.length - 1 < l.length := by omega
  have hs := sw_perm l i (l.length - 1) hi hl
  have e : sw l i (l.length - 1) = (sw l i (l.length - 1)).take (l.length - 1) ++ [at_ l i] := by
    have h1 := (List.take_append_drop (l.length - 1) (sw l i (l.length - 1))).symm
    have h2 : (sw l i (l.length - 1)).drop (l.length - 1) = [at_ l i] := by
      have hb : l.length - 1 < (sw l i (l.length - 1)).length := by rw [sw_len]; exact hl
      rw [List.drop_eq_getElem_cons hb, List.drop_eq_nil_of_le (by rw [sw_len]; omega)]
      have h3 := at_lt hb
      rw [List.getElem?_eq_getElem hb] at h3
      rw [Option.some.inj h3, at_sw _ _ _ hi hl]
      unfold swf
      rw [if_pos rfl]
    rw [h2] at h1
    exact h1
  generalize (sw l i (l.length - 1)).take (l.length - 1) = t at *
  rw [e] at hs
  have hnt : (slots (t ++ [at_ l i])).Nodup := slots_nodup hs hn
  have hd : (drop (t ++ [at_ l i]) (at_ l i).1).Perm (drop l (at_ l i).1) := drop_perm hs _
  have e2 : drop (t ++ [at_ l i]) (at_ l i).1 = t := by
    unfold drop
    rw [List.filter_append]
    have h1 : t.filter (fun y => !(y.1 == (at_ l i).1)) = t := by
      rw [List.filter_eq_self]
      intro y hy
      unfold slots at hnt
      rw [List.map_append, List.nodup_append] at hnt
      have := hnt.2.2 y.1 (List.mem_map.2 ⟨y, hy, rfl⟩) (at_ l i).1 (by simp)
      simpa using this
    rw [h1]
    simp
  rw [e2] at hd
  exact hd
/-- The first of them. -/
def First (k : Int) (m : List It) (x : It) : Prop := x ∈ m ∧ ∀ y ∈ m, lt k y x = false
theorem First.perm {k : Int} {l m : List It} {x : It} (h : First k l x) (hp : l.Perm m) : First k m x := ⟨hp.mem_iff.1 h.1, fun y hy => h.2 y (hp.mem_iff.2 hy)⟩
theorem First.unique {k : Int} {m : List It} {x y : It} (hn : (slots m).Nodup) (h : First k m x) (g : First k m y) : x = y := by
  have he := nlt_anti (g.2 x h.1) (h.2 y g.1)
  obtain ⟨i, hi⟩ := List.getElem?_of_mem h.1
  obtain ⟨j, hj⟩ := List.getElem?_of_mem g.1
  have hi' := (List.getElem?_eq_some_iff.1 hi).1
  have hj' := (List.getElem?_eq_some_iff.1 hj).1
  have e1 := at_of hi
  have e2 := at_of hj
  have := slot_inj hn hi' hj' (by rw [e1, e2]; exact he)
  subst this
  rw [← e1, ← e2]
theorem first_root {k : Int} {l : List It} (h : Ordered k (at_ l) l.length) (h0 : 0 < l.length) : First k l (at_ l 0) := by
  refine ⟨at_mem h0, fun y hy => ?_⟩
  obtain ⟨j, hj⟩ := List.getElem?_of_mem hy
  have hj' := (List.getElem?_eq_some_iff.1 hj).1
  rw [← at_of hj]
  exact ordered_root h j hj'
end HpPlain

/- Plain facts on whole numbers: quotients rounded down and up, without any program in sight. -/
namespace EvPlain

def up (a b : Int) : Int := (a + b - 1) / b

theorem down_spec (a b : Int) (hb : 0 < b) : a / b * b ≤ a ∧ a < (a / b + 1) * b := by
  have h1 := Int.ediv_mul_le a (show b ≠ 0 by omega)
  have h2 := Int.lt_ediv_add_one_mul_self a hb
  exact ⟨h1, h2⟩

theorem lt_of_mul_lt' (a b c : Int) (hc : 0 < c) (h : a * c < b * c) : a < b :=
  Int.lt_of_mul_lt_mul_right h (by omega)

theorem down_uniq {a b c : Int} (hb : 0 < b) (h1 : c * b ≤ a) (h2 : a < (c + 1) * b) : a / b = c := by
  have ⟨h3, h4⟩ := down_spec a b hb
  have h5 : a / b < c + 1 := lt_of_mul_lt' _ _ b hb (by omega)
  have h6 : c < a / b + 1 := lt_of_mul_lt' _ _ b hb (by omega)
  omega

theorem up_spec (a b : Int) (hb : 0 < b) : (up a b - 1) * b < a ∧ a ≤ up a b * b := by
  unfold up
  have ⟨h3, h4⟩ := down_spec (a + b - 1) b hb
  rw [Int.sub_mul, Int.one_mul]
  rw [Int.add_mul, Int.one_mul] at h4
  omega

theorem up_uniq {a b c : Int} (hb : 0 < b) (h1 : (c - 1) * b < a) (h2 : a ≤ c * b) : up a b = c := by
  have ⟨h3, h4⟩ := up_spec a b hb
  have h5 : up a b - 1 < c := lt_of_mul_lt' _ _ b hb (by omega)
  have h6 : c - 1 < up a b := lt_of_mul_lt' _ _ b hb (by omega)
  omega

theorem mul_bound {a b A B : Int} (ha : 0 ≤ a) (hb : 0 ≤ b) (hA : a ≤ A) (hB : b ≤ B) : 0 ≤ a * b ∧ a * b ≤ A * B :=
  ⟨Int.mul_nonneg ha hb, Int.mul_le_mul hA hB hb (by omega)⟩

theorem down_nonneg {a b : Int} (ha : 0 ≤ a) (hb : 0 < b) : 0 ≤ a / b ∧ a / b ≤ a :=
  ⟨Int.ediv_nonneg ha (by omega), Int.ediv_le_self _ ha⟩

theorem up_nonneg {a b : Int} (ha : 0 ≤ a) (hb : 0 < b) : 0 ≤ up a b ∧ up a b ≤ a + b - 1 :=
  ⟨Int.ediv_nonneg (by omega) (by omega), Int.ediv_le_self _ (by omega)⟩

theorem mod_zero_iff {a b c : Int} (_ : 0 < b) (h1 : (c - 1) * b < a) (h2 : a ≤ c * b) : a % b = 0 ↔ a = c * b := by
  constructor
  · intro h
    obtain ⟨q, rfl⟩ := Int.dvd_of_emod_eq_zero h
    rw [Int.mul_comm b q] at *
    have h5 : c - 1 < q := lt_of_mul_lt' _ _ b (by omega) (by omega)
    have h6 : q ≤ c := by
      have := Int.le_of_mul_le_mul_right h2 (by omega)
      exact this
    have : q = c := by omega
    rw [this]
  · rintro rfl; exact Int.mul_emod_left c b


/-- A quantum of a task. -/
structure T (e p i : Int) : Prop where
  e1 : 1 ≤ e
  ep : e ≤ p
  pm : p ≤ 1048575
  i1 : 1 ≤ i
  ie : i ≤ e

theorem T.ip {e p i : Int} (h : T e p i) : 1 ≤ i * p ∧ i * p ≤ 1099509530625 := by
  have := mul_bound (a := i - 1) (b := p) (A := 1048574) (B := 1048575) (by have := h.i1; omega) (by have := h.ep; have := h.e1; omega) (by have := h.ie; have := h.ep; have := h.pm; omega) h.pm
  rw [Int.sub_mul, Int.one_mul] at this
  have := h.e1; have := h.ep; have := h.pm; omega
theorem T.ip1 {e p i : Int} (h : T e p i) : 0 ≤ (i - 1) * p ∧ (i - 1) * p ≤ 1099509530625 := by
  have := h.ip; rw [Int.sub_mul, Int.one_mul]
  have h2 := mul_bound (a := i - 1) (b := p) (A := 1048574) (B := 1048575) (by have := h.i1; omega) (by have := h.ep; have := h.e1; omega) (by have := h.ie; have := h.ep; have := h.pm; omega) h.pm
  rw [Int.sub_mul, Int.one_mul] at h2
  omega
def dl (e p i : Int) : Int := up (i * p) e
def rel (e p i : Int) : Int := (i - 1) * p / e
theorem T.dl_spec {e p i : Int} (h : T e p i) : (dl e p i - 1) * e < i * p ∧ i * p ≤ dl e p i * e := up_spec _ _ h.e1
theorem T.rel_spec {e p i : Int} (h : T e p i) : rel e p i * e ≤ (i - 1) * p ∧ (i - 1) * p < (rel e p i + 1) * e := down_spec _ _ h.e1
theorem T.dl_le {e p i : Int} (h : T e p i) : 1 ≤ dl e p i ∧ dl e p i ≤ p := by
  have h1 := h.dl_spec; have h2 := h.ip; have e1 := h.e1
  constructor
  · have : 0 < dl e p i := lt_of_mul_lt' _ _ e e1 (by omega)
    omega
  · have h3 : i * p ≤ e * p := Int.mul_le_mul_of_nonneg_right h.ie (by have := h.ep; omega)
    rw [Int.mul_comm e p] at h3
    have : dl e p i - 1 < p := lt_of_mul_lt' _ _ e e1 (by omega)
    omega
theorem T.rel_le {e p i : Int} (h : T e p i) : 0 ≤ rel e p i ∧ rel e p i < p := by
  have h1 := h.rel_spec; have h2 := h.ip1; have e1 := h.e1
  constructor
  · have : -1 < rel e p i := lt_of_mul_lt' _ _ e e1 (by rw [Int.add_mul] at h1; omega)
    omega
  · have h3 : i * p ≤ e * p := Int.mul_le_mul_of_nonneg_right h.ie (by have := h.ep; omega)
    rw [Int.mul_comm e p] at h3; rw [Int.sub_mul] at h1
    exact lt_of_mul_lt' _ _ e e1 (by have := h.ep; omega)
theorem T.rel_lt_dl {e p i : Int} (h : T e p i) : rel e p i < dl e p i := by
  have h1 := h.rel_spec; have h2 := h.dl_spec; have e1 := h.e1
  rw [Int.sub_mul, Int.one_mul] at h1
  exact lt_of_mul_lt' _ _ e e1 (by have := h.ep; omega)
/-- The next window begins where this one ends, or one slot ahead. -/
theorem T.next {e p i : Int} (h : T e p i) : rel e p (i + 1) = dl e p i - (if i * p % e = 0 then 0 else 1) := by
  have h2 := h.dl_spec; have e1 := h.e1
  have hz := mod_zero_iff (show 0 < e by omega) h2.1 h2.2
  unfold rel
  rw [show i + 1 - 1 = i by omega]
  refine down_uniq (by omega) ?_ ?_ <;> split <;> rename_i hm <;> rw [hz] at hm
  · rw [hm, Int.sub_zero]; omega
  · omega
  · rw [hm, Int.sub_zero, Int.add_mul]; omega
  · rw [show dl e p i - 1 + 1 = dl e p i by omega]; omega
theorem T.first {e p : Int} : rel e p 1 = 0 := by simp [rel]
theorem T.last {e p : Int} (h : 1 ≤ e) : dl e p e = p := by
  unfold dl
  refine up_uniq (by omega) ?_ ?_
  · rw [Int.sub_mul, Int.mul_comm e p]; omega
  · rw [Int.mul_comm e p]; omega
/-- Holes up to the deadline, and the group deadline. -/
def hol (e p i : Int) : Int := up (dl e p i * (p - e)) p
def grp (e p i : Int) : Int := up (hol e p i * p) (p - e)
theorem T.hol_eq {e p i : Int} (h : T e p i) : hol e p i = dl e p i - i := by
  have h1 := h.dl_spec; have e1 := h.e1; have ep := h.ep
  unfold hol
  refine up_uniq (by omega) ?_ ?_
  · rw [Int.sub_mul, Int.one_mul] at h1
    have := h1.1
    rw [Int.sub_mul, Int.sub_mul, Int.mul_sub]; omega
  · have := h1.2
    rw [Int.sub_mul, Int.mul_sub]; omega
theorem T.hol_le {e p i : Int} (h : T e p i) : 0 ≤ hol e p i ∧ hol e p i ≤ p - e := by
  have h1 := h.dl_le; have e1 := h.e1; have ep := h.ep
  have h3 := up_spec (dl e p i * (p - e)) p (by omega)
  have h4 : 0 ≤ dl e p i * (p - e) := Int.mul_nonneg (by omega) (by omega)
  have h5 : dl e p i * (p - e) ≤ p * (p - e) := Int.mul_le_mul_of_nonneg_right h1.2 (by omega)
  rw [Int.mul_comm p] at h5
  constructor
  · have : -1 < hol e p i := lt_of_mul_lt' _ _ p (by omega) (by unfold hol; omega)
    omega
  · have : hol e p i - 1 < p - e := lt_of_mul_lt' _ _ p (by omega) (by unfold hol; omega)
    omega
theorem T.grp_spec {e p i : Int} (_ : T e p i) (hlt : e < p) : (grp e p i - 1) * (p - e) < hol e p i * p ∧ hol e p i * p ≤ grp e p i * (p - e) := up_spec _ _ (by omega)
theorem T.grp_le {e p i : Int} (h : T e p i) (hlt : e < p) : dl e p i ≤ grp e p i ∧ grp e p i ≤ p := by
  have h1 := h.hol_le; have h2 := h.grp_spec hlt
  have h3 : hol e p i * p ≤ (p - e) * p := Int.mul_le_mul_of_nonneg_right h1.2 (by have := h.e1; omega)
  rw [Int.mul_comm (p - e) p] at h3
  constructor
  · have h4 := up_spec (dl e p i * (p - e)) p (by have := h.e1; omega)
    have : dl e p i - 1 < grp e p i := lt_of_mul_lt' _ _ (p - e) (by omega) (by rw [Int.sub_mul (dl e p i)]; have h5 : up (dl e p i * (p - e)) p = hol e p i := rfl; rw [h5] at h4; omega)
    omega
  · rw [Int.mul_comm p (p - e)] at h3
    have : grp e p i - 1 < p := lt_of_mul_lt' _ _ (p - e) (by omega) (by rw [Int.mul_comm p (p - e)]; omega)
    omega
end EvPlain

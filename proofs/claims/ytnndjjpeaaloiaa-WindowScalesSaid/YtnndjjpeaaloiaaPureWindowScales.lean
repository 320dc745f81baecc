/- The law evenhandedlaw3.WindowScales: as many times the quanta in as many times the period have the same windows. No condition. -/
import Derived.Test.YtnndjjpeaaloiaaPlain
import Derived.Test.YtnndjjpeaaloiaaPWindowScalesx2
set_option linter.unusedVariables false
namespace Go.Proofs.Ytnndjjpeaaloiaa.Pure
open Go.RowKit Go.Proofs.Ytnndjjpeaaloiaa.PWindowScales Go.Proofs.YtnndjjpeaaloiaaW.PrintWords Go.Proofs.YtnndjjpeaaloiaaW.PrintLast EvPlain
theorem wr {x : Int} (h1 : -9223372036854775808 ≤ x) (h2 : x < 9223372036854775808) : wrap64 x = x := by
  unfold wrap64; omega
theorem td {a b : Int} (h : 0 ≤ a) : Int.tdiv a b = a / b := Int.tdiv_eq_ediv_of_nonneg h
theorem tm {a b : Int} (h : 0 ≤ a) : Int.tmod a b = a % b := Int.tmod_eq_emod_of_nonneg h
theorem May_yes {e p i : Int} (h : T e p i) : window_May.f e p i = some true := by
  simp [window_May.f, window_task.f, h.e1, h.ep, h.pm, h.i1, h.ie]
theorem task_yes {e p : Int} (h1 : 1 ≤ e) (h2 : e ≤ p) (h3 : p ≤ 1048575) : window_task.f e p = some true := by
  simp [window_task.f, h1, h2, h3]
theorem task_no {e p : Int} (h : ¬ (1 ≤ e ∧ e ≤ p ∧ p ≤ 1048575)) : window_task.f e p = some false := by
  unfold window_task.f; split
  · split
    · rw [decide_eq_false (by omega)]
    · rfl
  · rfl
theorem task_eq (e p : Int) : window_task.f e p = some (decide (1 ≤ e ∧ e ≤ p ∧ p ≤ 1048575)) := by
  by_cases h : 1 ≤ e ∧ e ≤ p ∧ p ≤ 1048575
  · rw [task_yes h.1 h.2.1 h.2.2, decide_eq_true h]
  · rw [task_no h, decide_eq_false h]
theorem May_no {e p i : Int} (h : ¬ T e p i) : window_May.f e p i = some false := by
  unfold window_May.f; rw [task_eq]; simp only [Option.bind_some]
  split <;> rename_i ht
  · split
    · rw [decide_eq_false]
      intro hi; have := of_decide_eq_true ht; exact h ⟨this.1, this.2.1, this.2.2, by omega, hi⟩
    · rfl
  · rfl
theorem Release_yes {e p i : Int} (h : T e p i) : window_Release.f e p i = some (rel e p i) := by
  have h1 := h.ip1; have h2 := h.rel_le
  unfold window_Release.f; rw [May_yes h]; simp only [Option.bind_some, if_true]
  rw [if_neg (by have := h.e1; omega), wr (x := i - 1) (by have := h.i1; omega) (by have := h.ie; have := h.ep; have := h.pm; omega), wr (x := (i - 1) * p) (by omega) (by omega), td h1.1]
  have := h.pm
  exact congrArg some (wr (x := rel e p i) (by omega) (by omega))
theorem Release_no {e p i : Int} (h : ¬ T e p i) : window_Release.f e p i = some 0 := by
  unfold window_Release.f; rw [May_no h]; rfl
theorem up_at {a b : Int} (ha : 0 ≤ a) (hb : 1 ≤ b) (h : a + b < 9223372036854775808) : window_up.f a b = some (up a b) := by
  unfold window_up.f
  have := up_nonneg ha (b := b) (by omega)
  rw [if_neg (by omega), wr (x := a + b) (by omega) (by omega), wr (x := a + b - 1) (by omega) (by omega), td (by omega)]
  exact congrArg some (wr (x := up a b) (by omega) (by omega))
theorem Deadline_yes {e p i : Int} (h : T e p i) : window_Deadline.f e p i = some (dl e p i) := by
  have h1 := h.ip; have := h.ep; have := h.pm; have := h.e1
  unfold window_Deadline.f; rw [May_yes h]; simp only [Option.bind_some, if_true]
  rw [wr (x := i * p) (by omega) (by omega), up_at (by omega) h.e1 (by omega)]; rfl
theorem Deadline_no {e p i : Int} (h : ¬ T e p i) : window_Deadline.f e p i = some 0 := by
  unfold window_Deadline.f; rw [May_no h]; rfl
theorem Bit_yes {e p i : Int} (h : T e p i) : window_Bit.f e p i = some (if i * p % e = 0 then 0 else 1) := by
  have h1 := h.ip
  unfold window_Bit.f; rw [May_yes h]; simp only [Option.bind_some, if_true]
  rw [if_neg (by have := h.e1; omega), wr (x := i * p) (by omega) (by omega), tm (by omega)]; split <;> rfl
theorem Bit_no {e p i : Int} (h : ¬ T e p i) : window_Bit.f e p i = some 0 := by
  unfold window_Bit.f; rw [May_no h]; rfl
theorem Heavy_yes {e p : Int} (h1 : 1 ≤ e) (h2 : e ≤ p) (h3 : p ≤ 1048575) : window_Heavy.f e p = some (decide (2 * e ≥ p)) := by
  unfold window_Heavy.f; rw [task_yes h1 h2 h3]; simp only [Option.bind_some, if_true]
  rw [wr (x := 2 * e) (by omega) (by omega)]
theorem Heavy_no {e p : Int} (h : ¬ (1 ≤ e ∧ e ≤ p ∧ p ≤ 1048575)) : window_Heavy.f e p = some false := by
  unfold window_Heavy.f; rw [task_no h]; rfl
theorem Group_yes {e p i : Int} (h : T e p i) (k : Nat) (hh : p ≤ 2 * e) (hlt : e < p) : window_Group.f (k + 1) e p i = some (grp e p i) := by
  have h1 := h.dl_le; have e1 := h.e1; have pm := h.pm
  have h2 := mul_bound (a := dl e p i) (b := p - e) (A := 1048575) (B := 1048575) (by omega) (by omega) (by omega) (by omega)
  have h3 := h.hol_le
  have h4 := mul_bound (a := hol e p i) (b := p) (A := 1048575) (B := 1048575) (by omega) (by omega) (by omega) (by omega)
  unfold window_Group.f; rw [May_yes h, Heavy_yes h.e1 h.ep h.pm]; simp only [Option.bind_some, if_true]
  rw [decide_eq_true (by omega), if_pos rfl, beq_false_of_ne (by omega)]
  simp only [window_Group.j0]
  rw [if_neg (by decide), Deadline_yes h, Option.bind_some, wr (x := p - e) (by omega) (by omega), wr (x := dl e p i * (p - e)) (by omega) (by omega), up_at h2.1 (by omega) (by omega), Option.bind_some]
  have h5 : up (dl e p i * (p - e)) p = hol e p i := rfl
  rw [h5, wr (x := hol e p i * p) (by omega) (by omega), up_at h4.1 (by omega) (by omega)]; rfl
theorem Group_light {e p i : Int} (k : Nat) (hh : ¬ (T e p i ∧ p ≤ 2 * e ∧ e < p)) : window_Group.f (k + 1) e p i = some 0 := by
  unfold window_Group.f
  by_cases h : T e p i
  · have := h.e1; have := h.ep; have := h.pm
    rw [May_yes h, Heavy_yes h.e1 h.ep h.pm]; simp only [Option.bind_some, if_true]
    by_cases h2 : p ≤ 2 * e
    · have : e = p := by
        have := h.ep
        by_cases h3 : e < p
        · exact absurd ⟨h, h2, h3⟩ hh
        · omega
      subst this
      rw [decide_eq_true (by omega), if_pos rfl, beq_self_eq_true]; simp [window_Group.j0]
    · rw [decide_eq_false (by omega), if_neg (by decide)]; simp [window_Group.j0]
  · rw [May_no h]; simp [window_Group.j0]
theorem awake_yes (k : Nat) : evenhandedlaw3_awake.f (k + 1) = some true := by
  simp only [evenhandedlaw3_awake.f, window_Group.f, window_Group.j0]; decide +kernel
theorem TaskMay_eq (e p : Int) : evenhandedref1_TaskMay.f e p = some (decide (1 ≤ e ∧ e ≤ p ∧ p ≤ 1048575)) := by
  unfold evenhandedref1_TaskMay.f
  by_cases h : 1 ≤ e ∧ e ≤ p ∧ p ≤ 1048575
  · rw [decide_eq_true h, if_pos (by omega), if_pos (by omega), if_pos (by omega), decide_eq_true (by omega)]
  · rw [decide_eq_false h]; split
    · split
      · split
        · rw [decide_eq_false (by omega)]
        · rfl
      · rfl
    · rfl
theorem T_iff {e p i : Int} : T e p i ↔ (1 ≤ e ∧ e ≤ p ∧ p ≤ 1048575) ∧ 1 ≤ i ∧ i ≤ e := ⟨fun h => ⟨⟨h.e1, h.ep, h.pm⟩, h.i1, h.ie⟩, fun ⟨⟨a, b, c⟩, d, e⟩ => ⟨a, b, c, d, e⟩⟩
theorem is64 {x : Int} (h : (Lit.int .i64 x).wf = true) : -9223372036854775808 ≤ x ∧ x < 9223372036854775808 := by
  have h1 : IntKind.i64.min = -9223372036854775808 := by decide
  have h2 : IntKind.i64.max = 9223372036854775807 := by decide
  simp only [Lit.wf, h1, h2, Bool.and_eq_true, decide_eq_true_eq] at h; omega
theorem scale_T {e p i n : Int} (h : T e p i) (hn : 1 ≤ n) (hp : p * n ≤ 1048575) : T (e * n) (p * n) i := by
  have e1 := h.e1; have ie := h.ie
  have a : e * 1 ≤ e * n := Int.mul_le_mul_of_nonneg_left hn (by omega)
  exact ⟨by omega, Int.mul_le_mul_of_nonneg_right h.ep (by omega), hp, h.i1, by omega⟩
theorem scale_rel {e p i n : Int} (hn : 1 ≤ n) : rel (e * n) (p * n) i = rel e p i := by
  unfold rel; rw [← Int.mul_assoc, Int.mul_ediv_mul_of_pos_left _ _ (by omega)]
theorem scale_up {a b n : Int} (hb : 1 ≤ b) (hn : 1 ≤ n) : up (a * n) (b * n) = up a b := by
  have h := up_spec a b hb
  refine up_uniq (Int.mul_pos hb (by omega)) ?_ ?_
  · rw [← Int.mul_assoc]; exact Int.mul_lt_mul_of_pos_right h.1 (by omega)
  · rw [← Int.mul_assoc]; exact Int.mul_le_mul_of_nonneg_right h.2 (by omega)
theorem scale_dl {e p i n : Int} (he : 1 ≤ e) (hn : 1 ≤ n) : dl (e * n) (p * n) i = dl e p i := by
  unfold dl; rw [← Int.mul_assoc, scale_up he hn]
theorem scale_bit {e p i n : Int} (hn : 1 ≤ n) : i * (p * n) % (e * n) = 0 ↔ i * p % e = 0 := by
  rw [← Int.mul_assoc, Int.mul_comm _ n, Int.mul_comm e n, Int.mul_emod_mul_of_pos _ _ (show 0 < n by omega)]
  rw [Int.mul_eq_zero]; omega
theorem scale_grp {e p i n : Int} (he : 1 ≤ e) (hlt : e < p) (hn : 1 ≤ n) : grp (e * n) (p * n) i = grp e p i := by
  unfold grp hol
  rw [scale_dl he hn, ← Int.sub_mul, ← Int.mul_assoc, scale_up (by omega) hn, ← Int.mul_assoc, scale_up (by omega) hn]
theorem Group_all {e p i : Int} (h : T e p i) (k : Nat) : window_Group.f (k + 1) e p i = some (if p ≤ 2 * e ∧ e < p then grp e p i else 0) := by
  by_cases hl : p ≤ 2 * e ∧ e < p
  · rw [if_pos hl]; exact Group_yes h k hl.1 hl.2
  · rw [if_neg hl]; exact Group_light k fun x => hl x.2
theorem scale_heavy {e p n : Int} (hn : 1 ≤ n) : (p * n ≤ 2 * (e * n) ↔ p ≤ 2 * e) ∧ (e * n < p * n ↔ e < p) := by
  have h1 : 2 * (e * n) = (2 * e) * n := (Int.mul_assoc 2 e n).symm
  rw [h1]
  exact ⟨⟨fun h => Int.le_of_mul_le_mul_right h (by omega), fun h => Int.mul_le_mul_of_nonneg_right h (by omega)⟩, ⟨fun h => lt_of_mul_lt' _ _ n (by omega) h, fun h => Int.mul_lt_mul_of_pos_right h (by omega)⟩⟩
theorem loop (e p n : Int) (e1 : 1 ≤ e) (ep : e ≤ p) (pm : p ≤ 1048575) (hn : 1 ≤ n) (hpn : p * n ≤ 1048575) (d : Nat) : ∀ (i : Int) (k : Nat), 1 ≤ i → e + 1 - i = d → d + 1 < k → evenhandedlaw3_WindowScales.l0 k e p n i = some true := by
  have hs : T e p 1 := ⟨e1, ep, pm, by omega, e1⟩
  have hS := scale_T hs hn hpn
  have en := hS.ep; have en1 := hS.e1
  have hh := scale_heavy (e := e) (p := p) hn
  induction d with
  | zero =>
    intro i k hi hd hk
    obtain ⟨k, rfl⟩ : ∃ m, k = m + 1 := ⟨k - 1, by omega⟩
    simp only [evenhandedlaw3_WindowScales.l0]
    rw [if_neg (by omega), wr (x := e * n) (by omega) (by omega), wr (x := p * n) (by omega) (by omega), Heavy_yes e1 ep pm, Heavy_yes en1 en hpn]; simp only [Option.bind_some]
    have : decide (2 * (e * n) ≥ p * n) = decide (2 * e ≥ p) := decide_eq_decide.2 hh.1
    rw [this]; simp
  | succ d ih =>
    intro i k hi hd hk
    obtain ⟨k, rfl⟩ : ∃ m, k = m + 2 := ⟨k - 2, by omega⟩
    have h : T e p i := ⟨e1, ep, pm, hi, by omega⟩
    have h' := scale_T h hn hpn
    rw [evenhandedlaw3_WindowScales.l0]
    rw [if_pos (by omega), wr (x := e * n) (by omega) (by omega), wr (x := p * n) (by omega) (by omega), Release_yes h, Release_yes h', Deadline_yes h, Deadline_yes h', Bit_yes h, Bit_yes h', Group_all h, Group_all h']; simp only [Option.bind_some]
    rw [if_pos (scale_rel hn), if_pos (scale_dl e1 hn), if_pos (by simp only [scale_bit hn])]
    rw [if_pos, wr (x := i + 1) (by omega) (by omega)]
    · exact ih (i + 1) (k + 1) (by omega) (by omega) (by omega)
    · simp only [hh.1, hh.2]
      by_cases hl : p ≤ 2 * e ∧ e < p
      · rw [if_pos hl, if_pos hl, scale_grp e1 hl.2 hn]
      · rw [if_neg hl, if_neg hl]
theorem is8 {x : Int} (h : (Lit.int .u8 x).wf = true) : 0 ≤ x ∧ x ≤ 255 := by
  have h1 : IntKind.u8.min = 0 := by decide
  have h2 : IntKind.u8.max = 255 := by decide
  simp only [Lit.wf, h1, h2, Bool.and_eq_true, decide_eq_true_eq] at h; omega
theorem WindowScales : evenhandedlaw3_WindowScales.Pure := by
  intro e p x w0 w1 w2
  have hx := is8 w2
  refine ⟨e.toNat + 10, ?_⟩
  unfold evenhandedlaw3_WindowScales.f
  rw [awake_yes (e.toNat + 9), TaskMay_eq]; simp only [Option.bind_some, if_true]
  have hN : wrap64 (1 + Int.tmod (wrap64 x) 9) = 1 + x % 9 := by
    rw [wr (x := x) (by omega) (by omega), tm (by omega), wr (by omega) (by omega)]
  rw [hN]
  have hn1 : 1 ≤ 1 + x % 9 := by omega
  have hn9 : 1 + x % 9 ≤ 9 := by omega
  generalize 1 + x % 9 = n at hn1 hn9
  by_cases ht : 1 ≤ e ∧ e ≤ p ∧ p ≤ 1048575
  · rw [decide_eq_true ht, if_pos rfl]
    have hm := mul_bound (a := p) (b := n) (A := 1048575) (B := 9) (by omega) (by omega) (by omega) (by omega)
    rw [wr (x := p * n) (by omega) (by omega)]
    simp only [evenhandedlaw3_WindowScales.j0, if_true]
    by_cases hb : p * n > 1048575
    · rw [if_pos hb]
    · rw [if_neg hb]
      by_cases hb2 : e > 2000
      · rw [decide_eq_true hb2, if_pos rfl]
      · rw [decide_eq_false hb2, if_neg (by decide)]
        exact loop e p n ht.1 ht.2.1 ht.2.2 hn1 (by omega) e.toNat 1 _ (by omega) (by omega) (by omega)
  · rw [decide_eq_false ht, if_neg (by decide)]
    simp only [evenhandedlaw3_WindowScales.j0, if_true]

end Go.Proofs.Ytnndjjpeaaloiaa.Pure

/- The law evenhandedlaw3.WindowReckons: for every task and every quantum the window, the bit and the group deadline of the program are those of the reference. No condition. -/
import Derived.Test.YtnndjjpeaaloiaaPlain
import Derived.Test.YtnndjjpeaaloiaaPWindowReckonsx2
set_option linter.unusedVariables false
namespace Go.Proofs.Ytnndjjpeaaloiaa.Pure
open Go.RowKit Go.Proofs.Ytnndjjpeaaloiaa.PWindowReckons Go.Proofs.YtnndjjpeaaloiaaW.PrintWords Go.Proofs.YtnndjjpeaaloiaaW.PrintLast EvPlain
theorem wr {x : Int} (h1 : -9223372036854775808 ≤ x) (h2 : x < 9223372036854775808) : wrap64 x = x := by
  unfold wrap64; omega
theorem td {a b : Int} (h : 0 ≤ a) : Int.tdiv a b = a / b := Int.tdiv_eq_ediv_of_nonneg h
theorem tm {a b : Int} (h : 0 ≤ a) : Int.tmod a b = a % b := Int.tmod_eq_emod_of_nonneg h
theorem May_yes {e p i : Int} (h : T e p i) : window_May.f e p i = some true := by
  simp [window_May.f, window_task.f, h.e1, h.ep, h.pm, h.i1, h.ie]
theorem task_yes {e p : Int} (h1 : 1 ≤ e) (h2 : e ≤ p) (h3 : p ≤ 1048575) : window_task.f e p = some true := by
  simp [window_task.f, h1, h2, h3]
theorem task_no {e p : Int} (h : ¬ (1 ≤ e ∧ e ≤ p ∧ p ≤ 1048575)) : window_task.f e p = some false := by
  unfold window_task.f; split
  · split
    · rw [decide_eq_false (by omega)]
    · rfl
  · rfl
theorem task_eq (e p : Int) : window_task.f e p = some (decide (1 ≤ e ∧ e ≤ p ∧ p ≤ 1048575)) := by
  by_cases h : 1 ≤ e ∧ e ≤ p ∧ p ≤ 1048575
  · rw [task_yes h.1 h.2.1 h.2.2, decide_eq_true h]
  · rw [task_no h, decide_eq_false h]
theorem May_no {e p i : Int} (h : ¬ T e p i) : window_May.f e p i = some false := by
  unfold window_May.f; rw [task_eq]; simp only [Option.bind_some]
  split <;> rename_i ht
  · split
    · rw [decide_eq_false]
      intro hi; have := of_decide_eq_true ht; exact h ⟨this.1, this.2.1, this.2.2, by omega, hi⟩
    · rfl
  · rfl
theorem Release_yes {e p i : Int} (h : T e p i) : window_Release.f e p i = some (rel e p i) := by
  have h1 := h.ip1; have h2 := h.rel_le
  unfold window_Release.f; rw [May_yes h]; simp only [Option.bind_some, if_true]
  rw [if_neg (by have := h.e1; omega), wr (x := i - 1) (by have := h.i1; omega) (by have := h.ie; have := h.ep; have := h.pm; omega), wr (x := (i - 1) * p) (by omega) (by omega), td h1.1]
  have := h.pm
  exact congrArg some (wr (x := rel e p i) (by omega) (by omega))
theorem Release_no {e p i : Int} (h : ¬ T e p i) : window_Release.f e p i = some 0 := by
  unfold window_Release.f; rw [May_no h]; rfl
theorem up_at {a b : Int} (ha : 0 ≤ a) (hb : 1 ≤ b) (h : a + b < 9223372036854775808) : window_up.f a b = some (up a b) := by
  unfold window_up.f
  have := up_nonneg ha (b := b) (by omega)
  rw [if_neg (by omega), wr (x := a + b) (by omega) (by omega), wr (x := a + b - 1) (by omega) (by omega), td (by omega)]
  exact congrArg some (wr (x := up a b) (by omega) (by omega))
theorem Deadline_yes {e p i : Int} (h : T e p i) : window_Deadline.f e p i = some (dl e p i) := by
  have h1 := h.ip; have := h.ep; have := h.pm; have := h.e1
  unfold window_Deadline.f; rw [May_yes h]; simp only [Option.bind_some, if_true]
  rw [wr (x := i * p) (by omega) (by omega), up_at (by omega) h.e1 (by omega)]; rfl
theorem Deadline_no {e p i : Int} (h : ¬ T e p i) : window_Deadline.f e p i = some 0 := by
  unfold window_Deadline.f; rw [May_no h]; rfl
theorem Bit_yes {e p i : Int} (h : T e p i) : window_Bit.f e p i = some (if i * p % e = 0 then 0 else 1) := by
  have h1 := h.ip
  unfold window_Bit.f; rw [May_yes h]; simp only [Option.bind_some, if_true]
  rw [if_neg (by have := h.e1; omega), wr (x := i * p) (by omega) (by omega), tm (by omega)]; split <;> rfl
theorem Bit_no {e p i : Int} (h : ¬ T e p i) : window_Bit.f e p i = some 0 := by
  unfold window_Bit.f; rw [May_no h]; rfl
theorem Heavy_yes {e p : Int} (h1 : 1 ≤ e) (h2 : e ≤ p) (h3 : p ≤ 1048575) : window_Heavy.f e p = some (decide (2 * e ≥ p)) := by
  unfold window_Heavy.f; rw [task_yes h1 h2 h3]; simp only [Option.bind_some, if_true]
  rw [wr (x := 2 * e) (by omega) (by omega)]
theorem Heavy_no {e p : Int} (h : ¬ (1 ≤ e ∧ e ≤ p ∧ p ≤ 1048575)) : window_Heavy.f e p = some false := by
  unfold window_Heavy.f; rw [task_no h]; rfl
theorem Group_yes {e p i : Int} (h : T e p i) (k : Nat) (hh : p ≤ 2 * e) (hlt : e < p) : window_Group.f (k + 1) e p i = some (grp e p i) := by
  have h1 := h.dl_le; have e1 := h.e1; have pm := h.pm
  have h2 := mul_bound (a := dl e p i) (b := p - e) (A := 1048575) (B := 1048575) (by omega) (by omega) (by omega) (by omega)
  have h3 := h.hol_le
  have h4 := mul_bound (a := hol e p i) (b := p) (A := 1048575) (B := 1048575) (by omega) (by omega) (by omega) (by omega)
  unfold window_Group.f; rw [May_yes h, Heavy_yes h.e1 h.ep h.pm]; simp only [Option.bind_some, if_true]
  rw [decide_eq_true (by omega), if_pos rfl, beq_false_of_ne (by omega)]
  simp only [window_Group.j0]
  rw [if_neg (by decide), Deadline_yes h, Option.bind_some, wr (x := p - e) (by omega) (by omega), wr (x := dl e p i * (p - e)) (by omega) (by omega), up_at h2.1 (by omega) (by omega), Option.bind_some]
  have h5 : up (dl e p i * (p - e)) p = hol e p i := rfl
  rw [h5, wr (x := hol e p i * p) (by omega) (by omega), up_at h4.1 (by omega) (by omega)]; rfl
theorem Group_light {e p i : Int} (k : Nat) (hh : ¬ (T e p i ∧ p ≤ 2 * e ∧ e < p)) : window_Group.f (k + 1) e p i = some 0 := by
  unfold window_Group.f
  by_cases h : T e p i
  · have := h.e1; have := h.ep; have := h.pm
    rw [May_yes h, Heavy_yes h.e1 h.ep h.pm]; simp only [Option.bind_some, if_true]
    by_cases h2 : p ≤ 2 * e
    · have : e = p := by
        have := h.ep
        by_cases h3 : e < p
        · exact absurd ⟨h, h2, h3⟩ hh
        · omega
      subst this
      rw [decide_eq_true (by omega), if_pos rfl, beq_self_eq_true]; simp [window_Group.j0]
    · rw [decide_eq_false (by omega), if_neg (by decide)]; simp [window_Group.j0]
  · rw [May_no h]; simp [window_Group.j0]
theorem awake_yes (k : Nat) : evenhandedlaw3_awake.f (k + 1) = some true := by
  simp only [evenhandedlaw3_awake.f, window_Group.f, window_Group.j0]; decide +kernel
theorem TaskMay_eq (e p : Int) : evenhandedref1_TaskMay.f e p = some (decide (1 ≤ e ∧ e ≤ p ∧ p ≤ 1048575)) := by
  unfold evenhandedref1_TaskMay.f
  by_cases h : 1 ≤ e ∧ e ≤ p ∧ p ≤ 1048575
  · rw [decide_eq_true h, if_pos (by omega), if_pos (by omega), if_pos (by omega), decide_eq_true (by omega)]
  · rw [decide_eq_false h]; split
    · split
      · split
        · rw [decide_eq_false (by omega)]
        · rfl
      · rfl
    · rfl
theorem T_iff {e p i : Int} : T e p i ↔ (1 ≤ e ∧ e ≤ p ∧ p ≤ 1048575) ∧ 1 ≤ i ∧ i ≤ e := ⟨fun h => ⟨⟨h.e1, h.ep, h.pm⟩, h.i1, h.ie⟩, fun ⟨⟨a, b, c⟩, d, e⟩ => ⟨a, b, c, d, e⟩⟩
theorem is64 {x : Int} (h : (Lit.int .i64 x).wf = true) : -9223372036854775808 ≤ x ∧ x < 9223372036854775808 := by
  have h1 : IntKind.i64.min = -9223372036854775808 := by decide
  have h2 : IntKind.i64.max = 9223372036854775807 := by decide
  simp only [Lit.wf, h1, h2, Bool.and_eq_true, decide_eq_true_eq] at h; omega
theorem Window_yes {e p i : Int} (h : T e p i) (k : Nat) : evenhandedref1_Window.f (k + 1) e p i = some (rel e p i, dl e p i, (if i * p % e = 0 then 0 else 1), if p ≤ 2 * e ∧ e < p then grp e p i else 0) := by
  have e1 := h.e1; have ep := h.ep; have pm := h.pm; have i1 := h.i1; have ie := h.ie
  have h1 := h.ip; have h2 := h.ip1; have h3 := h.dl_le; have h4 := h.rel_le; have h5 := h.hol_le
  have hR : wrap64 (Int.tdiv (wrap64 ((wrap64 (i - 1)) * p)) e) = rel e p i := by
    rw [wr (x := i - 1) (by omega) (by omega), wr (x := (i - 1) * p) (by omega) (by omega), td h2.1]
    exact wr (x := rel e p i) (by omega) (by omega)
  have hD : wrap64 (Int.tdiv (wrap64 ((wrap64 ((wrap64 (i * p)) + e)) - 1)) e) = dl e p i := by
    rw [wr (x := i * p) (by omega) (by omega), wr (x := i * p + e) (by omega) (by omega), wr (x := i * p + e - 1) (by omega) (by omega), td (by omega)]
    exact wr (x := dl e p i) (by omega) (by omega)
  unfold evenhandedref1_Window.f; rw [TaskMay_eq, decide_eq_true ⟨e1, ep, pm⟩]; simp only [Option.bind_some, if_true]
  rw [if_neg (by omega), decide_eq_false (by omega)]
  simp only [evenhandedref1_Window.j0]
  rw [if_neg (by decide), if_neg (by omega), hR, hD, wr (x := 2 * e) (by omega) (by omega), wr (x := i * p) (by omega) (by omega), tm (by omega), wr (x := p - e) (by omega) (by omega)]
  by_cases hl : p ≤ 2 * e ∧ e < p
  · have h6 := mul_bound (a := dl e p i) (b := p - e) (A := 1048575) (B := 1048575) (by omega) (by omega) (by omega) (by omega)
    have h7 := mul_bound (a := hol e p i) (b := p) (A := 1048575) (B := 1048575) (by omega) (by omega) (by omega) (by omega)
    have h8 := h.grp_le hl.2
    have hH : wrap64 (Int.tdiv (wrap64 ((wrap64 ((wrap64 (dl e p i * (p - e))) + p)) - 1)) p) = hol e p i := by
      rw [wr (x := dl e p i * (p - e)) (by omega) (by omega), wr (x := dl e p i * (p - e) + p) (by omega) (by omega), wr (x := dl e p i * (p - e) + p - 1) (by omega) (by omega), td (by omega)]
      exact wr (x := hol e p i) (by omega) (by omega)
    have hG : wrap64 (Int.tdiv (wrap64 ((wrap64 ((wrap64 (hol e p i * p)) + (p - e))) - 1)) (p - e)) = grp e p i := by
      rw [wr (x := hol e p i * p) (by omega) (by omega), wr (x := hol e p i * p + (p - e)) (by omega) (by omega), wr (x := hol e p i * p + (p - e) - 1) (by omega) (by omega), td (by omega)]
      exact wr (x := grp e p i) (by omega) (by omega)
    rw [hH, hG, if_pos hl]; simp only [if_neg (show ¬ 2 * e < p by omega), if_neg (show ¬ e = p by omega), if_neg (show ¬ p = 0 by omega), if_neg (show ¬ p - e = 0 by omega)]
    by_cases hz : i * p % e = 0
    · simp only [if_pos hz]
    · simp only [if_neg hz]
  · rw [if_neg hl]
    by_cases hz : i * p % e = 0
    · simp only [if_pos hz]
      by_cases h2e : 2 * e < p
      · simp only [if_pos h2e]
      · simp only [if_neg h2e, if_pos (show e = p by omega)]
    · simp only [if_neg hz]
      by_cases h2e : 2 * e < p
      · simp only [if_pos h2e]
      · simp only [if_neg h2e, if_pos (show e = p by omega)]
theorem Window_no {e p i : Int} (h : ¬ T e p i) (k : Nat) : evenhandedref1_Window.f (k + 1) e p i = some (0, 0, 0, 0) := by
  unfold evenhandedref1_Window.f; rw [TaskMay_eq]; simp only [Option.bind_some]
  split <;> rename_i ht
  · have ht := of_decide_eq_true ht
    split
    · simp [evenhandedref1_Window.j0]
    · rw [decide_eq_true (by rw [T_iff] at h; omega)]; simp [evenhandedref1_Window.j0]
  · simp [evenhandedref1_Window.j0]
theorem law_core (e p i : Int) (k : Nat) (b : Bool) (r d bt g : Int)
    (hr : window_Release.f e p i = some r) (hd : window_Deadline.f e p i = some d) (hbt : window_Bit.f e p i = some bt) (hg : window_Group.f (k + 1) e p i = some g)
    (hm : window_May.f e p i = some b) (he1 : -9223372036854775808 ≤ e) (he2 : e < 9223372036854775808) :
    evenhandedlaw3_WindowReckons.j0 (k + 2) e p i r d bt g b = some true := by
  simp only [evenhandedlaw3_WindowReckons.j0]
  rw [hr, hd, hbt, hg, hm, TaskMay_eq]; simp only [Option.bind_some, if_true, beq_self_eq_true]
  by_cases h : 1 ≤ e ∧ e ≤ p ∧ p ≤ 1048575
  · rw [Heavy_yes h.1 h.2.1 h.2.2, decide_eq_true h, wr (x := 2 * e) (by omega) (by omega)]; simp
  · rw [Heavy_no h, decide_eq_false h]; simp
theorem WindowReckons : evenhandedlaw3_WindowReckons.Pure := by
  intro e p i w0 w1 w2
  have he := is64 w0
  refine ⟨4, ?_⟩
  unfold evenhandedlaw3_WindowReckons.f
  rw [awake_yes 3, TaskMay_eq]; simp only [Option.bind_some, if_true]
  by_cases h : T e p i
  · have ht := (T_iff.1 h)
    rw [Window_yes h 3, decide_eq_true ht.1, Option.bind_some, if_pos rfl, if_pos ht.2.1, decide_eq_true ht.2.2]
    refine law_core e p i 2 _ _ _ _ _ (Release_yes h) (Deadline_yes h) (Bit_yes h) ?_ (May_yes h) he.1 he.2
    by_cases hl : p ≤ 2 * e ∧ e < p
    · simp only [if_pos hl]; exact Group_yes h 2 hl.1 hl.2
    · simp only [if_neg hl]; exact Group_light 2 fun x => hl x.2
  · rw [Window_no h 3, Option.bind_some]
    have hg : window_Group.f (2 + 1) e p i = some 0 := Group_light 2 fun x => h x.1
    have hf := law_core e p i 2 _ _ _ _ _ (Release_no h) (Deadline_no h) (Bit_no h) hg (May_no h) he.1 he.2
    split <;> rename_i hb
    · have hb := of_decide_eq_true hb
      split
      · rw [decide_eq_false (by rw [T_iff] at h; omega)]; exact hf
      · exact hf
    · exact hf

end Go.Proofs.Ytnndjjpeaaloiaa.Pure

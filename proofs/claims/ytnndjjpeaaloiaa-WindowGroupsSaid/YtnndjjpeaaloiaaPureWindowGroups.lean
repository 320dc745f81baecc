/- The law evenhandedlaw3.WindowGroups: the group deadline of a heavy quantum, counted on from it. No condition. -/
import Derived.Test.YtnndjjpeaaloiaaPlain
import Derived.Test.YtnndjjpeaaloiaaPWindowGroupsx2
set_option linter.unusedVariables false
namespace Go.Proofs.Ytnndjjpeaaloiaa.Pure
open Go.RowKit Go.Proofs.Ytnndjjpeaaloiaa.PWindowGroups Go.Proofs.YtnndjjpeaaloiaaW.PrintWords Go.Proofs.YtnndjjpeaaloiaaW.PrintLast EvPlain
theorem wr {x : Int} (h1 : -9223372036854775808 ≤ x) (h2 : x < 9223372036854775808) : wrap64 x = x := by
  unfold wrap64; omega
theorem td {a b : Int} (h : 0 ≤ a) : Int.tdiv a b = a / b := Int.tdiv_eq_ediv_of_nonneg h
theorem tm {a b : Int} (h : 0 ≤ a) : Int.tmod a b = a % b := Int.tmod_eq_emod_of_nonneg h
theorem May_yes {e p i : Int} (h : T e p i) : window_May.f e p i = some true := by
  simp [window_May.f, window_task.f, h.e1, h.ep, h.pm, h.i1, h.ie]
theorem task_yes {e p : Int} (h1 : 1 ≤ e) (h2 : e ≤ p) (h3 : p ≤ 1048575) : window_task.f e p = some true := by
  simp [window_task.f, h1, h2, h3]
theorem task_no {e p : Int} (h : ¬ (1 ≤ e ∧ e ≤ p ∧ p ≤ 1048575)) : window_task.f e p = some false := by
  unfold window_task.f; split
  · split
    · rw [decide_eq_false (by omega)]
    · rfl
  · rfl
theorem task_eq (e p : Int) : window_task.f e p = some (decide (1 ≤ e ∧ e ≤ p ∧ p ≤ 1048575)) := by
  by_cases h : 1 ≤ e ∧ e ≤ p ∧ p ≤ 1048575
  · rw [task_yes h.1 h.2.1 h.2.2, decide_eq_true h]
  · rw [task_no h, decide_eq_false h]
theorem May_no {e p i : Int} (h : ¬ T e p i) : window_May.f e p i = some false := by
  unfold window_May.f; rw [task_eq]; simp only [Option.bind_some]
  split <;> rename_i ht
  · split
    · rw [decide_eq_false]
      intro hi; have := of_decide_eq_true ht; exact h ⟨this.1, this.2.1, this.2.2, by omega, hi⟩
    · rfl
  · rfl
theorem Release_yes {e p i : Int} (h : T e p i) : window_Release.f e p i = some (rel e p i) := by
  have h1 := h.ip1; have h2 := h.rel_le
  unfold window_Release.f; rw [May_yes h]; simp only [Option.bind_some, if_true]
  rw [if_neg (by have := h.e1; omega), wr (x := i - 1) (by have := h.i1; omega) (by have := h.ie; have := h.ep; have := h.pm; omega), wr (x := (i - 1) * p) (by omega) (by omega), td h1.1]
  have := h.pm
  exact congrArg some (wr (x := rel e p i) (by omega) (by omega))
theorem Release_no {e p i : Int} (h : ¬ T e p i) : window_Release.f e p i = some 0 := by
  unfold window_Release.f; rw [May_no h]; rfl
theorem up_at {a b : Int} (ha : 0 ≤ a) (hb : 1 ≤ b) (h : a + b < 9223372036854775808) : window_up.f a b = some (up a b) := by
  unfold window_up.f
  have := up_nonneg ha (b := b) (by omega)
  rw [if_neg (by omega), wr (x := a + b) (by omega) (by omega), wr (x := a + b - 1) (by omega) (by omega), td (by omega)]
  exact congrArg some (wr (x := up a b) (by omega) (by omega))
theorem Deadline_yes {e p i : Int} (h : T e p i) : window_Deadline.f e p i = some (dl e p i) := by
  have h1 := h.ip; have := h.ep; have := h.pm; have := h.e1
  unfold window_Deadline.f; rw [May_yes h]; simp only [Option.bind_some, if_true]
  rw [wr (x := i * p) (by omega) (by omega), up_at (by omega) h.e1 (by omega)]; rfl
theorem Deadline_no {e p i : Int} (h : ¬ T e p i) : window_Deadline.f e p i = some 0 := by
  unfold window_Deadline.f; rw [May_no h]; rfl
theorem Bit_yes {e p i : Int} (h : T e p i) : window_Bit.f e p i = some (if i * p % e = 0 then 0 else 1) := by
  have h1 := h.ip
  unfold window_Bit.f; rw [May_yes h]; simp only [Option.bind_some, if_true]
  rw [if_neg (by have := h.e1; omega), wr (x := i * p) (by omega) (by omega), tm (by omega)]; split <;> rfl
theorem Bit_no {e p i : Int} (h : ¬ T e p i) : window_Bit.f e p i = some 0 := by
  unfold window_Bit.f; rw [May_no h]; rfl
theorem Heavy_yes {e p : Int} (h1 : 1 ≤ e) (h2 : e ≤ p) (h3 : p ≤ 1048575) : window_Heavy.f e p = some (decide (2 * e ≥ p)) := by
  unfold window_Heavy.f; rw [task_yes h1 h2 h3]; simp only [Option.bind_some, if_true]
  rw [wr (x := 2 * e) (by omega) (by omega)]
theorem Heavy_no {e p : Int} (h : ¬ (1 ≤ e ∧ e ≤ p ∧ p ≤ 1048575)) : window_Heavy.f e p = some false := by
  unfold window_Heavy.f; rw [task_no h]; rfl
theorem Group_yes {e p i : Int} (h : T e p i) (k : Nat) (hh : p ≤ 2 * e) (hlt : e < p) : window_Group.f (k + 1) e p i = some (grp e p i) := by
  have h1 := h.dl_le; have e1 := h.e1; have pm := h.pm
  have h2 := mul_bound (a := dl e p i) (b := p - e) (A := 1048575) (B := 1048575) (by omega) (by omega) (by omega) (by omega)
  have h3 := h.hol_le
  have h4 := mul_bound (a := hol e p i) (b := p) (A := 1048575) (B := 1048575) (by omega) (by omega) (by omega) (by omega)
  unfold window_Group.f; rw [May_yes h, Heavy_yes h.e1 h.ep h.pm]; simp only [Option.bind_some, if_true]
  rw [decide_eq_true (by omega), if_pos rfl, beq_false_of_ne (by omega)]
  simp only [window_Group.j0]
  rw [if_neg (by decide), Deadline_yes h, Option.bind_some, wr (x := p - e) (by omega) (by omega), wr (x := dl e p i * (p - e)) (by omega) (by omega), up_at h2.1 (by omega) (by omega), Option.bind_some]
  have h5 : up (dl e p i * (p - e)) p = hol e p i := rfl
  rw [h5, wr (x := hol e p i * p) (by omega) (by omega), up_at h4.1 (by omega) (by omega)]; rfl
theorem Group_light {e p i : Int} (k : Nat) (hh : ¬ (T e p i ∧ p ≤ 2 * e ∧ e < p)) : window_Group.f (k + 1) e p i = some 0 := by
  unfold window_Group.f
  by_cases h : T e p i
  · have := h.e1; have := h.ep; have := h.pm
    rw [May_yes h, Heavy_yes h.e1 h.ep h.pm]; simp only [Option.bind_some, if_true]
    by_cases h2 : p ≤ 2 * e
    · have : e = p := by
        have := h.ep
        by_cases h3 : e < p
        · exact absurd ⟨h, h2, h3⟩ hh
        · omega
      subst this
      rw [decide_eq_true (by omega), if_pos rfl, beq_self_eq_true]; simp [window_Group.j0]
    · rw [decide_eq_false (by omega), if_neg (by decide)]; simp [window_Group.j0]
  · rw [May_no h]; simp [window_Group.j0]
theorem awake_yes (k : Nat) : evenhandedlaw3_awake.f (k + 1) = some true := by
  simp only [evenhandedlaw3_awake.f, window_Group.f, window_Group.j0]; decide +kernel
theorem TaskMay_eq (e p : Int) : evenhandedref1_TaskMay.f e p = some (decide (1 ≤ e ∧ e ≤ p ∧ p ≤ 1048575)) := by
  unfold evenhandedref1_TaskMay.f
  by_cases h : 1 ≤ e ∧ e ≤ p ∧ p ≤ 1048575
  · rw [decide_eq_true h, if_pos (by omega), if_pos (by omega), if_pos (by omega), decide_eq_true (by omega)]
  · rw [decide_eq_false h]; split
    · split
      · split
        · rw [decide_eq_false (by omega)]
        · rfl
      · rfl
    · rfl
theorem T_iff {e p i : Int} : T e p i ↔ (1 ≤ e ∧ e ≤ p ∧ p ≤ 1048575) ∧ 1 ≤ i ∧ i ≤ e := ⟨fun h => ⟨⟨h.e1, h.ep, h.pm⟩, h.i1, h.ie⟩, fun ⟨⟨a, b, c⟩, d, e⟩ => ⟨a, b, c, d, e⟩⟩
theorem is64 {x : Int} (h : (Lit.int .i64 x).wf = true) : -9223372036854775808 ≤ x ∧ x < 9223372036854775808 := by
  have h1 : IntKind.i64.min = -9223372036854775808 := by decide
  have h2 : IntKind.i64.max = 9223372036854775807 := by decide
  simp only [Lit.wf, h1, h2, Bool.and_eq_true, decide_eq_true_eq] at h; omega
theorem grp_is {e p i g : Int} (h : T e p i) (hlt : e < p) (h1 : (g - 1) * (p - e) < (dl e p i - i) * p) (h2 : (dl e p i - i) * p ≤ g * (p - e)) : grp e p i = g := by
  unfold grp; rw [h.hol_eq]; exact up_uniq (by omega) h1 h2
/-- The state of the scan at k: what lay between has no hole, and no window without overlap. -/
def Inv (e p i k : Int) : Prop := k = i ∨ (i < k ∧ dl e p (k - 1) = dl e p i + (k - 1 - i) ∧ (k - 1) * p % e ≠ 0)
theorem bits {e p k : Int} (h : T e p k) (h0 : ¬ (k * p % e = 0)) : k * p < dl e p k * e := by
  have h2 := h.dl_spec; have e1 := h.e1
  rw [mod_zero_iff (show 0 < e by omega) h2.1 h2.2] at h0; omega
theorem wraps (e p i k : Int) (h : T e p k) (m : Nat) : evenhandedlaw3_WindowGroups.l0 (m + 1) e p i k =
    (if dl e p k - rel e p k = 3 then evenhandedlaw3_WindowGroups.j2 m e p i k (dl e p k) (k * p % e != 0) (decide (k > i)) else evenhandedlaw3_WindowGroups.j2 m e p i k (dl e p k) (k * p % e != 0) false) := by
  have e1 := h.e1; have ep := h.ep; have pm := h.pm; have i1 := h.i1; have ie := h.ie
  have h1 := h.ip; have h2 := h.ip1; have h3 := h.dl_le; have h4 := h.rel_le
  have hR : wrap64 (Int.tdiv (wrap64 ((wrap64 (k - 1)) * p)) e) = rel e p k := by
    rw [wr (x := k - 1) (by omega) (by omega), wr (x := (k - 1) * p) (by omega) (by omega), td h2.1]
    exact wr (x := rel e p k) (by omega) (by omega)
  have hD : wrap64 (Int.tdiv (wrap64 ((wrap64 ((wrap64 (k * p)) + e)) - 1)) e) = dl e p k := by
    rw [wr (x := k * p) (by omega) (by omega), wr (x := k * p + e) (by omega) (by omega), wr (x := k * p + e - 1) (by omega) (by omega), td (by omega)]
    exact wr (x := dl e p k) (by omega) (by omega)
  rw [evenhandedlaw3_WindowGroups.l0]
  rw [if_neg (by omega), hR, hD, wr (x := dl e p k - rel e p k) (by omega) (by omega), wr (x := k * p) (by omega) (by omega), tm (by omega)]
theorem step_end (e p i k : Int) (hi : T e p i) (hh : p ≤ 2 * e) (hlt : e < p) (hk : i ≤ k) (hke : k ≤ e) (m : Nat) (hv : Inv e p i k) (hz : k * p % e = 0) : evenhandedlaw3_WindowGroups.l0 (m + 3) e p i k = some true := by
  have e1 := hi.e1; have pm := hi.pm; have i1 := hi.i1; have ep := hi.ep
  have h : T e p k := ⟨e1, hi.ep, pm, by omega, hke⟩
  have hD := h.dl_le
  have hs := h.dl_spec
  have hkd : k * p = dl e p k * e := (mod_zero_iff (by omega) hs.1 hs.2).1 hz
  rw [wraps e p i k h]
  have hnz : (k * p % e != 0) = false := by simpa using hz
  have hgo : dl e p k = dl e p i + (k - i) → evenhandedlaw3_WindowGroups.j2 (m + 2) e p i k (dl e p k) (k * p % e != 0) false = some true := by
    intro hdk
    rw [hnz]; simp only [evenhandedlaw3_WindowGroups.j2]
    rw [if_neg (by decide), if_neg (by decide), Group_yes hi m hh hlt]; simp only [Option.bind_some]
    rw [grp_is hi hlt (g := dl e p k)]
    · simp
    · rw [show dl e p i - i = dl e p k - k by omega, Int.sub_mul, Int.sub_mul, Int.mul_sub]; omega
    · rw [show dl e p i - i = dl e p k - k by omega, Int.sub_mul, Int.mul_sub]; omega
  rcases hv with rfl | ⟨hik, hd1, hz1⟩
  · rw [decide_eq_false (by omega), hgo (by omega)]; split <;> rfl
  · have h' : T e p (k - 1) := ⟨e1, hi.ep, pm, by omega, by omega⟩
    have hnx := h'.next
    rw [show k - 1 + 1 = k by omega, if_neg hz1] at hnx
    have hb := bits h' hz1
    have hs' := h'.dl_spec
    have hkp : (k - 1) * p = k * p - p := by rw [Int.sub_mul, Int.one_mul]
    rw [Int.sub_mul, Int.one_mul] at hs hs'
    have hup : dl e p (k - 1) < dl e p k := lt_of_mul_lt' _ _ e e1 (by omega)
    have hdn : dl e p k < dl e p (k - 1) + 3 := lt_of_mul_lt' _ _ e e1 (by rw [Int.add_mul]; omega)
    by_cases h3 : dl e p k - rel e p k = 3
    · rw [if_pos h3, decide_eq_true (by omega)]
      simp only [evenhandedlaw3_WindowGroups.j2]
      rw [if_pos trivial, Group_yes hi m hh hlt, wr (x := dl e p k - 1) (by omega) (by omega)]; simp only [Option.bind_some]
      rw [grp_is hi hlt (g := dl e p k - 1)]
      · simp
      · have e2 : dl e p i - i = dl e p k - 1 - k := by omega
        rw [e2, show dl e p k - 1 - 1 = dl e p (k - 1) by omega]
        rw [Int.mul_sub, Int.sub_mul _ k, show dl e p k - 1 = dl e p (k - 1) + 1 by omega, Int.add_mul]; omega
      · have e2 : dl e p i - i = dl e p k - 1 - k := by omega
        rw [e2, Int.mul_sub, Int.sub_mul _ k, Int.sub_mul _ 1 e]; omega
    · rw [if_neg h3]; exact hgo (by omega)
theorem loop (e p i : Int) (hi : T e p i) (hh : p ≤ 2 * e) (hlt : e < p) (n : Nat) : ∀ (k : Int) (m : Nat), i ≤ k → k ≤ e → e - k = n → 2 * n + 3 ≤ m → Inv e p i k → evenhandedlaw3_WindowGroups.l0 m e p i k = some true := by
  have e1 := hi.e1; have pm := hi.pm; have i1 := hi.i1
  induction n with
  | zero =>
    intro k m hk hke hn hm hv
    obtain rfl : k = e := by omega
    obtain ⟨m, rfl⟩ : ∃ q, m = q + 3 := ⟨m - 3, by omega⟩
    exact step_end k p i k hi hh hlt hk (by omega) m hv (by rw [Int.mul_comm]; exact Int.mul_emod_left p k)
  | succ n ih =>
    intro k m hk hke hn hm hv
    obtain ⟨m, rfl⟩ : ∃ q, m = q + 3 := ⟨m - 3, by omega⟩
    by_cases hz : k * p % e = 0
    · exact step_end e p i k hi hh hlt hk hke m hv hz
    · have h : T e p k := ⟨e1, hi.ep, pm, by omega, hke⟩
      have hD := h.dl_le
      rw [wraps e p i k h]
      have hnz : (k * p % e != 0) = true := by simpa using hz
      have hgo : dl e p k = dl e p i + (k - i) → evenhandedlaw3_WindowGroups.j2 (m + 2) e p i k (dl e p k) (k * p % e != 0) false = some true := by
        intro hdk
        rw [hnz]; simp only [evenhandedlaw3_WindowGroups.j2]
        rw [if_neg (by decide), if_pos trivial, wr (x := k + 1) (by omega) (by omega)]
        refine ih (k + 1) (m + 1) (by omega) (by omega) (by omega) (by omega) (.inr ⟨by omega, ?_, ?_⟩)
        · rw [show k + 1 - 1 = k by omega, hdk]
        · rw [show k + 1 - 1 = k by omega]; exact hz
      rcases hv with rfl | ⟨hik, hd1, hz1⟩
      · rw [decide_eq_false (by omega)]
        rw [hgo (by omega)]; split <;> rfl
      · have h' : T e p (k - 1) := ⟨e1, hi.ep, pm, by omega, by omega⟩
        have hnx := h'.next
        rw [show k - 1 + 1 = k by omega, if_neg hz1] at hnx
        have hb := bits h' hz1
        have hs := h.dl_spec; have hs' := h'.dl_spec
        have hkp : (k - 1) * p = k * p - p := by rw [Int.sub_mul, Int.one_mul]
        rw [Int.sub_mul, Int.one_mul] at hs hs'
        have ep := hi.ep
        have hup : dl e p (k - 1) < dl e p k := lt_of_mul_lt' _ _ e e1 (by omega)
        have hdn : dl e p k < dl e p (k - 1) + 3 := lt_of_mul_lt' _ _ e e1 (by rw [Int.add_mul]; omega)
        by_cases h3 : dl e p k - rel e p k = 3
        · rw [if_pos h3, decide_eq_true (by omega)]
          simp only [evenhandedlaw3_WindowGroups.j2]
          rw [if_pos trivial, Group_yes hi m hh hlt, wr (x := dl e p k - 1) (by omega) (by omega)]; simp only [Option.bind_some]
          rw [grp_is hi hlt (g := dl e p k - 1)]
          · simp
          · have e2 : dl e p i - i = dl e p k - 1 - k := by omega
            rw [e2, show dl e p k - 1 - 1 = dl e p (k - 1) by omega]
            rw [Int.mul_sub, Int.sub_mul _ k, show dl e p k - 1 = dl e p (k - 1) + 1 by omega, Int.add_mul]; omega
          · have e2 : dl e p i - i = dl e p k - 1 - k := by omega
            rw [e2, Int.mul_sub, Int.sub_mul _ k, Int.sub_mul _ 1 e]; omega
        · rw [if_neg h3]; exact hgo (by omega)
theorem WindowGroups : evenhandedlaw3_WindowGroups.Pure := by
  intro e p i w0 w1 w2
  have he := is64 w0
  refine ⟨2 * e.toNat + 10, ?_⟩
  unfold evenhandedlaw3_WindowGroups.f
  rw [awake_yes (2 * e.toNat + 9), TaskMay_eq]; simp only [Option.bind_some, if_true]
  simp only [evenhandedlaw3_WindowGroups.j0, if_true]
  by_cases ht : 1 ≤ e ∧ e ≤ p ∧ p ≤ 1048575
  · rw [decide_eq_true ht, if_pos rfl, wr (x := 2 * e) (by omega) (by omega)]
    by_cases h1 : 2 * e < p
    · rw [if_pos h1]
    rw [if_neg h1]
    by_cases h2 : e = p
    · rw [if_pos h2]
    rw [if_neg h2]
    by_cases h3 : p > 400
    · rw [if_pos h3]
    rw [if_neg h3]
    by_cases h4 : i < 1
    · rw [if_pos h4]
    rw [if_neg h4]
    by_cases h5 : i > e
    · rw [decide_eq_true h5, if_pos rfl]
    rw [decide_eq_false h5, if_neg (by decide)]
    exact loop e p i ⟨ht.1, ht.2.1, ht.2.2, by omega, by omega⟩ (by omega) (by omega) (e - i).toNat i _ (by omega) (by omega) (by omega) (by omega) (.inl rfl)
  · rw [decide_eq_false ht, if_neg (by decide)]

end Go.Proofs.Ytnndjjpeaaloiaa.Pure

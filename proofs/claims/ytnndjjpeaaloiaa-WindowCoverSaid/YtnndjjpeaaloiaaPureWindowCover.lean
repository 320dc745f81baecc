/- The law evenhandedlaw3.WindowCover: all windows of a job together cover its whole time, and no slot lies in more than two. No condition. -/
import Derived.Test.YtnndjjpeaaloiaaPlain
import Derived.Test.YtnndjjpeaaloiaaPWindowCoverx2
set_option linter.unusedVariables false
namespace Go.Proofs.Ytnndjjpeaaloiaa.Pure
open Go.RowKit Go.Proofs.Ytnndjjpeaaloiaa.PWindowCover Go.Proofs.YtnndjjpeaaloiaaW.PrintWords Go.Proofs.YtnndjjpeaaloiaaW.PrintLast EvPlain
theorem wr {x : Int} (h1 : -9223372036854775808 ≤ x) (h2 : x < 9223372036854775808) : wrap64 x = x := by
  unfold wrap64; omega
theorem td {a b : Int} (h : 0 ≤ a) : Int.tdiv a b = a / b := Int.tdiv_eq_ediv_of_nonneg h
theorem tm {a b : Int} (h : 0 ≤ a) : Int.tmod a b = a % b := Int.tmod_eq_emod_of_nonneg h
theorem May_yes {e p i : Int} (h : T e p i) : window_May.f e p i = some true := by
  simp [window_May.f, window_task.f, h.e1, h.ep, h.pm, h.i1, h.ie]
theorem task_yes {e p : Int} (h1 : 1 ≤ e) (h2 : e ≤ p) (h3 : p ≤ 1048575) : window_task.f e p = some true := by
  simp [window_task.f, h1, h2, h3]
theorem task_no {e p : Int} (h : ¬ (1 ≤ e ∧ e ≤ p ∧ p ≤ 1048575)) : window_task.f e p = some false := by
  unfold window_task.f; split
  · split
    · rw [decide_eq_false (by omega)]
    · rfl
  · rfl
theorem task_eq (e p : Int) : window_task.f e p = some (decide (1 ≤ e ∧ e ≤ p ∧ p ≤ 1048575)) := by
  by_cases h : 1 ≤ e ∧ e ≤ p ∧ p ≤ 1048575
  · rw [task_yes h.1 h.2.1 h.2.2, decide_eq_true h]
  · rw [task_no h, decide_eq_false h]
theorem May_no {e p i : Int} (h : ¬ T e p i) : window_May.f e p i = some false := by
  unfold window_May.f; rw [task_eq]; simp only [Option.bind_some]
  split <;> rename_i ht
  · split
    · rw [decide_eq_false]
      intro hi; have := of_decide_eq_true ht; exact h ⟨this.1, this.2.1, this.2.2, by omega, hi⟩
    · rfl
  · rfl
theorem Release_yes {e p i : Int} (h : T e p i) : window_Release.f e p i = some (rel e p i) := by
  have h1 := h.ip1; have h2 := h.rel_le
  unfold window_Release.f; rw [May_yes h]; simp only [Option.bind_some, if_true]
  rw [if_neg (by have := h.e1; omega), wr (x := i - 1) (by have := h.i1; omega) (by have := h.ie; have := h.ep; have := h.pm; omega), wr (x := (i - 1) * p) (by omega) (by omega), td h1.1]
  have := h.pm
  exact congrArg some (wr (x := rel e p i) (by omega) (by omega))
theorem Release_no {e p i : Int} (h : ¬ T e p i) : window_Release.f e p i = some 0 := by
  unfold window_Release.f; rw [May_no h]; rfl
theorem up_at {a b : Int} (ha : 0 ≤ a) (hb : 1 ≤ b) (h : a + b < 9223372036854775808) : window_up.f a b = some (up a b) := by
  unfold window_up.f
  have := up_nonneg ha (b := b) (by omega)
  rw [if_neg (by omega), wr (x := a + b) (by omega) (by omega), wr (x := a + b - 1) (by omega) (by omega), td (by omega)]
  exact congrArg some (wr (x := up a b) (by omega) (by omega))
theorem Deadline_yes {e p i : Int} (h : T e p i) : window_Deadline.f e p i = some (dl e p i) := by
  have h1 := h.ip; have := h.ep; have := h.pm; have := h.e1
  unfold window_Deadline.f; rw [May_yes h]; simp only [Option.bind_some, if_true]
  rw [wr (x := i * p) (by omega) (by omega), up_at (by omega) h.e1 (by omega)]; rfl
theorem Deadline_no {e p i : Int} (h : ¬ T e p i) : window_Deadline.f e p i = some 0 := by
  unfold window_Deadline.f; rw [May_no h]; rfl
theorem Bit_yes {e p i : Int} (h : T e p i) : window_Bit.f e p i = some (if i * p % e = 0 then 0 else 1) := by
  have h1 := h.ip
  unfold window_Bit.f; rw [May_yes h]; simp only [Option.bind_some, if_true]
  rw [if_neg (by have := h.e1; omega), wr (x := i * p) (by omega) (by omega), tm (by omega)]; split <;> rfl
theorem Bit_no {e p i : Int} (h : ¬ T e p i) : window_Bit.f e p i = some 0 := by
  unfold window_Bit.f; rw [May_no h]; rfl
theorem Heavy_yes {e p : Int} (h1 : 1 ≤ e) (h2 : e ≤ p) (h3 : p ≤ 1048575) : window_Heavy.f e p = some (decide (2 * e ≥ p)) := by
  unfold window_Heavy.f; rw [task_yes h1 h2 h3]; simp only [Option.bind_some, if_true]
  rw [wr (x := 2 * e) (by omega) (by omega)]
theorem Heavy_no {e p : Int} (h : ¬ (1 ≤ e ∧ e ≤ p ∧ p ≤ 1048575)) : window_Heavy.f e p = some false := by
  unfold window_Heavy.f; rw [task_no h]; rfl
theorem Group_yes {e p i : Int} (h : T e p i) (k : Nat) (hh : p ≤ 2 * e) (hlt : e < p) : window_Group.f (k + 1) e p i = some (grp e p i) := by
  have h1 := h.dl_le; have e1 := h.e1; have pm := h.pm
  have h2 := mul_bound (a := dl e p i) (b := p - e) (A := 1048575) (B := 1048575) (by omega) (by omega) (by omega) (by omega)
  have h3 := h.hol_le
  have h4 := mul_bound (a := hol e p i) (b := p) (A := 1048575) (B := 1048575) (by omega) (by omega) (by omega) (by omega)
  unfold window_Group.f; rw [May_yes h, Heavy_yes h.e1 h.ep h.pm]; simp only [Option.bind_some, if_true]
  rw [decide_eq_true (by omega), if_pos rfl, beq_false_of_ne (by omega)]
  simp only [window_Group.j0]
  rw [if_neg (by decide), Deadline_yes h, Option.bind_some, wr (x := p - e) (by omega) (by omega), wr (x := dl e p i * (p - e)) (by omega) (by omega), up_at h2.1 (by omega) (by omega), Option.bind_some]
  have h5 : up (dl e p i * (p - e)) p = hol e p i := rfl
  rw [h5, wr (x := hol e p i * p) (by omega) (by omega), up_at h4.1 (by omega) (by omega)]; rfl
theorem Group_light {e p i : Int} (k : Nat) (hh : ¬ (T e p i ∧ p ≤ 2 * e ∧ e < p)) : window_Group.f (k + 1) e p i = some 0 := by
  unfold window_Group.f
  by_cases h : T e p i
  · have := h.e1; have := h.ep; have := h.pm
    rw [May_yes h, Heavy_yes h.e1 h.ep h.pm]; simp only [Option.bind_some, if_true]
    by_cases h2 : p ≤ 2 * e
    · have : e = p := by
        have := h.ep
        by_cases h3 : e < p
        · exact absurd ⟨h, h2, h3⟩ hh
        · omega
      subst this
      rw [decide_eq_true (by omega), if_pos rfl, beq_self_eq_true]; simp [window_Group.j0]
    · rw [decide_eq_false (by omega), if_neg (by decide)]; simp [window_Group.j0]
  · rw [May_no h]; simp [window_Group.j0]
theorem awake_yes (k : Nat) : evenhandedlaw3_awake.f (k + 1) = some true := by
  simp only [evenhandedlaw3_awake.f, window_Group.f, window_Group.j0]; decide +kernel
theorem TaskMay_eq (e p : Int) : evenhandedref1_TaskMay.f e p = some (decide (1 ≤ e ∧ e ≤ p ∧ p ≤ 1048575)) := by
  unfold evenhandedref1_TaskMay.f
  by_cases h : 1 ≤ e ∧ e ≤ p ∧ p ≤ 1048575
  · rw [decide_eq_true h, if_pos (by omega), if_pos (by omega), if_pos (by omega), decide_eq_true (by omega)]
  · rw [decide_eq_false h]; split
    · split
      · split
        · rw [decide_eq_false (by omega)]
        · rfl
      · rfl
    · rfl
theorem T_iff {e p i : Int} : T e p i ↔ (1 ≤ e ∧ e ≤ p ∧ p ≤ 1048575) ∧ 1 ≤ i ∧ i ≤ e := ⟨fun h => ⟨⟨h.e1, h.ep, h.pm⟩, h.i1, h.ie⟩, fun ⟨⟨a, b, c⟩, d, e⟩ => ⟨a, b, c, d, e⟩⟩
theorem is64 {x : Int} (h : (Lit.int .i64 x).wf = true) : -9223372036854775808 ≤ x ∧ x < 9223372036854775808 := by
  have h1 : IntKind.i64.min = -9223372036854775808 := by decide
  have h2 : IntKind.i64.max = 9223372036854775807 := by decide
  simp only [Lit.wf, h1, h2, Bool.and_eq_true, decide_eq_true_eq] at h; omega
theorem rd_set (l : List Int) (j i v : Int) (hj : 0 ≤ j) (hl : j < l.length) (hi : 0 ≤ i) : rd (l.set j.toNat v) i = if i = j then v else rd l i := by
  unfold rd
  rw [List.getD_eq_getElem?_getD, List.getD_eq_getElem?_getD, List.getElem?_set]
  by_cases h : i = j
  · subst h; rw [if_pos rfl, if_pos rfl, if_pos (by omega)]; rfl
  · rw [if_neg (by omega), if_neg h]
theorem inner (e p i : Int) (h : T e p i) (n : Nat) : ∀ (t : Int) (l : List Int) (k : Nat), rel e p i ≤ t → dl e p i - t = n → (l.length : Int) = p → (∀ x, t ≤ x → 0 ≤ rd l x ∧ rd l x ≤ 5) →
    ∃ l', evenhandedlaw3_WindowCover.l1 (k + n + 1) e p l i t = evenhandedlaw3_WindowCover.l0 k e p l' (i + 1) ∧ l'.length = l.length ∧ ∀ x, 0 ≤ x → rd l' x = rd l x + if t ≤ x ∧ x < dl e p i then 1 else 0 := by
  have h3 := h.dl_le; have h4 := h.rel_le; have hpm := h.pm; have hie := h.ie; have hep := h.ep; have hi1 := h.i1
  induction n with
  | zero =>
    intro t l k ht hn hl hb
    refine ⟨l, ?_, rfl, fun x hx => by rw [if_neg (by omega), Int.add_zero]⟩
    simp only [evenhandedlaw3_WindowCover.l1]
    rw [Deadline_yes h]; simp only [Option.bind_some]
    rw [if_neg (by omega), wr (x := i + 1) (by omega) (by omega)]
  | succ n ih =>
    intro t l k ht hn hl hb
    have hbt := hb t (by omega)
    obtain ⟨l', e1, e2, e3⟩ := ih (t + 1) (l.set t.toNat (rd l t + 1)) k (by omega) (by omega) (by rw [List.length_set]; exact hl) (fun x hx => by
      rw [rd_set l t x _ (by omega) (by omega) (by omega), if_neg (by omega)]; exact hb x (by omega))
    refine ⟨l', ?_, by rw [e2, List.length_set], fun x hx => ?_⟩
    · rw [← e1, show k + (n + 1) + 1 = (k + n + 1) + 1 by omega]
      rw [evenhandedlaw3_WindowCover.l1.eq_2]
      rw [Deadline_yes h]; simp only [Option.bind_some]
      rw [if_pos (by omega), if_neg (by omega), if_neg (by omega), if_pos (by omega), if_pos (by omega), wr (x := rd l t + 1) (by omega) (by omega), wr (x := t + 1) (by omega) (by omega)]
    · rw [e3 x hx, rd_set l t x _ (by omega) (by omega) hx]
      by_cases hxt : x = t
      · subst hxt; rw [if_pos rfl, if_neg (by omega), if_pos (by omega), Int.add_zero]
      · rw [if_neg hxt]
        by_cases hx2 : t + 1 ≤ x ∧ x < dl e p i
        · rw [if_pos hx2, if_pos (by omega)]
        · rw [if_neg hx2, if_neg (by omega)]
def Inv (e p i : Int) (l : List Int) : Prop := (l.length : Int) = p ∧ ∀ x, 0 ≤ x → x < p → (x < dl e p (i - 1) - 1 → 1 ≤ rd l x ∧ rd l x ≤ 2) ∧ (x = dl e p (i - 1) - 1 → rd l x = 1) ∧ (dl e p (i - 1) ≤ x → rd l x = 0)
theorem look (p : Int) (hp : p ≤ 500) (l : List Int) (hl : (l.length : Int) = p) (hb : ∀ x, 0 ≤ x → x < p → 1 ≤ rd l x ∧ rd l x ≤ 2) (n : Nat) : ∀ (x : Int) (k : Nat), 0 ≤ x → p - x = n → n < k → evenhandedlaw3_WindowCover.l2 k p l x = some true := by
  induction n with
  | zero =>
    intro x k hx hn hk
    obtain ⟨k, rfl⟩ : ∃ m, k = m + 1 := ⟨k - 1, by omega⟩
    simp only [evenhandedlaw3_WindowCover.l2]; rw [if_neg (by omega)]
  | succ n ih =>
    intro x k hx hn hk
    obtain ⟨k, rfl⟩ : ∃ m, k = m + 1 := ⟨k - 1, by omega⟩
    have := hb x hx (by omega)
    simp only [evenhandedlaw3_WindowCover.l2]
    rw [if_pos (by omega), if_pos (by omega), if_pos (by omega), if_neg (by omega), if_neg (by omega), wr (x := x + 1) (by omega) (by omega)]
    exact ih (x + 1) k (by omega) (by omega) (by omega)
theorem dl0 (e p : Int) (he : 1 ≤ e) : dl e p 0 = 0 := by
  unfold dl EvPlain.up; rw [Int.zero_mul]; exact Int.ediv_eq_zero_of_lt (by omega) (by omega)
theorem outer (e p : Int) (e1 : 1 ≤ e) (ep : e ≤ p) (pm : p ≤ 500) (n : Nat) : ∀ (i : Int) (l : List Int) (k : Nat), 1 ≤ i → e + 1 - i = n → 503 * n + 503 ≤ k → Inv e p i l → evenhandedlaw3_WindowCover.l0 k e p l i = some true := by
  induction n with
  | zero =>
    intro i l k hi hn hk hv
    obtain ⟨k, rfl⟩ : ∃ m, k = m + 1 := ⟨k - 1, by omega⟩
    simp only [evenhandedlaw3_WindowCover.l0]
    rw [if_neg (by omega)]
    obtain ⟨hl, hv⟩ := hv
    rw [show i - 1 = e by omega, T.last e1] at hv
    exact look p pm l hl (fun x hx hxp => by
      have := hv x hx hxp
      by_cases h : x < p - 1
      · exact this.1 h
      · have := this.2.1 (by omega); omega) p.toNat 0 k (by omega) (by omega) (by omega)
  | succ n ih =>
    intro i l k hi hn hk hv
    obtain ⟨k, rfl⟩ : ∃ m, k = m + 1 := ⟨k - 1, by omega⟩
    have h : T e p i := ⟨e1, ep, by omega, hi, by omega⟩
    have h3 := h.dl_le; have h4 := h.rel_le; have hlt := h.rel_lt_dl
    obtain ⟨hl, hv⟩ := hv
    have hlink : (rel e p i = dl e p (i - 1) ∨ rel e p i = dl e p (i - 1) - 1) ∧ dl e p (i - 1) < dl e p i := by
      by_cases h1 : i = 1
      · subst h1
        rw [show (1 : Int) - 1 = 0 from rfl, dl0 e p e1, T.first]; omega
      · have h' : T e p (i - 1) := ⟨e1, ep, by omega, by omega, by omega⟩
        have hn := h'.next
        rw [show i - 1 + 1 = i by omega] at hn
        have hs := h.dl_spec; have hs' := h'.dl_spec
        refine ⟨by split at hn <;> omega, lt_of_mul_lt' _ _ e e1 ?_⟩
        rw [Int.sub_mul, Int.sub_mul, Int.one_mul, Int.one_mul] at hs'; omega
    simp only [evenhandedlaw3_WindowCover.l0]
    rw [if_pos (by omega), Release_yes h]; simp only [Option.bind_some]
    obtain ⟨l', he1, he2, he3⟩ := inner e p i h (dl e p i - rel e p i).toNat (rel e p i) l (k - (dl e p i - rel e p i).toNat - 1) (by omega) (by omega) hl (fun x hx => by
      by_cases hxp : x < p
      · have := hv x (by omega) hxp
        by_cases ha : x < dl e p (i - 1) - 1
        · have := this.1 ha; omega
        · by_cases hb : x = dl e p (i - 1) - 1
          · have := this.2.1 hb; omega
          · have := this.2.2 (by omega); omega
      · unfold rd; rw [List.getD_eq_getElem?_getD, List.getElem?_eq_none (by omega)]; simp)
    rw [show k - (dl e p i - rel e p i).toNat - 1 + (dl e p i - rel e p i).toNat + 1 = k by omega] at he1
    rw [he1]
    refine ih (i + 1) l' _ (by omega) (by omega) (by omega) ⟨by omega, fun x hx hxp => ?_⟩
    rw [show i + 1 - 1 = i by omega, he3 x hx]
    have := hv x hx hxp
    refine ⟨fun ha => ?_, fun ha => ?_, fun ha => ?_⟩
    · by_cases hb : x < dl e p (i - 1) - 1
      · rw [if_neg (by omega), Int.add_zero]; exact this.1 hb
      · by_cases hc : x = dl e p (i - 1) - 1
        · rw [this.2.1 hc]; split <;> omega
        · rw [this.2.2 (by omega), if_pos (by omega)]; omega
    · rw [this.2.2 (by omega), if_pos (by omega)]; rfl
    · rw [this.2.2 (by omega), if_neg (by omega)]; rfl
theorem WindowCover : evenhandedlaw3_WindowCover.Pure := by
  intro e p w0 w1
  refine ⟨503 * e.toNat + 505, ?_⟩
  unfold evenhandedlaw3_WindowCover.f
  rw [awake_yes, TaskMay_eq]; simp only [Option.bind_some, if_true]
  by_cases ht : 1 ≤ e ∧ e ≤ p ∧ p ≤ 1048575
  · rw [decide_eq_true ht, if_pos rfl]
    simp only [evenhandedlaw3_WindowCover.j0]
    by_cases hb : p > 500
    · rw [decide_eq_true hb, if_pos rfl]
    · rw [decide_eq_false hb, if_neg (by decide), if_pos (by omega), if_pos (by omega)]
      refine outer e p ht.1 ht.2.1 (by omega) e.toNat 1 _ _ (by omega) (by omega) (by omega) ⟨by rw [List.length_replicate]; omega, fun x hx hxp => ?_⟩
      have hz : rd (List.replicate p.toNat 0) x = 0 := by
        unfold rd; rw [List.getD_eq_getElem?_getD, List.getElem?_replicate]; split <;> rfl
      rw [show (1 : Int) - 1 = 0 from rfl, dl0 e p ht.1]
      exact ⟨fun _ => by omega, fun _ => by omega, fun _ => hz⟩
  · rw [decide_eq_false ht, if_neg (by decide)]
    simp only [evenhandedlaw3_WindowCover.j0, if_true]

end Go.Proofs.Ytnndjjpeaaloiaa.Pure

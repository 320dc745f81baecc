/- The law evenhandedlaw3.WindowLengths: the lengths of a task's windows: a walk of the law's own code, over the printed contracts of the functions that it calls. No condition. -/
import Derived.Test.YtnndjjpeaaloiaaPlain
import Derived.Test.YtnndjjpeaaloiaaPWindowLengthsx1
set_option linter.unusedVariables false
set_option linter.unusedSimpArgs false
namespace Go.Proofs.Ytnndjjpeaaloiaa.OwnLengths
open Go.RowKit Go.Proofs.Ytnndjjpeaaloiaa.PWindowLengths Go.Proofs.YtnndjjpeaaloiaaW.PrintWords Go.Proofs.YtnndjjpeaaloiaaW.PrintLast Go.Proofs.YtnndjjpeaaloiaaW.PrintMore EvPlain
attribute [local go_sem] max2_int min2_int max_two min_two
theorem wr {x : Int} (h1 : -9223372036854775808 ≤ x) (h2 : x < 9223372036854775808) : wrap64 x = x := by
  unfold wrap64; omega
theorem td {a b : Int} (h : 0 ≤ a) : Int.tdiv a b = a / b := Int.tdiv_eq_ediv_of_nonneg h
theorem tm {a b : Int} (h : 0 ≤ a) : Int.tmod a b = a % b := Int.tmod_eq_emod_of_nonneg h
theorem May_yes {e p i : Int} (h : T e p i) : window_May.f e p i = some true := by
  simp [window_May.f, window_task.f, h.e1, h.ep, h.pm, h.i1, h.ie]
theorem task_yes {e p : Int} (h1 : 1 ≤ e) (h2 : e ≤ p) (h3 : p ≤ 1048575) : window_task.f e p = some true := by
  simp [window_task.f, h1, h2, h3]
theorem task_no {e p : Int} (h : ¬ (1 ≤ e ∧ e ≤ p ∧ p ≤ 1048575)) : window_task.f e p = some false := by
  unfold window_task.f; split
  · split
    · rw [decide_eq_false (by omega)]
    · rfl
  · rfl
theorem task_eq (e p : Int) : window_task.f e p = some (decide (1 ≤ e ∧ e ≤ p ∧ p ≤ 1048575)) := by
  by_cases h : 1 ≤ e ∧ e ≤ p ∧ p ≤ 1048575
  · rw [task_yes h.1 h.2.1 h.2.2, decide_eq_true h]
  · rw [task_no h, decide_eq_false h]
theorem May_no {e p i : Int} (h : ¬ T e p i) : window_May.f e p i = some false := by
  unfold window_May.f; rw [task_eq]; simp only [Option.bind_some]
  split <;> rename_i ht
  · split
    · rw [decide_eq_false]
      intro hi; have := of_decide_eq_true ht; exact h ⟨this.1, this.2.1, this.2.2, by omega, hi⟩
    · rfl
  · rfl
theorem Release_yes {e p i : Int} (h : T e p i) : window_Release.f e p i = some (rel e p i) := by
  have h1 := h.ip1; have h2 := h.rel_le
  unfold window_Release.f; rw [May_yes h]; simp only [Option.bind_some, if_true]
  rw [if_neg (by have := h.e1; omega), wr (x := i - 1) (by have := h.i1; omega) (by have := h.ie; have := h.ep; have := h.pm; omega), wr (x := (i - 1) * p) (by omega) (by omega), td h1.1]
  have := h.pm
  exact congrArg some (wr (x := rel e p i) (by omega) (by omega))
theorem Release_no {e p i : Int} (h : ¬ T e p i) : window_Release.f e p i = some 0 := by
  unfold window_Release.f; rw [May_no h]; rfl
theorem up_at {a b : Int} (ha : 0 ≤ a) (hb : 1 ≤ b) (h : a + b < 9223372036854775808) : window_up.f a b = some (up a b) := by
  unfold window_up.f
  have := up_nonneg ha (b := b) (by omega)
  rw [if_neg (by omega), wr (x := a + b) (by omega) (by omega), wr (x := a + b - 1) (by omega) (by omega), td (by omega)]
  exact congrArg some (wr (x := up a b) (by omega) (by omega))
theorem Deadline_yes {e p i : Int} (h : T e p i) : window_Deadline.f e p i = some (dl e p i) := by
  have h1 := h.ip; have := h.ep; have := h.pm; have := h.e1
  unfold window_Deadline.f; rw [May_yes h]; simp only [Option.bind_some, if_true]
  rw [wr (x := i * p) (by omega) (by omega), up_at (by omega) h.e1 (by omega)]; rfl
theorem Deadline_no {e p i : Int} (h : ¬ T e p i) : window_Deadline.f e p i = some 0 := by
  unfold window_Deadline.f; rw [May_no h]; rfl
theorem Bit_yes {e p i : Int} (h : T e p i) : window_Bit.f e p i = some (if i * p % e = 0 then 0 else 1) := by
  have h1 := h.ip
  unfold window_Bit.f; rw [May_yes h]; simp only [Option.bind_some, if_true]
  rw [if_neg (by have := h.e1; omega), wr (x := i * p) (by omega) (by omega), tm (by omega)]; split <;> rfl
theorem Bit_no {e p i : Int} (h : ¬ T e p i) : window_Bit.f e p i = some 0 := by
  unfold window_Bit.f; rw [May_no h]; rfl
theorem Heavy_yes {e p : Int} (h1 : 1 ≤ e) (h2 : e ≤ p) (h3 : p ≤ 1048575) : window_Heavy.f e p = some (decide (2 * e ≥ p)) := by
  unfold window_Heavy.f; rw [task_yes h1 h2 h3]; simp only [Option.bind_some, if_true]
  rw [wr (x := 2 * e) (by omega) (by omega)]
theorem Heavy_no {e p : Int} (h : ¬ (1 ≤ e ∧ e ≤ p ∧ p ≤ 1048575)) : window_Heavy.f e p = some false := by
  unfold window_Heavy.f; rw [task_no h]; rfl
theorem Group_yes {e p i : Int} (h : T e p i) (k : Nat) (hh : p ≤ 2 * e) (hlt : e < p) : window_Group.f (k + 1) e p i = some (grp e p i) := by
  have h1 := h.dl_le; have e1 := h.e1; have pm := h.pm
  have h2 := mul_bound (a := dl e p i) (b := p - e) (A := 1048575) (B := 1048575) (by omega) (by omega) (by omega) (by omega)
  have h3 := h.hol_le
  have h4 := mul_bound (a := hol e p i) (b := p) (A := 1048575) (B := 1048575) (by omega) (by omega) (by omega) (by omega)
  unfold window_Group.f; rw [May_yes h, Heavy_yes h.e1 h.ep h.pm]; simp only [Option.bind_some, if_true]
  rw [decide_eq_true (by omega), if_pos rfl, beq_false_of_ne (by omega)]
  simp only [window_Group.j0]
  rw [if_neg (by decide), Deadline_yes h, Option.bind_some, wr (x := p - e) (by omega) (by omega), wr (x := dl e p i * (p - e)) (by omega) (by omega), up_at h2.1 (by omega) (by omega), Option.bind_some]
  have h5 : up (dl e p i * (p - e)) p = hol e p i := rfl
  rw [h5, wr (x := hol e p i * p) (by omega) (by omega), up_at h4.1 (by omega) (by omega)]; rfl
theorem Group_light {e p i : Int} (k : Nat) (hh : ¬ (T e p i ∧ p ≤ 2 * e ∧ e < p)) : window_Group.f (k + 1) e p i = some 0 := by
  unfold window_Group.f
  by_cases h : T e p i
  · have := h.e1; have := h.ep; have := h.pm
    rw [May_yes h, Heavy_yes h.e1 h.ep h.pm]; simp only [Option.bind_some, if_true]
    by_cases h2 : p ≤ 2 * e
    · have : e = p := by
        have := h.ep
        by_cases h3 : e < p
        · exact absurd ⟨h, h2, h3⟩ hh
        · omega
      subst this
      rw [decide_eq_true (by omega), if_pos rfl, beq_self_eq_true]; simp [window_Group.j0]
    · rw [decide_eq_false (by omega), if_neg (by decide)]; simp [window_Group.j0]
  · rw [May_no h]; simp [window_Group.j0]
theorem awake_yes (k : Nat) : evenhandedlaw3_awake.f (k + 1) = some true := by
  simp only [evenhandedlaw3_awake.f, window_Group.f, window_Group.j0]; decide +kernel
theorem TaskMay_eq (e p : Int) : evenhandedref1_TaskMay.f e p = some (decide (1 ≤ e ∧ e ≤ p ∧ p ≤ 1048575)) := by
  unfold evenhandedref1_TaskMay.f
  by_cases h : 1 ≤ e ∧ e ≤ p ∧ p ≤ 1048575
  · rw [decide_eq_true h, if_pos (by omega), if_pos (by omega), if_pos (by omega), decide_eq_true (by omega)]
  · rw [decide_eq_false h]; split
    · split
      · split
        · rw [decide_eq_false (by omega)]
        · rfl
      · rfl
    · rfl
theorem T_iff {e p i : Int} : T e p i ↔ (1 ≤ e ∧ e ≤ p ∧ p ≤ 1048575) ∧ 1 ≤ i ∧ i ≤ e := ⟨fun h => ⟨⟨h.e1, h.ep, h.pm⟩, h.i1, h.ie⟩, fun ⟨⟨a, b, c⟩, d, e⟩ => ⟨a, b, c, d, e⟩⟩
theorem is64 {x : Int} (h : (Lit.int .i64 x).wf = true) : -9223372036854775808 ≤ x ∧ x < 9223372036854775808 := by
  have h1 : IntKind.i64.min = -9223372036854775808 := by decide
  have h2 : IntKind.i64.max = 9223372036854775807 := by decide
  simp only [Lit.wf, h1, h2, Bool.and_eq_true, decide_eq_true_eq] at h; omega

theorem len_spec {e p i : Int} (h : T e p i) : EvPlain.up p e ≤ dl e p i - rel e p i ∧ dl e p i - rel e p i ≤ EvPlain.up p e + 1 ∧ (p ≤ 2 * e → dl e p i - rel e p i ≤ 3) ∧ (2 * e < p → 3 ≤ dl e p i - rel e p i) := by
  have h5 := h.dl_spec; have h6 := h.rel_spec; have e1 := h.e1; have hu := up_spec p e h.e1
  rw [Int.add_mul, Int.one_mul] at h6
  rw [Int.sub_mul, Int.one_mul] at h5 h6
  have a1 : EvPlain.up p e - 1 < dl e p i - rel e p i := lt_of_mul_lt' _ _ e e1 (by rw [Int.sub_mul (dl e p i)]; omega)
  have a2 : dl e p i - rel e p i - 2 < EvPlain.up p e := lt_of_mul_lt' _ _ e e1 (by rw [Int.sub_mul, Int.sub_mul]; omega)
  refine ⟨by omega, by omega, fun hp => ?_, fun hp => ?_⟩
  · have : dl e p i - rel e p i - 2 < 2 := lt_of_mul_lt' _ _ e e1 (by rw [Int.sub_mul, Int.sub_mul]; omega)
    omega
  · have : 2 < dl e p i - rel e p i := lt_of_mul_lt' _ _ e e1 (by rw [Int.sub_mul]; omega)
    omega
set_option maxHeartbeats 4000000 in
set_option maxRecDepth 100000 in
theorem walk (e p : Int) (w : World) (w0 : (Lit.int .i64 e).wf = true) (w1 : (Lit.int .i64 p).wf = true) :
    Calls Try.prog 10 #[.int .i64 e, .int .i64 p] w fun x w' => x = .returned (.bool true) ∧ Below w.heap.size w w' := by
  have HB := Aside0.mk (Below.refl w.heap.size w)
  have HA := Aside0.mk (awake_yes 0)
  have HT := Aside0.mk (TaskMay_eq e p)
  by_cases ht : 1 ≤ e ∧ e ≤ p ∧ p ≤ 1048575
  · rw [decide_eq_true ht] at HT
    by_cases hb : e > 3000
    · have hb0 : decide (3000 < e) = true := decide_eq_true hb
      clear hb ht
      go_enter Try.func10, Try.ntmps10
      go_wp2_with (first | (go_at_call 11; (with_reducible refine (evenhandedlaw3_awake.calls 1 true _ HA.out).mono ?_); rintro e w' ⟨rfl, ⟨nd, rfl⟩⟩) | (go_at_call 13; (with_reducible refine (evenhandedref1_TaskMay.calls e p true _ HT.out).mono ?_); rintro e w' ⟨rfl, ⟨nd, rfl⟩⟩))
      go_ret
      exact ⟨rfl, by repeat (first | (with_reducible first | exact HB.out | apply below_alloc | apply pw_below_drewN | apply below_drew1) | exact HB.out)⟩
    · have hb0 : decide (3000 < e) = false := decide_eq_false hb
      obtain ⟨e1, ep, pm⟩ := ht
      have hU := up_nonneg (a := p) (b := e) (by omega) (by omega)
      have hup : EvPlain.up p e ≤ p := by
        have hs := up_spec p e (by omega)
        have h1 : p * 1 ≤ p * e := Int.mul_le_mul_of_nonneg_left e1 (by omega)
        have : EvPlain.up p e - 1 < p := lt_of_mul_lt' _ _ e (by omega) (by omega)
        omega
      have hUP : wrap64 (Int.tdiv (wrap64 ((wrap64 (p + e)) - 1)) e) = EvPlain.up p e := by
        rw [wr (x := p + e) (by omega) (by omega), wr (x := p + e - 1) (by omega) (by omega), td (by omega)]
        exact wr (x := EvPlain.up p e) (by omega) (by omega)
      have HH := Aside0.mk (Heavy_yes e1 ep pm)
      have HU := Aside0.mk hUP
      clear hUP hb
      have E := Aside0.mk (And.intro e1 (And.intro ep (And.intro pm (And.intro hU hup))))
      clear e1 ep pm hU hup
      go_enter Try.func10, Try.ntmps10
      go_wp2_with (first | (go_at_call 11; (with_reducible refine (evenhandedlaw3_awake.calls 1 true _ HA.out).mono ?_); rintro e w' ⟨rfl, ⟨nd, rfl⟩⟩) | (go_at_call 13; (with_reducible refine (evenhandedref1_TaskMay.calls e p true _ HT.out).mono ?_); rintro e w' ⟨rfl, ⟨nd, rfl⟩⟩))
      go_loopw [5, 6, 7] (fun v5 v6 v7 w' => ∃ a b i : Int, v5 = .int .i64 a ∧ v6 = .int .i64 b ∧ v7 = .int .i64 i ∧ Aside0 (EvPlain.up p e ≤ a ∧ a ≤ p ∧ (2 * e < p → 3 ≤ a) ∧ b ≤ EvPlain.up p e + 1 ∧ 0 ≤ b ∧ (p ≤ 2 * e → b ≤ 3) ∧ 1 ≤ i ∧ i ≤ e + 1) ∧ Aside0 (Below w.heap.size w w')) (fun _ _ v7 _ => (e + 1 - intOf v7).toNat)
      case atStart => exact ⟨p, 0, 1, rfl, rfl, rfl, ⟨by have := E.out; omega⟩, ⟨by repeat (first | (with_reducible first | exact HB.out | apply below_alloc | apply pw_below_drewN | apply below_drew1) | exact HB.out)⟩⟩
      case round =>
        obtain ⟨a, b, i, rfl, rfl, rfl, HR, HB⟩ := hrel
        obtain ⟨e1, ep, pm, hU0, hup⟩ := E.out
        obtain ⟨r1, r2, r3, r4, r5, r6, r7, r8⟩ := HR.out
        by_cases hi : i ≤ e
        · have h : T e p i := ⟨e1, ep, pm, r7, hi⟩
          have hl := len_spec h; have h3 := h.dl_le; have h4 := h.rel_le
          have HD := Aside0.mk (Deadline_yes h)
          have HE := Aside0.mk (Release_yes h)
          have hw : wrap64 (dl e p i - rel e p i) = dl e p i - rel e p i := OwnLengths.wr (by omega) (by omega)
          have hw1 : wrap64 (i + 1) = i + 1 := OwnLengths.wr (by omega) (by omega)
          have HR' : Aside0 (EvPlain.up p e ≤ mn a (dl e p i - rel e p i) ∧ mn a (dl e p i - rel e p i) ≤ p ∧ (2 * e < p → 3 ≤ mn a (dl e p i - rel e p i)) ∧ mx b (dl e p i - rel e p i) ≤ EvPlain.up p e + 1 ∧ 0 ≤ mx b (dl e p i - rel e p i) ∧ (p ≤ 2 * e → mx b (dl e p i - rel e p i) ≤ 3) ∧ 1 ≤ i + 1 ∧ i + 1 ≤ e + 1) := ⟨by unfold mn mx; omega⟩
          have hi0 : decide (i ≤ e) = true := decide_eq_true hi
          have W := Aside0.mk (And.intro hw hw1)
          clear hl h3 h4 h r1 r2 r3 r4 r5 r6 r7 r8 e1 ep pm hU0 hup hi hw hw1
          go_wp2_with (first | (go_at_call 16; (with_reducible refine (window_Deadline.calls e p i _ _ HD.out).mono ?_); rintro e w' ⟨rfl, ⟨nd, rfl⟩⟩) | (go_at_call 15; (with_reducible refine (window_Release.calls e p i _ _ HE.out).mono ?_); rintro e w' ⟨rfl, ⟨nd, rfl⟩⟩))
          go_roundw
          case rel =>
            refine ⟨_, _, _, rfl, rfl, rfl, ?_, ⟨by repeat (first | (with_reducible first | exact HB.out | apply below_alloc | apply pw_below_drewN | apply below_drew1) | exact HB.out)⟩⟩
            rw [W.out.1, W.out.2]; exact HR'
          case measure =>
            rw [W.out.2]
            have h1 := of_decide_eq_true hi0
            simp only [intOf]; omega
        · have HW1 := Aside0.mk (show wrap64 (EvPlain.up p e + 1) = EvPlain.up p e + 1 from OwnLengths.wr (by omega) (by omega))
          have c1 : decide (i ≤ e) = false := decide_eq_false hi
          have c20 : ¬ e = 0 := by omega
          have c21 : (e != 0) = true := bne_iff_ne.mpr (by omega)
          have c2 : (e == 0) = false := beq_eq_false_iff_ne.mpr (by omega)
          have c3 : decide (wrap64 (Int.tdiv (wrap64 ((wrap64 (p + e)) - 1)) e) ≤ a) = true := by rw [HU.out]; exact decide_eq_true r1
          have c4 : decide (b ≤ wrap64 (wrap64 (Int.tdiv (wrap64 ((wrap64 (p + e)) - 1)) e) + 1)) = true := by rw [HU.out, HW1.out]; exact decide_eq_true r4
          by_cases hh : 2 * e ≥ p
          · have c5 : decide (b ≤ 3) = true := decide_eq_true (r6 hh)
            have HH' : Aside0 (window_Heavy.f e p = some true) := ⟨by rw [HH.out, decide_eq_true hh]⟩
            clear r1 r2 r3 r4 r5 r6 r7 r8 e1 ep pm hU0 hup hi hh
            go_wp2_with ((go_at_call 19; (with_reducible refine (window_Heavy.calls e p true _ HH'.out).mono ?_); rintro e w' ⟨rfl, ⟨nd, rfl⟩⟩))
            go_ret
            exact ⟨rfl, by repeat (first | (with_reducible first | exact HB.out | apply below_alloc | apply pw_below_drewN | apply below_drew1) | exact HB.out)⟩
          · have c5 : decide (3 ≤ a) = true := decide_eq_true (r3 (by omega))
            have HH' : Aside0 (window_Heavy.f e p = some false) := ⟨by rw [HH.out, decide_eq_false hh]⟩
            clear r1 r2 r3 r4 r5 r6 r7 r8 e1 ep pm hU0 hup hi hh
            go_wp2_with ((go_at_call 19; (with_reducible refine (window_Heavy.calls e p false _ HH'.out).mono ?_); rintro e w' ⟨rfl, ⟨nd, rfl⟩⟩))
            go_ret
            exact ⟨rfl, by repeat (first | (with_reducible first | exact HB.out | apply below_alloc | apply pw_below_drewN | apply below_drew1) | exact HB.out)⟩
  · rw [decide_eq_false ht] at HT
    clear ht
    go_enter Try.func10, Try.ntmps10
    go_wp2_with (first | (go_at_call 11; (with_reducible refine (evenhandedlaw3_awake.calls 1 true _ HA.out).mono ?_); rintro e w' ⟨rfl, ⟨nd, rfl⟩⟩) | (go_at_call 13; (with_reducible refine (evenhandedref1_TaskMay.calls e p false _ HT.out).mono ?_); rintro e w' ⟨rfl, ⟨nd, rfl⟩⟩))
    go_ret
    exact ⟨rfl, by repeat (first | (with_reducible first | exact HB.out | apply below_alloc | apply pw_below_drewN | apply below_drew1) | exact HB.out)⟩
end Go.Proofs.Ytnndjjpeaaloiaa.OwnLengths

/- Package ratio: sums of sizes of two words with signs. No condition but that the sum has two words. -/
import Derived.Test.YtkgafogkeaaniaaDvGzm
set_option linter.unusedVariables false
set_option linter.unusedSimpArgs false
namespace Go.Proofs.Ytkgafogkeaaniaa.DvH
open Go.RowKit Go.Proofs.Ytkgafogkeaaniaa.Kit Go.Proofs.Ytkgafogkeaaniaa.Kit4 Go.Proofs.Ytkgafogkeaaniaa.DvA Go.Proofs.Ytkgafogkeaaniaa.DvB Go.Proofs.Ytkgafogkeaaniaa.DvC Go.Proofs.Ytkgafogkeaaniaa.DvD Go.Proofs.Ytkgafogkeaaniaa.DvE Go.Proofs.Ytkgafogkeaaniaa.DvF DvPlain
theorem by_V (X Y : Nat) (hx : X < 2 ^ 128) (hy : Y < 2 ^ 128) (h0 : 0 < Y) (s1 s2 : Bool) (hq : X / Y < 18446744073709551616) (w : World) : Calls Try.prog 53 #[V X s1, V Y s2] w fun e w' => e = .returned (.tuple #[.int .u64 ((X / Y : Nat) : Int), .bool true]) ∧ Below w.heap.size w w' := by
  obtain ⟨a1, a2⟩ := V_lt X hx
  obtain ⟨b1, b2⟩ := V_lt Y hy
  rcases Nat.eq_zero_or_pos (Y / 18446744073709551616) with c | c
  · have hl : Y < 18446744073709551616 := by omega
    have hh : X / 18446744073709551616 < Y := by
      rw [Nat.div_lt_iff_lt_mul (by decide), Nat.mul_comm]
      exact (Nat.div_lt_iff_lt_mul h0).1 hq
    have k := by0_core _ _ Y s1 s2 hh a2 hl w
    rw [nat2_V] at k
    have e1 : V Y s2 = W 0 Y s2 := by show W _ _ _ = _; rw [c, Nat.mod_eq_of_lt hl]
    rw [e1]
    exact k
  · have k := DvG.by1_core _ _ _ _ s1 s2 a1 a2 b1 b2 c w
    rw [nat2_V, nat2_V] at k
    exact k
theorem by_V_no (X Y : Nat) (hx : X < 2 ^ 128) (hy : Y < 2 ^ 128) (h0 : 0 < Y) (s1 s2 : Bool) (hq : 18446744073709551616 ≤ X / Y) (w : World) : Calls Try.prog 53 #[V X s1, V Y s2] w fun e w' => e = .returned (.tuple #[.int .u64 0, .bool false]) ∧ Below w.heap.size w w' := by
  have hm := (Nat.le_div_iff_mul_le h0).1 hq
  have hl : Y < 18446744073709551616 := by
    rcases Nat.lt_or_ge Y 18446744073709551616 with c | c
    · exact c
    · exfalso
      have := Nat.mul_le_mul_left 18446744073709551616 c
      rw [show (2 : Nat) ^ 128 = 18446744073709551616 * 18446744073709551616 by decide] at hx
      omega
  have hh : Y ≤ X / 18446744073709551616 := by
    rw [Nat.le_div_iff_mul_le (by decide), Nat.mul_comm]
    exact hm
  have e1 : V Y s2 = W 0 Y s2 := by
    show W _ _ _ = _
    rw [Nat.div_eq_of_lt hl, Nat.mod_eq_of_lt hl]
  rw [e1]
  exact by_no _ _ Y s1 s2 hh w
theorem add_at (h1 l1 h2 l2 c lr hr : Nat) (a1 : l1 < 18446744073709551616) (a2 : l2 < 18446744073709551616) (hs : h1 * 18446744073709551616 + l1 + (h2 * 18446744073709551616 + l2) < 18446744073709551616 * 18446744073709551616) (hc : c = (l1 + l2 + 0) / 18446744073709551616) (e1 : lr = (l1 + l2 + 0) % 18446744073709551616) (e2 : hr = (h1 + h2 + c) % 18446744073709551616) : hr * 18446744073709551616 + lr = h1 * 18446744073709551616 + l1 + (h2 * 18446744073709551616 + l2) ∧ hr < 18446744073709551616 ∧ lr < 18446744073709551616 ∧ c ≤ 1 := by
  have h5 : h1 + h2 + c < 18446744073709551616 := by omega
  rw [Nat.mod_eq_of_lt h5] at e2
  omega
set_option maxHeartbeats 4000000 in
set_option maxRecDepth 100000 in
theorem plus_same (h1 l1 h2 l2 : Nat) (s : Bool) (a0 : h1 < 18446744073709551616) (a1 : l1 < 18446744073709551616) (a2 : h2 < 18446744073709551616) (a3 : l2 < 18446744073709551616) (hs : nat2 h1 l1 + nat2 h2 l2 < 2 ^ 128) (w : World) :
    Calls Try.prog 43 #[W h1 l1 s, W h2 l2 s] w fun e w' => e = .returned (V (nat2 h1 l1 + nat2 h2 l2) s) ∧ Below w.heap.size w w' := by
  obtain ⟨c, hc⟩ : ∃ c : Nat, c = (l1 + l2 + 0) / 18446744073709551616 := ⟨_, rfl⟩
  obtain ⟨lr, hlr⟩ : ∃ lr : Nat, lr = (l1 + l2 + 0) % 18446744073709551616 := ⟨_, rfl⟩
  obtain ⟨hr, hhr⟩ : ∃ hr : Nat, hr = (h1 + h2 + c) % 18446744073709551616 := ⟨_, rfl⟩
  obtain ⟨d, hd⟩ : ∃ d : Nat, d = (h1 + h2 + c) / 18446744073709551616 := ⟨_, rfl⟩
  obtain ⟨k1, k2, k3, k4⟩ := add_at h1 l1 h2 l2 c lr hr a1 a3 hs hc hlr hhr
  have S1 : ∀ w, (callFunc 55 #[.int .u64 (l1 : Int), .int .u64 (l2 : Int), .int .u64 0]).run Try.prog w = .ok (.value (.tuple #[.int .u64 (lr : Int), .int .u64 (c : Int)])) w := fun w => by
    have := add_run l1 l2 0 (by omega) w
    rw [← hlr, ← hc] at this
    exact this
  have S2 : ∀ w, (callFunc 55 #[.int .u64 (h1 : Int), .int .u64 (h2 : Int), .int .u64 (c : Int)]).run Try.prog w = .ok (.value (.tuple #[.int .u64 (hr : Int), .int .u64 (d : Int)])) w := fun w => by
    have := add_run h1 h2 c k4 w
    rw [← hhr, ← hd] at this
    exact this
  have HV : Side (W hr lr s = V (nat2 h1 l1 + nat2 h2 l2) s) := ⟨by
    obtain ⟨e1, e2⟩ := two_of hr lr (nat2 h1 l1 + nat2 h2 l2) k3 k1
    show _ = W _ _ _
    rw [← e1, ← e2]⟩
  clear hc hlr hhr hd k1 k2 k3 k4 hs
  go_enter Try.func43, Try.ntmps43
  go_wp2
  refine bodyPost_ret (v := W hr lr s) (by simp [results, Try.results43, go_sem]) rfl ⟨by rw [HV.out], ?_⟩
  (repeat (with_reducible first | exact Below.refl _ _ | apply below_drewN | apply below_drew | apply below_alloc | refine Below.setCell ?_ ?_ _))
  all_goals (first | (simp; done) | (simp; omega))
set_option maxHeartbeats 4000000 in
set_option maxRecDepth 100000 in
theorem plus_diff (h1 l1 h2 l2 : Nat) (s1 s2 : Bool) (hs : ¬ s1 = s2) (a0 : h1 < 18446744073709551616) (a1 : l1 < 18446744073709551616) (a2 : h2 < 18446744073709551616) (a3 : l2 < 18446744073709551616) (RES : Value) (f1 : nat2 h1 l1 < nat2 h2 l2 → RES = V (nat2 h2 l2 - nat2 h1 l1) s2) (f2 : ¬ nat2 h1 l1 < nat2 h2 l2 → RES = V (nat2 h1 l1 - nat2 h2 l2) s1) (w : World) :
    Calls Try.prog 43 #[W h1 l1 s1, W h2 l2 s2] w fun e w' => e = .returned RES ∧ Below w.heap.size w w' := by
  have F1 := Side.mk f1
  have F2 := Side.mk f2
  clear f1 f2
  have hs' : (s1 == s2) = false := by simpa using hs
  have hs2 : decide (s1 = s2) = false := by simpa using hs
  obtain ⟨t, ht⟩ : ∃ t : Bool, t = decide (nat2 h1 l1 < nat2 h2 l2) := ⟨_, rfl⟩
  have HL := Side.mk (fun w => less_at h1 l1 h2 l2 s1 s2 a1 a3 t ht w)
  have HT := Side.mk ht
  clear ht
  go_enter Try.func43, Try.ntmps43
  go_wp2_with fail
  refine (HL.out _).mono ?_
  rintro e w2 ⟨rfl, hb⟩
  have HB : Side (Below w.heap.size w w2) := ⟨below_then (by (repeat (with_reducible first | exact Below.refl _ _ | apply below_alloc))) (by simp; omega) hb⟩
  have P0 : Bx w2 w.heap.size h1 l1 s1 := Bx.below (by exact ((Bx.new w h1 l1 s1).below ((Below.refl _ _).alloc (Nat.le_refl _) _)).below ((Below.refl _ _).alloc (Nat.le_refl _) _)) hb
  have Q0 : Bx w2 (w.heap.size + 1) h2 l2 s2 := Bx.below (by have := (Bx.new (w.alloc (.cells #[.int .u64 (h1 : Int), .int .u64 (l1 : Int), .bool s1] 69)) h2 l2 s2).below ((Below.refl _ _).alloc (Nat.le_refl _) (.cells #[.int .u64 0, .int .u64 0, .bool false] 69)); simpa using this) hb
  have R0 : Bx w2 (w.heap.size + 1 + 1) 0 0 false := Bx.below (by have := Bx.new ((w.alloc (.cells #[.int .u64 (h1 : Int), .int .u64 (l1 : Int), .bool s1] 69)).alloc (.cells #[.int .u64 (h2 : Int), .int .u64 (l2 : Int), .bool s2] 69)) 0 0 false; simpa using this) hb
  have HP := Side.mk P0
  have HQ := Side.mk Q0
  have HZ := Side.mk R0
  clear hb P0 Q0 R0 HL
  cases t
  · have hno := of_decide_eq_false HT.out.symm
    have HLE : h2 * 18446744073709551616 + l2 ≤ h1 * 18446744073709551616 + l1 := by unfold nat2 at hno; omega
    have hRES := Side.mk (F2.out hno)
    clear F1 F2
    obtain ⟨c, hc⟩ : ∃ c : Nat, c = if l1 < l2 + 0 then 1 else 0 := ⟨_, rfl⟩
    obtain ⟨lr, hlr⟩ : ∃ lr : Nat, lr = (l1 + 18446744073709551616 - l2 - 0) % 18446744073709551616 := ⟨_, rfl⟩
    obtain ⟨hr, hhr⟩ : ∃ hr : Nat, hr = (h1 + 18446744073709551616 - h2 - c) % 18446744073709551616 := ⟨_, rfl⟩
    obtain ⟨d, hd⟩ : ∃ d : Nat, d = if h1 < h2 + c then 1 else 0 := ⟨_, rfl⟩
    have hc1 : c ≤ 1 := by rw [hc]; split <;> omega
    have S1 : ∀ w, (callFunc 57 #[.int .u64 (l1 : Int), .int .u64 (l2 : Int), .int .u64 0]).run Try.prog w = .ok (.value (.tuple #[.int .u64 (lr : Int), .int .u64 (c : Int)])) w := fun w => by
      have := sub_run l1 l2 0 (by omega) w
      rw [← hlr, ← hc] at this
      exact this
    have S2 : ∀ w, (callFunc 57 #[.int .u64 (h1 : Int), .int .u64 (h2 : Int), .int .u64 (c : Int)]).run Try.prog w = .ok (.value (.tuple #[.int .u64 (hr : Int), .int .u64 (d : Int)])) w := fun w => by
      have := sub_run h1 h2 c hc1 w
      rw [← hhr, ← hd] at this
      exact this
    obtain ⟨k1, k2, k3⟩ := sub_at h1 l1 h2 l2 c lr hr a1 a3 a0 HLE hc hlr hhr
    have HV : Side (W hr lr s1 = V (nat2 h1 l1 - nat2 h2 l2) s1) := ⟨by
      obtain ⟨e1, e2⟩ := two_of hr lr (nat2 h1 l1 - nat2 h2 l2) k3 k1
      show _ = W _ _ _
      rw [← e1, ← e2]⟩
    clear hc hlr hhr hd hc1 k1 k2 k3 HLE
    clear HT hno
    have p0 := HP.out.c0
    have p1 := HP.out.c1
    have p2 := HP.out.c2
    have q0 := HQ.out.c0
    have q1 := HQ.out.c1
    have q2 := HQ.out.c2
    have z0 := HZ.out.c0
    have z1 := HZ.out.c1
    have z2 := HZ.out.c2
    have fp0 := HP.out.fz 0
    have fp1 := HP.out.fz 1
    have fp2 := HP.out.fz 2
    have fq0 := HQ.out.fz 0
    have fq1 := HQ.out.fz 1
    have fq2 := HQ.out.fz 2
    have g0 := HZ.out.fz 0
    have g1 := HZ.out.fz 1
    have g2 := HZ.out.fz 2
    have pl := HP.out.lt
    have ql := HQ.out.lt
    have zl := HZ.out.lt
    go_wp2_with fail
    have R9 := ((HZ.out.set0 hr).set1 lr).set2 s1
    have HBR : Side (Below w.heap.size w (((w2.setCell ⟨w.heap.size + 1 + 1, 0, none⟩ (.int .u64 hr)).setCell ⟨w.heap.size + 1 + 1, 1, none⟩ (.int .u64 lr)).setCell ⟨w.heap.size + 1 + 1, 2, none⟩ (.bool s1))) := ⟨((HB.out.setCell (by simp; omega) _).setCell (by simp; omega) _).setCell (by simp; omega) _⟩
    generalize (((w2.setCell ⟨w.heap.size + 1 + 1, 0, none⟩ (.int .u64 hr)).setCell ⟨w.heap.size + 1 + 1, 1, none⟩ (.int .u64 lr)).setCell ⟨w.heap.size + 1 + 1, 2, none⟩ (.bool s1)) = w9 at *
    have r0 := R9.c0
    have r1 := R9.c1
    have r2 := R9.c2
    have rl := R9.lt
    refine bodyPost_ret (v := W hr lr s1) (by simp [results, Try.results43, go_sem, r0, r1, r2, rl]) rfl ⟨by rw [HV.out, hRES.out], HBR.out⟩
  · have hyes := of_decide_eq_true HT.out.symm
    have HLE : h1 * 18446744073709551616 + l1 ≤ h2 * 18446744073709551616 + l2 := by unfold nat2 at hyes; omega
    have hRES := Side.mk (F1.out hyes)
    clear F1 F2
    obtain ⟨c, hc⟩ : ∃ c : Nat, c = if l2 < l1 + 0 then 1 else 0 := ⟨_, rfl⟩
    obtain ⟨lr, hlr⟩ : ∃ lr : Nat, lr = (l2 + 18446744073709551616 - l1 - 0) % 18446744073709551616 := ⟨_, rfl⟩
    obtain ⟨hr, hhr⟩ : ∃ hr : Nat, hr = (h2 + 18446744073709551616 - h1 - c) % 18446744073709551616 := ⟨_, rfl⟩
    obtain ⟨d, hd⟩ : ∃ d : Nat, d = if h2 < h1 + c then 1 else 0 := ⟨_, rfl⟩
    have hc1 : c ≤ 1 := by rw [hc]; split <;> omega
    have S1 : ∀ w, (callFunc 57 #[.int .u64 (l2 : Int), .int .u64 (l1 : Int), .int .u64 0]).run Try.prog w = .ok (.value (.tuple #[.int .u64 (lr : Int), .int .u64 (c : Int)])) w := fun w => by
      have := sub_run l2 l1 0 (by omega) w
      rw [← hlr, ← hc] at this
      exact this
    have S2 : ∀ w, (callFunc 57 #[.int .u64 (h2 : Int), .int .u64 (h1 : Int), .int .u64 (c : Int)]).run Try.prog w = .ok (.value (.tuple #[.int .u64 (hr : Int), .int .u64 (d : Int)])) w := fun w => by
      have := sub_run h2 h1 c hc1 w
      rw [← hhr, ← hd] at this
      exact this
    obtain ⟨k1, k2, k3⟩ := sub_at h2 l2 h1 l1 c lr hr a3 a1 a2 HLE hc hlr hhr
    have HV : Side (W hr lr s2 = V (nat2 h2 l2 - nat2 h1 l1) s2) := ⟨by
      obtain ⟨e1, e2⟩ := two_of hr lr (nat2 h2 l2 - nat2 h1 l1) k3 k1
      show _ = W _ _ _
      rw [← e1, ← e2]⟩
    clear hc hlr hhr hd hc1 k1 k2 k3 HLE
    clear HT hyes
    have p0 := HP.out.c0
    have p1 := HP.out.c1
    have p2 := HP.out.c2
    have q0 := HQ.out.c0
    have q1 := HQ.out.c1
    have q2 := HQ.out.c2
    have z0 := HZ.out.c0
    have z1 := HZ.out.c1
    have z2 := HZ.out.c2
    have fp0 := HP.out.fz 0
    have fp1 := HP.out.fz 1
    have fp2 := HP.out.fz 2
    have fq0 := HQ.out.fz 0
    have fq1 := HQ.out.fz 1
    have fq2 := HQ.out.fz 2
    have g0 := HZ.out.fz 0
    have g1 := HZ.out.fz 1
    have g2 := HZ.out.fz 2
    have pl := HP.out.lt
    have ql := HQ.out.lt
    have zl := HZ.out.lt
    go_upto_region 7 with (fail)
    have HP5 : Side (Bx ((((((w2.setCell ⟨w.heap.size, 0, none⟩ (.int .u64 h2)).setCell ⟨w.heap.size, 1, none⟩ (.int .u64 l2)).setCell ⟨w.heap.size, 2, none⟩ (.bool s2)).setCell ⟨w.heap.size + 1, 0, none⟩ (.int .u64 h1)).setCell ⟨w.heap.size + 1, 1, none⟩ (.int .u64 l1)).setCell ⟨w.heap.size + 1, 2, none⟩ (.bool s1)) w.heap.size h2 l2 s2) := ⟨((((((HP.out.set0 h2).set1 l2).set2 s2).far _ _ _ (by omega)).far _ _ _ (by omega)).far _ _ _ (by omega))⟩
    have HQ5 : Side (Bx ((((((w2.setCell ⟨w.heap.size, 0, none⟩ (.int .u64 h2)).setCell ⟨w.heap.size, 1, none⟩ (.int .u64 l2)).setCell ⟨w.heap.size, 2, none⟩ (.bool s2)).setCell ⟨w.heap.size + 1, 0, none⟩ (.int .u64 h1)).setCell ⟨w.heap.size + 1, 1, none⟩ (.int .u64 l1)).setCell ⟨w.heap.size + 1, 2, none⟩ (.bool s1)) (w.heap.size + 1) h1 l1 s1) := ⟨((((((HQ.out.far _ _ _ (by omega)).far _ _ _ (by omega)).far _ _ _ (by omega)).set0 h1).set1 l1).set2 s1)⟩
    have HZ5 : Side (Bx ((((((w2.setCell ⟨w.heap.size, 0, none⟩ (.int .u64 h2)).setCell ⟨w.heap.size, 1, none⟩ (.int .u64 l2)).setCell ⟨w.heap.size, 2, none⟩ (.bool s2)).setCell ⟨w.heap.size + 1, 0, none⟩ (.int .u64 h1)).setCell ⟨w.heap.size + 1, 1, none⟩ (.int .u64 l1)).setCell ⟨w.heap.size + 1, 2, none⟩ (.bool s1)) (w.heap.size + 1 + 1) 0 0 false) := ⟨((((((HZ.out.far _ _ _ (by omega)).far _ _ _ (by omega)).far _ _ _ (by omega)).far _ _ _ (by omega)).far _ _ _ (by omega)).far _ _ _ (by omega))⟩
    have HB5 : Side (Below w.heap.size w ((((((w2.setCell ⟨w.heap.size, 0, none⟩ (.int .u64 h2)).setCell ⟨w.heap.size, 1, none⟩ (.int .u64 l2)).setCell ⟨w.heap.size, 2, none⟩ (.bool s2)).setCell ⟨w.heap.size + 1, 0, none⟩ (.int .u64 h1)).setCell ⟨w.heap.size + 1, 1, none⟩ (.int .u64 l1)).setCell ⟨w.heap.size + 1, 2, none⟩ (.bool s1))) := ⟨((((((HB.out.setCell (Nat.le_refl _) _).setCell (Nat.le_refl _) _).setCell (Nat.le_refl _) _).setCell (by simp) _).setCell (by simp) _).setCell (by simp) _)⟩
    generalize ((((((w2.setCell ⟨w.heap.size, 0, none⟩ (.int .u64 h2)).setCell ⟨w.heap.size, 1, none⟩ (.int .u64 l2)).setCell ⟨w.heap.size, 2, none⟩ (.bool s2)).setCell ⟨w.heap.size + 1, 0, none⟩ (.int .u64 h1)).setCell ⟨w.heap.size + 1, 1, none⟩ (.int .u64 l1)).setCell ⟨w.heap.size + 1, 2, none⟩ (.bool s1)) = w5 at *
    clear p0 p1 p2 q0 q1 q2 z0 z1 z2 fp0 fp1 fp2 fq0 fq1 fq2 g0 g1 g2 pl ql zl HP HQ HZ HB
    have HP := HP5
    have HQ := HQ5
    have HZ := HZ5
    have HB := HB5
    clear HP5 HQ5 HZ5 HB5
    have p0 := HP.out.c0
    have p1 := HP.out.c1
    have p2 := HP.out.c2
    have q0 := HQ.out.c0
    have q1 := HQ.out.c1
    have q2 := HQ.out.c2
    have z0 := HZ.out.c0
    have z1 := HZ.out.c1
    have z2 := HZ.out.c2
    have fp0 := HP.out.fz 0
    have fp1 := HP.out.fz 1
    have fp2 := HP.out.fz 2
    have fq0 := HQ.out.fz 0
    have fq1 := HQ.out.fz 1
    have fq2 := HQ.out.fz 2
    have g0 := HZ.out.fz 0
    have g1 := HZ.out.fz 1
    have g2 := HZ.out.fz 2
    have pl := HP.out.lt
    have ql := HQ.out.lt
    have zl := HZ.out.lt
    go_wp2_with fail
    have R9 := ((HZ.out.set0 hr).set1 lr).set2 s2
    have HBR : Side (Below w.heap.size w (((w5.setCell ⟨w.heap.size + 1 + 1, 0, none⟩ (.int .u64 hr)).setCell ⟨w.heap.size + 1 + 1, 1, none⟩ (.int .u64 lr)).setCell ⟨w.heap.size + 1 + 1, 2, none⟩ (.bool s2))) := ⟨((HB.out.setCell (by simp; omega) _).setCell (by simp; omega) _).setCell (by simp; omega) _⟩
    generalize (((w5.setCell ⟨w.heap.size + 1 + 1, 0, none⟩ (.int .u64 hr)).setCell ⟨w.heap.size + 1 + 1, 1, none⟩ (.int .u64 lr)).setCell ⟨w.heap.size + 1 + 1, 2, none⟩ (.bool s2)) = w9 at *
    have r0 := R9.c0
    have r1 := R9.c1
    have r2 := R9.c2
    have rl := R9.lt
    refine bodyPost_ret (v := W hr lr s2) (by simp [results, Try.results43, go_sem, r0, r1, r2, rl]) rfl ⟨by rw [HV.out, hRES.out], HBR.out⟩
end Go.Proofs.Ytkgafogkeaaniaa.DvH

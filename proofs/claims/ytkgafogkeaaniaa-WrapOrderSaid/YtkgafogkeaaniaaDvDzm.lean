/- Package ratio: sizes of two words: up, minus. No condition but their own. -/
import Derived.Test.YtkgafogkeaaniaaDvCzm
set_option linter.unusedVariables false
set_option linter.unusedSimpArgs false
namespace Go.Proofs.Ytkgafogkeaaniaa.DvD
open Go.RowKit Go.Proofs.Ytkgafogkeaaniaa.Kit Go.Proofs.Ytkgafogkeaaniaa.DvA Go.Proofs.Ytkgafogkeaaniaa.DvB Go.Proofs.Ytkgafogkeaaniaa.DvC DvPlain
/-- A size in a block. -/
def Bx (w : World) (p h l : Nat) (s : Bool) : Prop := w.heap[p]? = some (.cells #[.int .u64 (h : Int), .int .u64 (l : Int), .bool s] 69 (0, 0))
section
variable {w w' : World} {p h l : Nat} {s : Bool}
theorem Bx.lt (k : Bx w p h l s) : p < w.heap.size := (Array.getElem?_eq_some_iff.1 k).1
theorem Bx.c0 (k : Bx w p h l s) : w.cell? ⟨p, 0, none⟩ = some (.int .u64 (h : Int)) := cell_of_row w p 0 _ _ (0, 0) k
theorem Bx.c1 (k : Bx w p h l s) : w.cell? ⟨p, 1, none⟩ = some (.int .u64 (l : Int)) := cell_of_row w p 1 _ _ (0, 0) k
theorem Bx.c2 (k : Bx w p h l s) : w.cell? ⟨p, 2, none⟩ = some (.bool s) := cell_of_row w p 2 _ _ (0, 0) k
theorem Bx.fz (k : Bx w p h l s) (i : Nat) : w.frozen? ⟨p, i, none⟩ = false := by simp [World.frozen?, show w.heap[p]? = _ from k]
theorem Bx.below (k : Bx w p h l s) (hb : Below w.heap.size w w') : Bx w' p h l s := (hb.block p k.lt).trans k
theorem Bx.far (k : Bx w p h l s) (q i : Nat) (u : Value) (hq : p ≠ q) : Bx (w.setCell ⟨q, i, none⟩ u) p h l s := (blk_far ⟨q, i, none⟩ hq u).trans k
theorem Bx.set0 (k : Bx w p h l s) (h' : Nat) : Bx (w.setCell ⟨p, 0, none⟩ (.int .u64 (h' : Int))) p h' l s := blk_set k 0 _
theorem Bx.set1 (k : Bx w p h l s) (l' : Nat) : Bx (w.setCell ⟨p, 1, none⟩ (.int .u64 (l' : Int))) p h l' s := blk_set k 1 _
theorem Bx.set2 (k : Bx w p h l s) (s' : Bool) : Bx (w.setCell ⟨p, 2, none⟩ (.bool s')) p h l s' := blk_set k 2 _
theorem Bx.new (w : World) (h l : Nat) (s : Bool) : Bx (w.alloc (.cells #[.int .u64 (h : Int), .int .u64 (l : Int), .bool s] 69)) w.heap.size h l s := heap_alloc_new w _
end
theorem modmul (a b M : Nat) (hb : b < M) : (a * M + b) % (M * M) = a % M * M + b := by
  rw [Nat.mod_mul, Nat.mul_comm a M, Nat.mul_add_mod, Nat.mod_eq_of_lt hb, Nat.mul_add_div (by omega), Nat.div_eq_of_lt hb, Nat.add_zero, Nat.mul_comm M, Nat.add_comm]
theorem up_gen (N X h' l' : Nat) (hN : 0 < N) (hl : l' < 2 * N) (e : h' * (2 * N) + l' = X % (2 * N * (2 * N))) : (h' * 2 % (2 * N) + l' / N) * (2 * N) + l' * 2 % (2 * N) = X * 2 % (2 * N * (2 * N)) := by
  have e1 : X * 2 % (2 * N * (2 * N)) = (X % (2 * N * (2 * N)) * 2) % (2 * N * (2 * N)) := by first | exact (Nat.mod_mul_mod ..).symm | (simp; done) | (rw [Nat.mul_comm X, Nat.mul_comm (X % _), Nat.mul_mod_mod])
  have e2 : l' * 2 / (2 * N) = l' / N := by rw [Nat.mul_comm 2 N, Nat.mul_div_mul_right _ _ (by decide)]
  have e3 := Nat.div_add_mod (l' * 2) (2 * N)
  rw [e2] at e3
  have hc : l' / N < 2 := by rw [Nat.div_lt_iff_lt_mul hN]; exact hl
  have hm : l' * 2 % (2 * N) < 2 * N := Nat.mod_lt _ (by omega)
  have e4 : (h' * 2 + l' / N) % (2 * N) = h' * 2 % (2 * N) + l' / N := by
    have h1 : h' * 2 % (2 * N) = 2 * (h' % N) := by rw [Nat.mul_comm h' 2, Nat.mul_mod_mul_left]
    have h2 : h' % N < N := Nat.mod_lt _ hN
    have h3 : h' * 2 % (2 * N) + l' / N < 2 * N := by omega
    have h4 : l' / N % (2 * N) = l' / N := Nat.mod_eq_of_lt (by omega)
    rw [Nat.add_mod, h4, Nat.mod_eq_of_lt h3]
  rw [e1, ← e, ← e4, ← modmul _ _ _ hm]
  congr 1
  rw [Nat.add_mul, Nat.add_mul]
  have h5 : h' * 2 * (2 * N) = h' * (2 * N) * 2 := Nat.mul_right_comm _ _ _
  have h6 : l' / N * (2 * N) = 2 * N * (l' / N) := Nat.mul_comm _ _
  omega
theorem up_step (X h' l' h2 l2 : Nat) (hl : l' < 18446744073709551616) (e : h' * 18446744073709551616 + l' = X % 2 ^ 128) (e1 : h2 = h' * 2 % 18446744073709551616 + l' / 9223372036854775808) (e2 : l2 = l' * 2 % 18446744073709551616) : h2 * 18446744073709551616 + l2 = X * 2 % 2 ^ 128 := by
  rw [e1, e2]
  exact up_gen 9223372036854775808 X h' l' (by decide) hl e
theorem up_lo (h l : Nat) (b : l < 18446744073709551616) : bits .or .u64 (IntKind.u64.wrap ((h : Int) * 2)) ((l : Int) / 9223372036854775808) = ((h * 2 % 18446744073709551616 + l / 9223372036854775808 : Nat) : Int) := by
  have := or_add (h % 9223372036854775808) (l / 9223372036854775808) 1 (by omega) (by omega)
  rw [show h % 9223372036854775808 * 2 ^ 1 = h * 2 % 18446744073709551616 by omega] at this
  rw [← this, IntKind.wrap_u64]
  congr 1
set_option maxHeartbeats 2000000 in
set_option maxRecDepth 100000 in
theorem up_at (h l n : Nat) (s : Bool) (b0 : h < 18446744073709551616) (b1 : l < 18446744073709551616) (hn : n ≤ 9223372036854775807) (w : World) :
    Calls Try.prog 64 #[W h l s, .int .i64 n] w fun e w' => ∃ h' l', e = .returned (W h' l' s) ∧ h' < 18446744073709551616 ∧ l' < 18446744073709551616 ∧ nat2 h' l' = nat2 h l * 2 ^ n % 2 ^ 128 ∧ Below w.heap.size w w' := by
  have hni : (n : Int) ≤ 9223372036854775807 := by omega
  go_enter Try.func64, Try.ntmps64
  go_wp2_with fail
  go_loopw [6] (fun v6 wr => ∃ k h' l' : Nat, v6 = .int .i64 (k : Int) ∧ k ≤ n ∧ h' < 18446744073709551616 ∧ l' < 18446744073709551616 ∧ Side (nat2 h' l' = nat2 h l * 2 ^ k % 2 ^ 128) ∧ Side (Bx wr w.heap.size h' l' s) ∧ Side (Bx wr (w.heap.size + 1) 0 0 false) ∧ Side (Below w.heap.size w wr)) (fun v6 _ => (n - intOf v6).toNat)
  case atStart =>
    refine ⟨0, h, l, rfl, Nat.zero_le _, b0, b1, ⟨?_⟩, ⟨(Bx.new w h l s).below ?_⟩, ⟨by have := Bx.new (w.alloc (.cells #[.int .u64 (h : Int), .int .u64 (l : Int), .bool s] 69)) 0 0 false; simpa using this⟩, ⟨by (repeat (with_reducible first | exact Below.refl _ _ | apply below_alloc))⟩⟩
    · unfold nat2; omega
    · exact (Below.refl _ _).alloc (Nat.le_refl _) _
  case round =>
    obtain ⟨k, h', l', rfl, hk, hh, hl, HE, HP, HQ, HB⟩ := hrel
    obtain ⟨wz, hwz⟩ : ∃ wz : World, wz = wr := ⟨_, rfl⟩
    rw [← hwz] at HP HQ HB ⊢
    clear hwz
    have p0 := HP.out.c0
    have p1 := HP.out.c1
    have p2 := HP.out.c2
    have f0 := HP.out.fz 0
    have f1 := HP.out.fz 1
    have q0 := HQ.out.c0
    have q1 := HQ.out.c1
    have q2 := HQ.out.c2
    have g0 := HQ.out.fz 0
    have g1 := HQ.out.fz 1
    have g2 := HQ.out.fz 2
    have hpl := HP.out.lt
    have hql := HQ.out.lt
    by_cases hkn : k < n
    · have hki : (k : Int) < n := by omega
      have hk1 : (k : Int) + 1 ≤ 9223372036854775807 := by omega
      have e1 := up_lo h' l' hl
      obtain ⟨h2, hh2⟩ : ∃ h2, h2 = h' * 2 % 18446744073709551616 + l' / 9223372036854775808 := ⟨_, rfl⟩
      obtain ⟨l2, hl2⟩ : ∃ l2, l2 = l' * 2 % 18446744073709551616 := ⟨_, rfl⟩
      rw [← hh2] at e1
      have e2 : IntKind.u64.wrap ((l' : Int) * 2) = (l2 : Int) := by rw [IntKind.wrap_u64, hl2]; omega
      have HN : Side (nat2 h2 l2 = nat2 h l * 2 ^ (k + 1) % 2 ^ 128) := ⟨by
        rw [Nat.pow_succ, ← Nat.mul_assoc]
        exact up_step _ h' l' h2 l2 hl HE.out hh2 hl2⟩
      have hb2 : h2 < 18446744073709551616 := by omega
      have hb3 : l2 < 18446744073709551616 := by omega
      clear hh2 hl2 HE
      go_wp2_with fail
      go_roundw
      case rel => exact ⟨k + 1, h2, l2, by simp, by omega, hb2, hb3, HN, ⟨(HP.out.set0 h2).set1 l2⟩, ⟨(HQ.out.far _ _ _ (by omega)).far _ _ _ (by omega)⟩, ⟨(HB.out.setCell (Nat.le_refl _) _).setCell (Nat.le_refl _) _⟩⟩
      case measure => simp [intOf]; omega
    · obtain rfl : k = n := by omega
      have hki : ¬ (k : Int) < k := by omega
      go_wp2_with fail
      have R := ((HQ.out.set0 h').set1 l').set2 s
      have HBR : Side (Below w.heap.size w (((wz.setCell ⟨w.heap.size + 1, 0, none⟩ (.int .u64 h')).setCell ⟨w.heap.size + 1, 1, none⟩ (.int .u64 l')).setCell ⟨w.heap.size + 1, 2, none⟩ (.bool s))) := ⟨((HB.out.setCell (by simp) _).setCell (by simp) _).setCell (by simp) _⟩
      generalize (((wz.setCell ⟨w.heap.size + 1, 0, none⟩ (.int .u64 h')).setCell ⟨w.heap.size + 1, 1, none⟩ (.int .u64 l')).setCell ⟨w.heap.size + 1, 2, none⟩ (.bool s)) = w9 at *
      have r0 := R.c0
      have r1 := R.c1
      have r2 := R.c2
      have rl := R.lt
      refine bodyPost_ret (v := W h' l' s) (by simp [results, Try.results64, go_sem, r0, r1, r2, rl]) rfl ⟨h', l', rfl, hh, hl, HE.out, HBR.out⟩
theorem half_lo (h l : Nat) (b : l < 18446744073709551616) : bits .or .u64 ((l : Int) / 2) (IntKind.u64.wrap ((h : Int) * 9223372036854775808)) = ((h % 2 * 9223372036854775808 + l / 2 : Nat) : Int) := by
  have h1 := or_add (h % 2) (l / 2) 63 (by omega) (by omega)
  rw [show (2 : Nat) ^ 63 = 9223372036854775808 by decide] at h1
  rw [bits_or_u64_nat _ _ (by omega) (by omega), Nat.or_comm, ← bits_or_u64_nat _ _ (by omega) (by omega)] at h1
  rw [← h1, IntKind.wrap_u64]
  congr 1
  omega
theorem half_at (h l : Nat) (b : l < 18446744073709551616) : h / 2 * 18446744073709551616 + (h % 2 * 9223372036854775808 + l / 2) = (h * 18446744073709551616 + l) / 2 := by omega
theorem sub_at (h1 l1 h2 l2 c lr hr : Nat) (a1 : l1 < 18446744073709551616) (a2 : l2 < 18446744073709551616) (a3 : h1 < 18446744073709551616) (hle : h2 * 18446744073709551616 + l2 ≤ h1 * 18446744073709551616 + l1) (hc : c = if l1 < l2 + 0 then 1 else 0) (e1 : lr = (l1 + 18446744073709551616 - l2 - 0) % 18446744073709551616) (e2 : hr = (h1 + 18446744073709551616 - h2 - c) % 18446744073709551616) : hr * 18446744073709551616 + lr = h1 * 18446744073709551616 + l1 - (h2 * 18446744073709551616 + l2) ∧ hr < 18446744073709551616 ∧ lr < 18446744073709551616 := by
  by_cases h : l1 < l2
  · rw [if_pos (by omega)] at hc
    omega
  · rw [if_neg (by omega)] at hc
    omega
set_option maxHeartbeats 4000000 in
set_option maxRecDepth 100000 in
theorem minus_core (h1 l1 h2 l2 h3 l3 : Nat) (s1 s2 t : Bool) (a0 : h1 < 18446744073709551616) (a1 : l1 < 18446744073709551616) (a2 : h2 < 18446744073709551616) (a3 : l2 < 18446744073709551616) (ht : t = decide (nat2 h1 l1 < nat2 h2 l2)) (e3 : t = true → h3 = h2 / 2 ∧ l3 = h2 % 2 * 9223372036854775808 + l2 / 2) (e4 : t = false → h3 = h2 ∧ l3 = l2) (a4 : l3 < 18446744073709551616) (hle : nat2 h3 l3 ≤ nat2 h1 l1) (w : World) :
    Calls Try.prog 66 #[W h1 l1 s1, W h2 l2 s2] w fun e w' => ∃ h l, e = .returned (W h l false) ∧ h < 18446744073709551616 ∧ l < 18446744073709551616 ∧ nat2 h l = nat2 h1 l1 - nat2 h3 l3 ∧ Below w.heap.size w w' := by
  obtain ⟨c, hc⟩ : ∃ c : Nat, c = if l1 < l3 + 0 then 1 else 0 := ⟨_, rfl⟩
  obtain ⟨lr, hlr⟩ : ∃ lr : Nat, lr = (l1 + 18446744073709551616 - l3 - 0) % 18446744073709551616 := ⟨_, rfl⟩
  obtain ⟨hr, hhr⟩ : ∃ hr : Nat, hr = (h1 + 18446744073709551616 - h3 - c) % 18446744073709551616 := ⟨_, rfl⟩
  obtain ⟨d, hd⟩ : ∃ d : Nat, d = if h1 < h3 + c then 1 else 0 := ⟨_, rfl⟩
  have hc1 : c ≤ 1 := by rw [hc]; split <;> omega
  have S1 : ∀ w, (callFunc 57 #[.int .u64 (l1 : Int), .int .u64 (l3 : Int), .int .u64 0]).run Try.prog w = .ok (.value (.tuple #[.int .u64 (lr : Int), .int .u64 (c : Int)])) w := fun w => by
    have := sub_run l1 l3 0 (by omega) w
    rw [← hlr, ← hc] at this
    exact this
  have S2 : ∀ w, (callFunc 57 #[.int .u64 (h1 : Int), .int .u64 (h3 : Int), .int .u64 (c : Int)]).run Try.prog w = .ok (.value (.tuple #[.int .u64 (hr : Int), .int .u64 (d : Int)])) w := fun w => by
    have := sub_run h1 h3 c hc1 w
    rw [← hhr, ← hd] at this
    exact this
  have HR := Side.mk (sub_at h1 l1 h3 l3 c lr hr a1 a4 a0 hle hc hlr hhr)
  have HL := Side.mk (fun w => less_at h1 l1 h2 l2 s1 s2 a1 a3 t ht w)
  clear hc hlr hhr hd hc1 ht hle
  go_enter Try.func66, Try.ntmps66
  go_wp2_with fail
  refine (HL.out _).mono ?_
  rintro e w2 ⟨rfl, hb⟩
  have HB : Side (Below w.heap.size w w2) := ⟨below_then (by (repeat (with_reducible first | exact Below.refl _ _ | apply below_alloc))) (by simp; omega) hb⟩
  have P0 : Bx w2 w.heap.size h1 l1 s1 := Bx.below (by exact ((Bx.new w h1 l1 s1).below ((Below.refl _ _).alloc (Nat.le_refl _) _)).below ((Below.refl _ _).alloc (Nat.le_refl _) _)) hb
  have Q0 : Bx w2 (w.heap.size + 1) h2 l2 s2 := Bx.below (by have := (Bx.new (w.alloc (.cells #[.int .u64 (h1 : Int), .int .u64 (l1 : Int), .bool s1] 69)) h2 l2 s2).below ((Below.refl _ _).alloc (Nat.le_refl _) (.cells #[.int .u64 0, .int .u64 0, .bool false] 69)); simpa using this) hb
  have R0 : Bx w2 (w.heap.size + 1 + 1) 0 0 false := Bx.below (by have := Bx.new ((w.alloc (.cells #[.int .u64 (h1 : Int), .int .u64 (l1 : Int), .bool s1] 69)).alloc (.cells #[.int .u64 (h2 : Int), .int .u64 (l2 : Int), .bool s2] 69)) 0 0 false; simpa using this) hb
  have HP := Side.mk P0
  have HQ := Side.mk Q0
  have HRR := Side.mk R0
  clear hb P0 Q0 R0 HL
  cases t
  · obtain ⟨rfl, rfl⟩ := e4 rfl
    have HP2 := HP
    have HQ2 := HQ
    have HRR2 := HRR
    have HB2 := HB
    have p0 := HP2.out.c0
    have p1 := HP2.out.c1
    have q0 := HQ2.out.c0
    have q1 := HQ2.out.c1
    have z0 := HRR2.out.c0
    have z1 := HRR2.out.c1
    have z2 := HRR2.out.c2
    have f0 := HQ2.out.fz 0
    have f1 := HQ2.out.fz 1
    have g0 := HRR2.out.fz 0
    have g1 := HRR2.out.fz 1
    have g2 := HRR2.out.fz 2
    have pl := HP2.out.lt
    have ql := HQ2.out.lt
    have zl := HRR2.out.lt
    clear e3 e4
    go_wp2_with fail
    have R9 := ((HRR2.out.set0 hr).set1 lr).set2 false
    have HBR : Side (Below w.heap.size w (((w2.setCell ⟨w.heap.size + 1 + 1, 0, none⟩ (.int .u64 hr)).setCell ⟨w.heap.size + 1 + 1, 1, none⟩ (.int .u64 lr)).setCell ⟨w.heap.size + 1 + 1, 2, none⟩ (.bool false))) := ⟨((HB2.out.setCell (by simp; omega) _).setCell (by simp; omega) _).setCell (by simp; omega) _⟩
    generalize (((w2.setCell ⟨w.heap.size + 1 + 1, 0, none⟩ (.int .u64 hr)).setCell ⟨w.heap.size + 1 + 1, 1, none⟩ (.int .u64 lr)).setCell ⟨w.heap.size + 1 + 1, 2, none⟩ (.bool false)) = w9 at *
    have r0 := R9.c0
    have r1 := R9.c1
    have r2 := R9.c2
    have rl := R9.lt
    refine bodyPost_ret (v := W hr lr false) (by simp [results, Try.results66, go_sem, r0, r1, r2, rl]) rfl ⟨hr, lr, rfl, HR.out.2.1, HR.out.2.2, HR.out.1, HBR.out⟩
  · obtain ⟨e5, e6⟩ := e3 rfl
    have e7 := half_lo h2 l2 a3
    rw [← e6] at e7
    have e8 : (h2 : Int) / 2 = (h3 : Int) := by omega
    have HP2 := HP
    have HQ2 := HQ
    have HRR2 := HRR
    have HB1 := HB
    have p0 := HP2.out.c0
    have p1 := HP2.out.c1
    have q0 := HQ2.out.c0
    have q1 := HQ2.out.c1
    have z0 := HRR2.out.c0
    have z1 := HRR2.out.c1
    have z2 := HRR2.out.c2
    have f0 := HQ2.out.fz 0
    have f1 := HQ2.out.fz 1
    have g0 := HRR2.out.fz 0
    have g1 := HRR2.out.fz 1
    have g2 := HRR2.out.fz 2
    have pl := HP2.out.lt
    have ql := HQ2.out.lt
    have zl := HRR2.out.lt
    clear e3 e4 e5 e6
    go_upto_region 4 with (fail)
    have HB2 : Side (Below w.heap.size w ((w2.setCell ⟨w.heap.size + 1, 1, none⟩ (.int .u64 l3)).setCell ⟨w.heap.size + 1, 0, none⟩ (.int .u64 h3))) := ⟨(HB1.out.setCell (by simp) _).setCell (by simp) _⟩
    have HP3 := Side.mk (((HP2.out.far (w.heap.size + 1) 1 (.int .u64 (l3 : Int)) (by omega))).far (w.heap.size + 1) 0 (.int .u64 (h3 : Int)) (by omega))
    have HQ3 := Side.mk ((HQ2.out.set1 l3).set0 h3)
    have HRR3 := Side.mk (((HRR2.out.far (w.heap.size + 1) 1 (.int .u64 (l3 : Int)) (by omega))).far (w.heap.size + 1) 0 (.int .u64 (h3 : Int)) (by omega))
    clear p0 p1 q0 q1 z0 z1 z2 f0 f1 g0 g1 g2 pl ql zl e7 e8 HP HQ HRR HP2 HQ2 HRR2 HB HB1
    generalize (w2.setCell ⟨w.heap.size + 1, 1, none⟩ (.int .u64 l3)).setCell ⟨w.heap.size + 1, 0, none⟩ (.int .u64 h3) = w5 at *
    have HP2 := HP3
    have HQ2 := HQ3
    have HRR2 := HRR3
    have p0 := HP2.out.c0
    have p1 := HP2.out.c1
    have q0 := HQ2.out.c0
    have q1 := HQ2.out.c1
    have z0 := HRR2.out.c0
    have z1 := HRR2.out.c1
    have z2 := HRR2.out.c2
    have f0 := HQ2.out.fz 0
    have f1 := HQ2.out.fz 1
    have g0 := HRR2.out.fz 0
    have g1 := HRR2.out.fz 1
    have g2 := HRR2.out.fz 2
    have pl := HP2.out.lt
    have ql := HQ2.out.lt
    have zl := HRR2.out.lt
    go_wp2_with fail
    have R9 := ((HRR2.out.set0 hr).set1 lr).set2 false
    have HBR : Side (Below w.heap.size w (((w5.setCell ⟨w.heap.size + 1 + 1, 0, none⟩ (.int .u64 hr)).setCell ⟨w.heap.size + 1 + 1, 1, none⟩ (.int .u64 lr)).setCell ⟨w.heap.size + 1 + 1, 2, none⟩ (.bool false))) := ⟨((HB2.out.setCell (by simp; omega) _).setCell (by simp; omega) _).setCell (by simp; omega) _⟩
    generalize (((w5.setCell ⟨w.heap.size + 1 + 1, 0, none⟩ (.int .u64 hr)).setCell ⟨w.heap.size + 1 + 1, 1, none⟩ (.int .u64 lr)).setCell ⟨w.heap.size + 1 + 1, 2, none⟩ (.bool false)) = w9 at *
    have r0 := R9.c0
    have r1 := R9.c1
    have r2 := R9.c2
    have rl := R9.lt
    refine bodyPost_ret (v := W hr lr false) (by simp [results, Try.results66, go_sem, r0, r1, r2, rl]) rfl ⟨hr, lr, rfl, HR.out.2.1, HR.out.2.2, HR.out.1, HBR.out⟩
/-! ### told by one number -/
/-- A number below 2^128 in two words. -/
abbrev V (X : Nat) (s : Bool) : Value := W (X / 18446744073709551616) (X % 18446744073709551616) s
theorem two_of (h l X : Nat) (hl : l < 18446744073709551616) (e : nat2 h l = X) : h = X / 18446744073709551616 ∧ l = X % 18446744073709551616 := by
  unfold nat2 at e
  omega
theorem nat2_V (X : Nat) : nat2 (X / 18446744073709551616) (X % 18446744073709551616) = X := by
  unfold nat2
  have := Nat.div_add_mod X 18446744073709551616
  rw [Nat.mul_comm] at this
  exact this
theorem V_lt (X : Nat) (h : X < 2 ^ 128) : X / 18446744073709551616 < 18446744073709551616 ∧ X % 18446744073709551616 < 18446744073709551616 := by
  refine ⟨?_, Nat.mod_lt _ (by decide)⟩
  rw [Nat.div_lt_iff_lt_mul (by decide)]
  exact h
def blen (X : Nat) : Nat := wlen (X / 18446744073709551616) (X % 18446744073709551616)
theorem pow64 (k : Nat) : 2 ^ (64 + k) = 18446744073709551616 * 2 ^ k := by rw [Nat.pow_add]
theorem blen_at (X : Nat) (h : X < 2 ^ 128) : X < 2 ^ blen X ∧ (0 < X → 2 ^ blen X ≤ 2 * X) ∧ blen X ≤ 128 := by
  obtain ⟨a1, a2⟩ := V_lt X h
  have e := nat2_V X
  unfold nat2 at e
  unfold blen wlen
  generalize X / 18446744073709551616 = H at *
  generalize X % 18446744073709551616 = L at *
  obtain ⟨k1, k2, k3⟩ := bit_at H (by omega)
  obtain ⟨l1, l2, l3⟩ := bit_at L (by omega)
  by_cases c : H = 0
  · rw [if_pos c]
    subst c
    exact ⟨by omega, fun hp => by have := l2 (by omega); omega, by omega⟩
  · rw [if_neg c, pow64]
    have := k2 (by omega)
    generalize 2 ^ Lib.bitLen H = P at *
    exact ⟨by omega, fun _ => by omega, by omega⟩
theorem up_V (X n : Nat) (h : X < 2 ^ 128) (s : Bool) (hn : n ≤ 9223372036854775807) (hU : X * 2 ^ n < 2 ^ 128) (w : World) : Calls Try.prog 64 #[V X s, .int .i64 n] w fun e w' => e = .returned (V (X * 2 ^ n) s) ∧ Below w.heap.size w w' := by
  refine (up_at _ _ n s (V_lt X h).1 (V_lt X h).2 hn w).mono ?_
  rintro e w' ⟨h', l', rfl, a1, a2, a3, hb⟩
  rw [nat2_V, Nat.mod_eq_of_lt hU] at a3
  obtain ⟨rfl, rfl⟩ := two_of h' l' _ a2 a3
  exact ⟨rfl, hb⟩
/-- What is taken away: the number, or half of it. -/
def cut (X Y : Nat) : Nat := if X < Y then Y / 2 else Y
theorem minus_V (X Y : Nat) (hx : X < 2 ^ 128) (hy : Y < 2 ^ 128) (s1 s2 : Bool) (hc : cut X Y ≤ X) (w : World) : Calls Try.prog 66 #[V X s1, V Y s2] w fun e w' => e = .returned (V (X - cut X Y) false) ∧ Below w.heap.size w w' := by
  obtain ⟨a1, a2⟩ := V_lt X hx
  obtain ⟨b1, b2⟩ := V_lt Y hy
  have ey := nat2_V Y
  by_cases c : X < Y
  · have ec : cut X Y = Y / 2 := by unfold cut; rw [if_pos c]
    have eh := half_at (Y / 18446744073709551616) (Y % 18446744073709551616) b2
    unfold nat2 at ey
    rw [ey] at eh
    refine (minus_core _ _ _ _ (Y / 18446744073709551616 / 2) (Y / 18446744073709551616 % 2 * 9223372036854775808 + Y % 18446744073709551616 / 2) s1 s2 true a1 a2 b1 b2 (by rw [nat2_V, nat2_V]; exact (decide_eq_true c).symm) (fun _ => ⟨rfl, rfl⟩) (fun e => by cases e) (by omega) (by unfold nat2; rw [eh, ← ec]; have := nat2_V X; unfold nat2 at this; rw [this]; exact hc) w).mono ?_
    rintro e w' ⟨h', l', rfl, d1, d2, d3, hb⟩
    rw [nat2_V, show nat2 (Y / 18446744073709551616 / 2) (Y / 18446744073709551616 % 2 * 9223372036854775808 + Y % 18446744073709551616 / 2) = Y / 2 from eh, ← ec] at d3
    obtain ⟨rfl, rfl⟩ := two_of h' l' _ d2 d3
    exact ⟨rfl, hb⟩
  · have ec : cut X Y = Y := by unfold cut; rw [if_neg c]
    refine (minus_core _ _ _ _ (Y / 18446744073709551616) (Y % 18446744073709551616) s1 s2 false a1 a2 b1 b2 (by rw [nat2_V, nat2_V]; exact (decide_eq_false c).symm) (fun e => by cases e) (fun _ => ⟨rfl, rfl⟩) b2 (by rw [nat2_V, nat2_V, ← ec]; exact hc) w).mono ?_
    rintro e w' ⟨h', l', rfl, d1, d2, d3, hb⟩
    rw [nat2_V, nat2_V, ← ec] at d3
    obtain ⟨rfl, rfl⟩ := two_of h' l' _ d2 d3
    exact ⟨rfl, hb⟩
/-- One step of the remainder. -/
theorem mod_step (X Y : Nat) (hx : X < 2 ^ 128) (hy : 0 < Y) (hle : Y ≤ X) : blen Y ≤ blen X ∧ Y * 2 ^ (blen X - blen Y) < 2 ^ 128 ∧ cut X (Y * 2 ^ (blen X - blen Y)) ≤ X ∧ X - cut X (Y * 2 ^ (blen X - blen Y)) < X ∧ (X - cut X (Y * 2 ^ (blen X - blen Y))) % Y = X % Y := by
  obtain ⟨x1, x2, x3⟩ := blen_at X hx
  obtain ⟨y1, y2, y3⟩ := blen_at Y (by omega)
  have x2 := x2 (by omega)
  have y2 := y2 hy
  have hl : blen Y ≤ blen X := by
    have h1 : 2 ^ blen Y < 2 ^ (blen X + 1) := by rw [Nat.pow_succ]; omega
    have := (Nat.pow_lt_pow_iff_right (a := 2) (by decide)).1 h1
    omega
  obtain ⟨n, hn⟩ : ∃ n, n = blen X - blen Y := ⟨_, rfl⟩
  have e : 2 ^ blen X = 2 ^ blen Y * 2 ^ n := by rw [← Nat.pow_add]; congr 1; omega
  have hu : Y * 2 ^ n < 2 ^ blen X := by rw [e]; exact Nat.mul_lt_mul_of_pos_right y1 (Nat.two_pow_pos n)
  have h128 : 2 ^ blen X ≤ 2 ^ 128 := Nat.pow_le_pow_right (by decide) x3
  rw [← hn]
  have hpos : 0 < Y * 2 ^ n := Nat.mul_pos hy (Nat.two_pow_pos n)
  -- what is taken away is a multiple
  have hm : ∃ m, cut X (Y * 2 ^ n) = Y * m ∧ 0 < Y * m := by
    unfold cut
    split
    · rename_i c
      rcases n with _ | k
      · rw [Nat.pow_zero, Nat.mul_one] at c; omega
      · refine ⟨2 ^ k, ?_, Nat.mul_pos hy (Nat.two_pow_pos k)⟩
        rw [Nat.pow_succ, ← Nat.mul_assoc, Nat.mul_div_cancel _ (by decide)]
    · exact ⟨2 ^ n, rfl, hpos⟩
  have hc : cut X (Y * 2 ^ n) ≤ X := by
    unfold cut
    split <;> omega
  obtain ⟨m, em, mp⟩ := hm
  refine ⟨hl, by omega, hc, by omega, ?_⟩
  rw [em] at hc ⊢
  conv => rhs; rw [← Nat.sub_add_cancel hc]
  rw [Nat.add_mul_mod_self_left]
end Go.Proofs.Ytkgafogkeaaniaa.DvD

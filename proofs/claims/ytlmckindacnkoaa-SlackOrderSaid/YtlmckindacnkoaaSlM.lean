/- Package slack: the walk of SlackOrder: it answers true. No condition but what the arguments' types say. -/
import Derived.Test.YtlmckindacnkoaaSlL
set_option linter.unusedVariables false
set_option linter.unusedSimpArgs false
namespace Go.Proofs.Ytlmckindacnkoaa.SlM
open Go.RowKit Go.Proofs.Ytlmckindacnkoaa.Kit Go.Proofs.Ytlmckindacnkoaa.Kit2 Go.Proofs.Ytlmckindacnkoaa.SlA Go.Proofs.Ytlmckindacnkoaa.SlB Go.Proofs.Ytlmckindacnkoaa.SlC Go.Proofs.Ytlmckindacnkoaa.SlD Go.Proofs.Ytlmckindacnkoaa.SlE Go.Proofs.Ytlmckindacnkoaa.SlF Go.Proofs.Ytlmckindacnkoaa.SlG Go.Proofs.Ytlmckindacnkoaa.SlH Go.Proofs.Ytlmckindacnkoaa.SlI Go.Proofs.Ytlmckindacnkoaa.SlJ Go.Proofs.Ytlmckindacnkoaa.SlK Go.Proofs.Ytlmckindacnkoaa.SlL
set_option maxHeartbeats 16000000 in
set_option maxRecDepth 100000 in
theorem Order_at (need mny : Int) (a : Option Addr) (len cap : Nat) (V : Nat → Nat → Value) (w : World) (hne : (Lit.int .u8 need).wf = true) (hma : (Lit.int .u8 mny).wf = true) (hrow : InRow [.i .u8] w a len V) (hlen : len ≤ maxLen) :
    Calls Try.prog 6 #[.int .u8 need, .int .u8 mny, .slice a len cap] w fun r w' => r = .returned (.bool true) ∧ Below w.heap.size w w' := by
  have n0 := (isu8 hne).1
  have n1 := (isu8 hne).2
  have m0 := (isu8 hma).1
  have m1 := (isu8 hma).2
  have HROW := Side.mk hrow
  have hl : (len : Int) ≤ 9223372036854775807 := by unfold maxLen at hlen; omega
  clear hne hma hrow hlen
  go_enter Try.func6, Try.ntmps6
  go_wp2_with fail
  refine (awake_at _).mono ?_
  rintro e w1 ⟨rfl, hb⟩
  have S0 := Side.mk (St.start hb)
  clear hb
  go_wp2_with fail
  refine (New_at _).mono ?_
  rintro e w2 ⟨rfl, rfl⟩
  obtain ⟨gq, hgq⟩ : ∃ gq, gq = w1.heap.size := ⟨_, rfl⟩
  rw [← hgq] at S0 ⊢
  generalize w1.alloc (.cells #[.slice none 0 0] 51) = w2 at *
  clear hgq
  go_upto_region 5 with (fail)
  obtain ⟨n, hn, hn1, hn2⟩ : ∃ n, n = 1 + need % 20 ∧ 1 ≤ n ∧ n ≤ 20 := ⟨_, rfl, by omega, by omega⟩
  obtain ⟨k, hk, hk1, hk2⟩ : ∃ k : Nat, (k : Int) = 1 + mny % 30 ∧ 1 ≤ k ∧ k ≤ 30 := ⟨(1 + mny % 30).toNat, by omega, by omega, by omega⟩
  rw [← hn, ← hk]
  generalize need % 20 = z1
  generalize mny % 30 = z2
  clear hn hk n0 n1 m0 m1
  by_cases hbig : 300 < len
  · have hb1 : (300 : Int) < len := by omega
    go_wp2_with fail
    go_ret
    exact ⟨rfl, S0.out.below⟩
  have hb1 : ¬ (300 : Int) < len := by omega
  have hl3 : len ≤ 300 := by omega
  go_wp2_with fail
  go_loopw [10] (fun v10 wr => ∃ i : Nat, i ≤ k ∧ v10 = .int .i64 (i : Int) ∧ Side (St w wr gq (mk 0 i n))) (fun v10 _ => (k - intOf v10).toNat)
  case atStart => exact ⟨0, by omega, by simp, S0⟩
  case round =>
    obtain ⟨i, hi, rfl, S6⟩ := hrel
    by_cases hlt : i < k
    · have PF := Side.mk (put_mk i n hn1 hn2 (by omega))
      have hii : (i : Int) < k := by omega
      go_wp2_with fail
      refine (Put_st S6.out (by rw [mk_len]; omega) i n _ _ PF.out.1 PF.out.2).mono ?_
      rintro e w6 ⟨rfl, S7, _⟩
      have S7 := Side.mk S7
      go_wp2
      go_roundw
      case rel => exact ⟨i + 1, by omega, by simp, S7⟩
      case measure => simp [intOf]; omega
    · obtain rfl : i = k := by omega
      have O0 := Side.mk (mk_ord i n 1 hn1 hn2 0 1 hn1)
      have L0 := Side.mk (mk_len i n 0)
      have hii : ¬ (i : Int) < i := by omega
      clear hlt hi
      generalize mk 0 i n = xs0 at *
      go_wp2_with fail
      go_loopw [11, 12] (fun v11 v12 wr => ∃ (q : Nat) (nx : Nat) (xs : List It), q ≤ len ∧ v12 = .int .i64 (q : Int) ∧ v11 = .int .i64 (nx : Int) ∧ Side (St w wr gq xs) ∧ Side (Ord nx 1 xs) ∧ nx + xs.length = i) (fun _ v12 _ => (len - intOf v12).toNat)
      case atStart => exact ⟨0, 0, xs0, by omega, by simp, by simp, S6, O0, by have := L0.out; omega⟩
      case round =>
        obtain ⟨q, nx, xs, hq, rfl, rfl, S7, O7, hsum⟩ := hrel
        have hxl : xs.length ≤ 30 := by omega
        by_cases hlt : q < len
        · obtain ⟨b, off, hp, hcs⟩ := HROW.out
          obtain ⟨rfl, hbl⟩ := hp (by omega)
          obtain ⟨hc0, x, hx, hw⟩ := hcs q hlt 0 _ rfl
          rw [hx] at hc0
          have r0 : wr.cell? ⟨b, off + q, none⟩ = some (.int .u8 x) := ((bcell S7.out.below).1 _ _ hbl).trans (by simpa using hc0)
          have x0 := (isu8 hw).1
          have x1 := (isu8 hw).2
          have hqq : (q : Int) < len := by omega
          have hq1 : (q : Int) + 1 ≤ 9223372036854775807 := by omega
          obtain ⟨m, g1, g2, g3⟩ := Ord.give nx (many (x % 12) xs.length) O7.out
          have C7 := Side.mk (Give_len S7.out (by omega) (fun y hy => by have := Ord.low O7.out y hy; omega) (x % 12) _ _ _ m (by simp) rfl g1 rfl)
          have G2 := Side.mk g2
          have G3 := Side.mk g3
          clear hp hcs hc0 hx hw g1 g2 g3
          go_wp2_with fail
          refine C7.out.mono ?_
          rintro e w8 ⟨a8, cap8, rfl, I8, S8, _⟩
          have I8 := Side.mk I8
          have S8 := Side.mk S8
          have hm30 : m ≤ 30 := by have := G3.out; omega
          go_wp2_with fail
          have hxl2 : nx + m ≤ 30 := by have := G3.out; omega
          have HS := Side.mk hsum
          clear hsum
          go_loop [11, 15] (fun v11 v15 => ∃ (j : Nat) (y : Int), j ≤ m ∧ v15 = .int .i64 (j : Int) ∧ v11 = .int .i64 y ∧ Side (y = (nx : Int) + j)) (fun _ v15 => (m - intOf v15).toNat)
          case atStart => exact ⟨0, (nx : Int), by omega, by simp, rfl, ⟨by simp⟩⟩
          case round =>
            obtain ⟨j, y, hj, rfl, rfl, hy⟩ := hrel
            have y0 : 0 ≤ y := by have := hy.out; omega
            have y1 : y ≤ 30 := by have := hy.out; omega
            by_cases hjm : j < m
            · obtain ⟨g, rfl, hg, -, -, hr⟩ := IRow.get I8.out (by intro h; simp at h; omega)
              have r1 : w8.cell? ⟨g, j, none⟩ = some (.int .i64 y) := hr j y (by rw [hy.out]; simp [hjm])
              have hjj : (j : Int) < m := by omega
              clear hr
              go_wp2
              go_round
              case rel => exact ⟨j + 1, y + 1, by omega, by simp, rfl, ⟨by have := hy.out; simp; omega⟩⟩
              case measure => simp [intOf]; omega
            · obtain rfl : j = m := by omega
              have hjj : ¬ (j : Int) < j := by omega
              obtain rfl : y = ((nx + j : Nat) : Int) := by have := hy.out; simp; omega
              clear hjm hj hy
              go_wp2
              go_roundw
              case rel => exact ⟨q + 1, nx + j, _, by omega, by simp, rfl, S8, ⟨by have := G2.out; simpa using this⟩, by have := G3.out; have := HS.out; omega⟩
              case measure => simp [intOf]; omega
        · have hqq : ¬ (q : Int) < len := by omega
          have C7 := Side.mk (List_len S7.out (by omega) xs.length rfl)
          clear hlt
          go_wp2_with fail
          refine C7.out.mono ?_
          rintro e w8 ⟨a8, cap8, rfl, _, S8, _⟩
          have S8 := Side.mk S8
          go_wp2
          go_ret
          exact ⟨ret_bool (by simp; omega), S8.out.below⟩
end Go.Proofs.Ytlmckindacnkoaa.SlM

/- LedgerFills: the law's own walk. No condition. -/
import Derived.Test.YtfgmenndmcjggaaLeK
import Derived.Test.YtfgmenndmcjggaaRaR
import Derived.Test.YtfgmenndmcjggaaKit2
set_option linter.unusedVariables false
set_option linter.unusedSimpArgs false
namespace Go.Proofs.Ytfgmenndmcjggaa.LFills
open Go.RowKit Go.Proofs.Ytfgmenndmcjggaa.Kit Go.Proofs.Ytfgmenndmcjggaa.Kit2 Go.Proofs.Ytfgmenndmcjggaa.Kit3 Go.Proofs.Ytfgmenndmcjggaa.Kit4 Go.Proofs.Ytfgmenndmcjggaa.LeP Go.Maps Go.Proofs.Ytfgmenndmcjggaa.LeA Go.Proofs.Ytfgmenndmcjggaa.LeF Go.Proofs.Ytfgmenndmcjggaa.LeH Go.Proofs.Ytfgmenndmcjggaa.LeK
open Go.Proofs.Ytfgmenndmcjggaa.PR WhPlain RaPlain Go.Proofs.Ytfgmenndmcjggaa.RaK
open Go.Proofs.YtfgmenndmcjggaaW.PrintLast
def es (ms : List Wt) : Int := (ms.map (·.2.1)).sum
theorem num_one {ms : List Wt} {n : Int} (h0 : n ≠ 0) (h : ∀ m ∈ ms, m.2.2 = n) : num n ms = es ms := by
  induction ms with
  | nil => rfl
  | cons x r ih =>
    rw [num_cons, ih (fun m hm => h m (by simp [hm])), h x (by simp), Int.ediv_self h0]
    simp [es]
theorem ll_one {ms : List Wt} {n : Int} (h : ∀ m ∈ ms, m.2.2 = n) : ll ms ∣ n.natAbs := ll_least fun m hm => by rw [h m hm]; exact Nat.dvd_refl _
structure Fi (n : Int) (ms : List Wt) (sum : Int) (j : Nat) : Prop where
  p : ∀ m ∈ ms, m.2.2 = n
  i : ∀ m ∈ ms, m.1 < j
  s : es ms = sum
  b : 0 ≤ sum ∧ sum ≤ 240
theorem Fi.can {n : Int} {ms : List Wt} {sum : Int} {j : Nat} (h : Fi n ms sum j) (hn : 1 ≤ n ∧ n ≤ 30) {k e : Int} (he : 1 ≤ e ∧ e ≤ n) : canV k ms e n = if sum + e ≤ k * n then 0 else 8 := by
  have h1 := ll_one h.p
  have h2 : Nat.lcm n.natAbs (ll ms) = n.natAbs := Nat.lcm_eq_left h1
  have h3 : ll (ms ++ [(0, e, n)]) = n.natAbs := by rw [ll_snoc]; exact h2
  have h4 : ((n.natAbs : Nat) : Int) = n := by omega
  unfold canV
  rw [if_neg (by unfold may; omega), if_neg (by omega), h3, h4, num_snoc, num_one (by omega) h.p, h.s]
  show (if k * n < sum + e * (n / n) then (8 : Int) else 0) = _
  rw [Int.ediv_self (by omega), Int.mul_one]
  by_cases hf : sum + e ≤ k * n
  · rw [if_neg (by omega), if_pos hf]
  · rw [if_pos (by omega), if_neg hf]
theorem Fi.sOf {n : Int} {ms : List Wt} {sum : Int} {j : Nat} (h : Fi n ms sum j) (hn : 1 ≤ n ∧ n ≤ 30) : sOf ms = red sum n := by
  have h1 := ll_one h.p
  have hp : 0 < ll ms := Nat.pos_of_dvd_of_pos h1 (by omega)
  obtain ⟨a, ha⟩ : (ll ms : Int) ∣ n := Int.dvd_trans (Int.natCast_dvd_natCast.2 h1) (by rw [show ((n.natAbs : Nat) : Int) = n by omega]; exact Int.dvd_refl _)
  refine Q.unique (red_Q (by omega)) (red_Q (by omega)) ?_
  have h2 : num n ms = a * num (ll ms) ms := by rw [ha, Int.mul_comm]; exact num_scale a _ (fun m hm => ll_dvdI hm)
  rw [num_one (by omega) h.p, h.s] at h2
  rw [h2, Int.mul_assoc, Int.mul_left_comm, Int.mul_comm a, ← ha]
theorem Fi.add {n : Int} {ms : List Wt} {sum : Int} {j : Nat} (h : Fi n ms sum j) (e : Int) (hb : 0 ≤ sum + e ∧ sum + e ≤ 240) : Fi n (ms ++ [((j : Int), e, n)]) (sum + e) (j + 1) := by
  refine ⟨fun m hm => ?_, fun m hm => ?_, by unfold es; rw [List.map_append, List.sum_append]; have := h.s; unfold es at this; rw [this]; simp, hb⟩
  · rcases List.mem_append.1 hm with hm | hm
    · exact h.p m hm
    · simp at hm; subst hm; rfl
  · rcases List.mem_append.1 hm with hm | hm
    · have := h.i m hm; omega
    · simp at hm; subst hm; show (j : Int) < _; omega
theorem Fi.keep {n : Int} {ms : List Wt} {sum : Int} {j : Nat} (h : Fi n ms sum j) : Fi n ms sum (j + 1) := ⟨h.p, fun m hm => by have := h.i m hm; omega, h.s, h.b⟩
theorem Fi.new {n : Int} {ms : List Wt} {sum : Int} {j : Nat} (h : Fi n ms sum j) : LeP.has ms (j : Int) = false := by
  rw [Bool.eq_false_iff]
  intro e
  obtain ⟨m, hm, he⟩ := has_iff.1 e
  have := h.i m hm
  omega
theorem RefOf {n d : Int} (hn : n.natAbs ≤ B0) (hd : 0 < d) (hd2 : d.natAbs ≤ B0) (x : Int × Int) (hx : red n d = x) (w : World) : Side (Calls Try.prog 12 #[.int .i64 n, .int .i64 d] w fun r w' => r = .returned (.agg #[.int .i64 x.1, .int .i64 x.2]) ∧ Below w.heap.size w w') := by
  subst hx
  refine ⟨(evenhandedref1_Of.calls _ n d _ _ w (RaR.refof_at hn hd hd2 (B0 + 1) (by omega))).mono ?_⟩
  rintro r w' ⟨rfl, hb⟩
  exact ⟨rfl, by first | exact hb | exact hb.below⟩
abbrev UK : List CK := [.i .u8]
theorem rowU {W w : World} {a : Option Addr} {len : Nat} {V : Nat → Nat → Value} (h : InRow UK W a len V) (hb : Below W.heap.size W w) (i : Nat) (hi : i < len) :
    ∃ b off, a = some ⟨b, off, none⟩ ∧ b < w.heap.size ∧ w.cell? ⟨b, off + i, none⟩ = some (.int .u8 (intOf (V i 0))) ∧ 0 ≤ intOf (V i 0) ∧ intOf (V i 0) ≤ 255 := by
  have z0 := h.int 0 .u8 rfl i hi
  obtain ⟨b, off, hp, hcs⟩ := h
  obtain ⟨rfl, hbl⟩ := hp (by omega)
  have c0 := (hcs i hi 0 _ rfl).1
  rw [z0.1] at c0
  have hw := isu8 z0.2
  refine ⟨b, off, rfl, Nat.lt_of_lt_of_le hbl hb.size, ?_, hw.1, hw.2⟩
  rw [(bcell hb).1 b _ hbl]
  simpa using c0
set_option maxHeartbeats 4000000 in
set_option maxRecDepth 100000 in
theorem walk (c p : Int) (a : Option Addr) (len cap : Nat) (V : Nat → Nat → Value) (w : World) (wc : (Lit.int .u8 c).wf = true) (wp : (Lit.int .u8 p).wf = true) (hrow : InRow UK w a len V) (hlen : len ≤ maxLen) :
    Calls Try.prog 3 #[.int .u8 c, .int .u8 p, .slice a len cap] w fun r w' => r = .returned (.bool true) ∧ Below w.heap.size w w' := by
  have hc := isu8 wc
  have hp := isu8 wp
  have hl64 : (len : Int) ≤ 9223372036854775807 := by unfold maxLen at hlen; omega
  have HROW := Side.mk hrow
  clear hrow hlen wc wp
  obtain ⟨k, hk⟩ : ∃ k, k = 1 + c % 8 := ⟨_, rfl⟩
  obtain ⟨n, hn⟩ : ∃ n, n = 1 + p % 30 := ⟨_, rfl⟩
  have hwk : wrap64 (1 + Int.tmod c 8) = k := by rw [Kit.tm (by omega), Kit.wr (by omega) (by omega), hk]
  have hwn : wrap64 (1 + Int.tmod p 30) = n := by rw [Kit.tm (by omega), Kit.wr (by omega) (by omega), hn]
  have hkb : 1 ≤ k ∧ k ≤ 8 := by omega
  have hnb : 1 ≤ n ∧ n ≤ 30 := by omega
  have hcw : IntKind.i64.wrap c = c := Go.IntWalk.i64_in _ (by omega)
  have hpw : IntKind.i64.wrap p = p := Go.IntWalk.i64_in _ (by omega)
  have HKK : Side (kc k = k) := ⟨by unfold kc; omega⟩
  go_enter Try.func3, Try.ntmps3
  go_upto_region 3 with (go_at_call 7; (with_reducible refine (AwakeC _).out.mono ?_); rintro e w1 ⟨rfl, hb1⟩)
  have HB1 := Side.mk hb1
  clear hb1
  go_cut [7, 8] (fun v7 v8 we => v7 = .int .i64 k ∧ v8 = .int .i64 n ∧ we = w1)
  case first =>
    go_wp2
    go_meet
    case rel => exact ⟨by rw [hk], by rw [hn], rfl⟩
  case rest =>
    obtain ⟨rfl, rfl, hcut⟩ := hcut
    rw [hcut]
    clear hcut
    clear hwk hwn hcw hpw hc hp hk hn
    by_cases hbig : 300 < len
    · have hb3 : (300 : Int) < len := by omega
      go_wp2_with (go_at_call 8; (with_reducible refine (NewS HB1.out k k HKK.out).mono ?_); rintro e w2 ⟨rfl, hs1, _⟩)
      go_ret
      exact ⟨rfl, hs1.below⟩
    · have hb3 : ¬ (300 : Int) < len := by omega
      go_upto_region 8 with (go_at_call 8; (with_reducible refine (NewS HB1.out k k HKK.out).mono ?_); rintro e w2 ⟨rfl, hs1, _⟩)
      have S0 : Side (St w w2 (w1.heap.size + 2) w1.heap.size (w1.heap.size + 1) 0 k [] ∧ Fi n [] 0 0) := ⟨hs1, ⟨by simp, by simp, rfl, by omega⟩⟩
      clear hs1 HB1 HKK
      generalize w1.heap.size + 2 = gh at *
      generalize w1.heap.size + 1 = bm at *
      generalize w1.heap.size = bl at *
      have hkn : 1 ≤ k * n ∧ k * n ≤ 240 := ⟨Int.mul_pos (show 0 < k by omega) (show 0 < n by omega), Int.mul_le_mul (show k ≤ 8 by omega) (show n ≤ 30 by omega) (by omega) (by omega)⟩
      go_wp2_with fail
      go_loopw [10, 11] (fun v10 v11 wr => ∃ (sum : Int) (j : Nat) (ms : List Wt), v10 = .int .i64 sum ∧ v11 = .int .i64 (j : Int) ∧ j ≤ len ∧ Side (St w wr gh bl bm j k ms ∧ Fi n ms sum j)) (fun _ v11 _ => (len - intOf v11).toNat)
      case atStart => exact ⟨0, 0, [], rfl, rfl, Nat.zero_le _, S0⟩
      case round =>
        clear S0
        obtain ⟨sum, j, ms, rfl, rfl, hj, HS⟩ := hrel
        have hj0 : (0 : Int) ≤ j := by omega
        by_cases hlt : j < len
        · have hjj : (j : Int) < len := by omega
          have hj1 : (j : Int) + 1 ≤ 9223372036854775807 := by omega
          obtain ⟨b, off, rfl, hbl, hcell, hx0, hx1⟩ := rowU HROW.out HS.out.1.below j hlt
          obtain ⟨x, hx⟩ : ∃ x, x = intOf (V j 0) := ⟨_, rfl⟩
          rw [← hx] at hcell hx0 hx1
          clear hx
          obtain ⟨e, he⟩ : ∃ e, e = 1 + x % n := ⟨_, rfl⟩
          have heb : 1 ≤ e ∧ e ≤ n := by
            have := Int.emod_nonneg x (show n ≠ 0 by omega)
            have := Int.emod_lt_of_pos x (show 0 < n by omega)
            omega
          have hxn : Int.tmod x n = x % n := Kit.tm hx0
          have hsb := HS.out.2.b
          go_upto_region 12 with (fail)
          rw [← he]
          have hxb : 0 ≤ sum + e ∧ sum + e ≤ 300 := by omega
          clear hcell hx0 hx1 he hxn
          by_cases hf : sum + e ≤ k * n
          · have HCV : Side (canV k ms e n = 0) := ⟨by rw [HS.out.2.can hnb heb, if_pos hf]⟩
            have HAV : Side (addV k ms (j : Int) e n = 0) := ⟨by unfold addV; rw [if_neg (by unfold may; omega), if_neg (by rw [HS.out.2.new]; decide)]; exact HCV.out⟩
            have HF2 : Side (Fi n (ms ++ [((j : Int), e, n)]) (sum + e) (j + 1)) := ⟨HS.out.2.add e (by omega)⟩
            obtain ⟨s, hs⟩ : ∃ s, red (sum + e) n = s := ⟨_, rfl⟩
            have HSO : Side (sOf (ms ++ [((j : Int), e, n)]) = s) := ⟨by rw [HF2.out.sOf hnb, hs]⟩
            have HRO : Side (∀ w, Side (Calls Try.prog 12 #[.int .i64 (sum + e), .int .i64 n] w fun r w' => r = .returned (.agg #[.int .i64 s.1, .int .i64 s.2]) ∧ Below w.heap.size w w')) := ⟨fun w => RefOf (by unfold B0; omega) (by omega) (by unfold B0; omega) s hs w⟩
            have HJW : Side ((kv (j : Int)).wf = true) := ⟨wf_of (by omega) (by omega)⟩
            have HJN : Side (j < 1000000) := ⟨by omega⟩
            clear hs
            obtain ⟨s0, s1⟩ := s
            go_wp2_with (first
              | (go_at_call 9; (with_reducible refine (CanS HS.out.1 e n 0 HCV.out).mono ?_); rintro ee w3 ⟨rfl, hs3, _⟩)
              | (go_at_call 10; (with_reducible refine (AddS hs3 HJN.out (j : Int) e n 0 HJW.out HAV.out (ms ++ [((j : Int), e, n)]) rfl).mono ?_); rintro ee w4 ⟨rfl, hs4, _⟩)
              | (go_at_call 11; (with_reducible refine (SumS hs4 (s0, s1) HSO.out).mono ?_); rintro ee w5 ⟨rfl, hs5, hb5⟩)
              | (go_at_call 12; (with_reducible refine (HRO.out _).out.mono ?_); rintro ee w6 ⟨rfl, hb6⟩))
            have HS6 := Side.mk (hs5.below' hb6)
            clear hs3 hs4 hs5 hb5 hb6
            go_roundw
            case rel => exact ⟨(sum + e), j + 1, _, rfl, by simp, by omega, ⟨HS6.out, HF2.out⟩⟩
            case measure => simp [intOf]; omega
          · have HCV : Side (canV k ms e n = 8) := ⟨by rw [HS.out.2.can hnb heb, if_neg hf]⟩
            have HAV : Side (addV k ms (j : Int) e n = 8) := ⟨by unfold addV; rw [if_neg (by unfold may; omega), if_neg (by rw [HS.out.2.new]; decide)]; exact HCV.out⟩
            have HF2 : Side (Fi n ms sum (j + 1)) := ⟨HS.out.2.keep⟩
            obtain ⟨s, hs⟩ : ∃ s, red sum n = s := ⟨_, rfl⟩
            have HSO : Side (sOf ms = s) := ⟨by rw [HF2.out.sOf hnb, hs]⟩
            have HRO : Side (∀ w, Side (Calls Try.prog 12 #[.int .i64 sum, .int .i64 n] w fun r w' => r = .returned (.agg #[.int .i64 s.1, .int .i64 s.2]) ∧ Below w.heap.size w w')) := ⟨fun w => RefOf (by unfold B0; omega) (by omega) (by unfold B0; omega) s hs w⟩
            have HJW : Side ((kv (j : Int)).wf = true) := ⟨wf_of (by omega) (by omega)⟩
            have HJN : Side (j < 1000000) := ⟨by omega⟩
            clear hs
            obtain ⟨s0, s1⟩ := s
            go_wp2_with (first
              | (go_at_call 9; (with_reducible refine (CanS HS.out.1 e n 8 HCV.out).mono ?_); rintro ee w3 ⟨rfl, hs3, _⟩)
              | (go_at_call 10; (with_reducible refine (AddS hs3 HJN.out (j : Int) e n 8 HJW.out HAV.out ms rfl).mono ?_); rintro ee w4 ⟨rfl, hs4, _⟩)
              | (go_at_call 11; (with_reducible refine (SumS hs4 (s0, s1) HSO.out).mono ?_); rintro ee w5 ⟨rfl, hs5, hb5⟩)
              | (go_at_call 12; (with_reducible refine (HRO.out _).out.mono ?_); rintro ee w6 ⟨rfl, hb6⟩))
            have HS6 := Side.mk (hs5.below' hb6)
            clear hs3 hs4 hs5 hb5 hb6
            go_roundw
            case rel => exact ⟨sum, j + 1, _, rfl, by simp, by omega, ⟨HS6.out, HF2.out⟩⟩
            case measure => simp [intOf]; omega
        · have hii : ¬ (j : Int) < len := by omega
          go_wp2
          go_ret
          exact ⟨rfl, HS.out.1.below⟩
end Go.Proofs.Ytfgmenndmcjggaa.LFills

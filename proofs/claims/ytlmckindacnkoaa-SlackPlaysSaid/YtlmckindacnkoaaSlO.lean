/- Package slack: the walk of SlackSums: it answers true. No condition but what the arguments' types say. -/
import Derived.Test.YtlmckindacnkoaaSlN
import Derived.Deep.QuietTactic
import Derived.BigQuiet
import Derived.IntWalk
set_option linter.unusedVariables false
set_option linter.unusedSimpArgs false
namespace Go.Proofs.Ytlmckindacnkoaa.SlO
open Go.RowKit Go.Proofs.Ytlmckindacnkoaa.Kit Go.Proofs.Ytlmckindacnkoaa.Kit2 Go.Proofs.Ytlmckindacnkoaa.SlA Go.Proofs.Ytlmckindacnkoaa.SlB Go.Proofs.Ytlmckindacnkoaa.SlC Go.Proofs.Ytlmckindacnkoaa.SlD Go.Proofs.Ytlmckindacnkoaa.SlE Go.Proofs.Ytlmckindacnkoaa.SlF Go.Proofs.Ytlmckindacnkoaa.SlG Go.Proofs.Ytlmckindacnkoaa.SlH Go.Proofs.Ytlmckindacnkoaa.SlI Go.Proofs.Ytlmckindacnkoaa.SlJ Go.Proofs.Ytlmckindacnkoaa.SlK Go.Proofs.Ytlmckindacnkoaa.SlL Go.Proofs.Ytlmckindacnkoaa.SlN
attribute [local go_sem] Go.Proofs.YtlmckindacnkoaaW.PrintMore.max2_int Go.Proofs.YtlmckindacnkoaaW.PrintMore.min2_int Go.Proofs.YtlmckindacnkoaaW.PrintMore.max_two Go.Proofs.YtlmckindacnkoaaW.PrintMore.min_two
theorem row8 {W w : World} {a : Option Addr} {len : Nat} {V : Nat → Nat → Value} (h : InRow [.i .u8] W a len V) (hb : Below W.heap.size W w) (q : Nat) (hq : q < len) : ∃ b off x, a = some ⟨b, off, none⟩ ∧ w.cell? ⟨b, off + q, none⟩ = some (.int .u8 x) ∧ 0 ≤ x ∧ x ≤ 255 ∧ b < W.heap.size := by
  obtain ⟨b, off, hp, hcs⟩ := h
  obtain ⟨rfl, hbl⟩ := hp (by omega)
  obtain ⟨hc0, x, hx, hw⟩ := hcs q hq 0 _ rfl
  rw [hx] at hc0
  exact ⟨b, off, x, rfl, ((bcell hb).1 _ _ hbl).trans (by simpa using hc0), (isu8 hw).1, (isu8 hw).2, hbl⟩
theorem ids_snoc {xs : List It} (i : Nat) (n : Int) (h : ∀ x ∈ xs, x.1 < (i : Int)) : ∀ x ∈ xs ++ [((i : Int), n)], x.1 < ((i + 1 : Nat) : Int) := by
  intro z hz
  rcases List.mem_append.1 hz with hz | hz
  · have := h z hz
    push_cast; omega
  · simp at hz
    subst hz
    push_cast; omega
set_option maxHeartbeats 16000000 in
set_option maxRecDepth 100000 in
theorem Sums_at (a : Option Addr) (len cap : Nat) (V : Nat → Nat → Value) (a' : Option Addr) (len' cap' : Nat) (V' : Nat → Nat → Value) (w : World) (hrow : InRow [.i .u8] w a len V) (hlen : len ≤ maxLen) (hrow' : InRow [.i .u8] w a' len' V') (hlen' : len' ≤ maxLen) :
    Calls Try.prog 4 #[.slice a len cap, .slice a' len' cap'] w fun r w' => r = .returned (.bool true) ∧ Below w.heap.size w w' := by
  have HROW := Side.mk hrow
  have HROW' := Side.mk hrow'
  have hl : (len : Int) ≤ 9223372036854775807 := by unfold maxLen at hlen; omega
  have hl' : (len' : Int) ≤ 9223372036854775807 := by unfold maxLen at hlen'; omega
  clear hrow hlen hrow' hlen'
  go_enter Try.func4, Try.ntmps4
  go_wp2_with fail
  refine (awake_at _).mono ?_
  rintro e w1 ⟨rfl, hb⟩
  have S0 := Side.mk (St.start hb)
  clear hb
  go_wp2_with fail
  refine (New_at _).mono ?_
  rintro e w2 ⟨rfl, rfl⟩
  obtain ⟨gq, hgq⟩ : ∃ gq, gq = w1.heap.size := ⟨_, rfl⟩
  rw [← hgq] at S0 ⊢
  generalize w1.alloc (.cells #[.slice none 0 0] 51) = w2 at *
  clear hgq
  by_cases hbig : 60 < len
  · have hb1 : (60 : Int) < len := by omega
    go_wp2_with fail
    go_ret
    exact ⟨rfl, S0.out.below⟩
  have hb1 : ¬ (60 : Int) < len := by omega
  have hl3 : len ≤ 60 := by omega
  clear hbig
  by_cases hbig : 200 < len'
  · have hb2 : (200 : Int) < len' := by omega
    go_wp2_with fail
    go_ret
    exact ⟨rfl, S0.out.below⟩
  have hb2 : ¬ (200 : Int) < len' := by omega
  have hl3' : len' ≤ 200 := by omega
  clear hbig
  go_wp2_with fail
  go_loopw [6, 8] (fun v6 v8 wr => ∃ (i : Nat) (xs : List It) (y : Int), i ≤ len ∧ v8 = .int .i64 (i : Int) ∧ v6 = .int .i64 y ∧ Side (y = sumL xs) ∧ Side (xs.length = i) ∧ 0 ≤ y ∧ y ≤ 256 * (i : Int) ∧ Side (St w wr gq xs) ∧ Side (Inc 0 xs) ∧ Side (∀ x ∈ xs, x.1 < (i : Int))) (fun _ v8 _ => (len - intOf v8).toNat)
  case atStart => exact ⟨0, [], 0, by omega, by simp, rfl, ⟨rfl⟩, ⟨rfl⟩, by omega, by omega, S0, ⟨trivial⟩, ⟨by simp⟩⟩
  case round =>
    obtain ⟨i, xs, y, hi, rfl, rfl, hy, hxl, y0, y1, S6, I6, L6⟩ := hrel
    by_cases hlt : i < len
    · obtain ⟨b, off, x, rfl, r0, x0, x1, hbl⟩ := row8 HROW.out S6.out.below i hlt
      have hii : (i : Int) < len := by omega
      have PN := Side.mk (put_new (xs := xs) (id := i) (need := 1 + x) (by omega) (by omega) (fun z hz => by have := L6.out z hz; omega) (by have := hxl.out; omega))
      have C := Side.mk (Put_st S6.out (by have := hxl.out; omega) i (1 + x) _ _ PN.out.1 PN.out.2)
      have hlx : xs.length ≤ 60 := by have := hxl.out; omega
      go_wp2_with fail
      refine C.out.mono ?_
      rintro e w6 ⟨rfl, S7, _⟩
      have S7 := Side.mk S7
      have r1 : w6.cell? ⟨b, off + i, none⟩ = some (.int .u8 x) := by
        obtain ⟨b', off', x', h1, h2, _⟩ := row8 HROW.out S7.out.below i hlt
        obtain ⟨b2, off2, x2, h3, h4, _⟩ := row8 HROW.out S6.out.below i hlt
        simp at h1 h3
        obtain ⟨rfl, rfl⟩ := h1
        have e1 : w.cell? ⟨b, off + i, none⟩ = some (.int .u8 x') := ((bcell S7.out.below).1 _ _ hbl).symm.trans h2
        have e2 : w.cell? ⟨b, off + i, none⟩ = some (.int .u8 x) := ((bcell S6.out.below).1 _ _ hbl).symm.trans r0
        rw [e1] at e2
        rw [h2]
        exact e2
      clear r0 C
      go_wp2
      go_roundw
      case rel => exact ⟨i + 1, xs ++ [((i : Int), 1 + x)], y + 1 + x, by omega, by simp, rfl, ⟨by rw [sum_app, ← hy.out]; show _ = y + (1 + x); omega⟩, ⟨by simp [hxl.out]⟩, by omega, by push_cast; omega, S7, ⟨Inc.snoc _ _ I6.out (by omega) L6.out (by omega) (by omega)⟩, ⟨ids_snoc i _ L6.out⟩⟩
      case measure => simp [intOf]; omega
    · obtain rfl : i = len := by omega
      have hii : ¬ (i : Int) < i := by omega
      clear hlt hi
      have hxl2 : xs.length ≤ 60 := by have := hxl.out; omega
      go_wp2_with fail
      go_loopw [7, 9] (fun v7 v9 wr => ∃ (q : Nat) (xs : List It) (gv : Int), q ≤ len' ∧ v9 = .int .i64 (q : Int) ∧ v7 = .int .i64 gv ∧ Side (gv + sumL xs = y) ∧ 0 ≤ gv ∧ gv ≤ y ∧ Side (St w wr gq xs) ∧ Side (Inc 0 xs) ∧ xs.length ≤ 60) (fun _ v9 _ => (len' - intOf v9).toNat)
      case atStart => exact ⟨0, xs, 0, by omega, by simp, rfl, ⟨by rw [hy.out]; omega⟩, by omega, y0, S6, I6, hxl2⟩
      case round =>
        clear I6 L6 hxl hy hxl2
        obtain ⟨q, xs, gv, hq, rfl, rfl, hgv, g0, g1, S7, I7, hx60⟩ := hrel
        by_cases hlt : q < len'
        · obtain ⟨b, off, x, rfl, r0, x0, x1, hbl⟩ := row8 HROW'.out S7.out.below q hlt
          obtain ⟨xn, rfl⟩ := Int.eq_ofNat_of_zero_le x0
          have hii : (q : Int) < len' := by omega
          obtain ⟨L, hL⟩ : ∃ L, xs.length = L := ⟨_, rfl⟩
          have hL60 : L ≤ 60 := by omega
          have HL := Side.mk hL
          clear hL hx60
          have C1 := Side.mk (List_len S7.out (by have := HL.out; omega) L HL.out)
          obtain ⟨nn, hnn⟩ : ∃ nn : Nat, many (xn : Int) xs.length = nn := ⟨_, rfl⟩
          obtain ⟨M, hM⟩ : ∃ M, (over nn xs).length = M := ⟨_, rfl⟩
          obtain ⟨R, hR⟩ : ∃ R, (left (decr nn xs)).length = R := ⟨_, rfl⟩
          have hLMR := len_give nn (fun z hz => (Inc.low I7.out z hz).2.1)
          have hsum := sum_give (xs := xs) nn (by rw [← hnn]; unfold many; omega) (fun z hz => (Inc.low I7.out z hz).2.1)
          have hpos := sum_pos (xs := left (decr nn xs)) (fun z hz => (Inc.low (Inc.give 0 nn I7.out) z hz).2.1)
          have HG := Side.mk (Inc.give 0 nn I7.out)
          have hgv2 : (gv + (nn : Int)) + sumL (left (decr nn xs)) = y := by have := hgv.out; omega
          have g2 : gv + (nn : Int) ≤ y := by omega
          have HG2 := Side.mk hgv2
          have t1 : ((L : Int) - (M : Int) != (R : Int)) = false := by
            rw [hM, hR, HL.out] at hLMR
            simp; omega
          have hR60 : R ≤ 60 := by rw [hM, hR, HL.out] at hLMR; omega
          have hM60 : M ≤ 60 := by rw [hM, hR, HL.out] at hLMR; omega
          have HRR := Side.mk hR
          have C2 : ∀ w', St w w' gq xs → Side (Calls Try.prog 12 #[.pointer (some ⟨gq, 0, none⟩), .int .i64 (xn : Int)] w' fun r w'' => ∃ a cap, r = .returned (.tuple #[.int .i64 (nn : Int), .slice a M cap]) ∧ IRow w'' w'.heap.size (.slice a M cap) (over nn xs) ∧ St w w'' gq (left (decr nn xs)) ∧ Fr w' w'') :=
            fun w' h => ⟨Give_len h (by have := HL.out; omega) (fun z hz => by have := Inc.low I7.out z hz; omega) _ _ _ _ M hM hnn rfl rfl⟩
          have C3 : ∀ w', St w w' gq (left (decr nn xs)) → Side (Calls Try.prog 14 #[.pointer (some ⟨gq, 0, none⟩)] w' fun r w'' => ∃ a cap, r = .returned (.slice a R cap) ∧ Row w'' w'.heap.size 41 (.slice a R cap) (left (decr nn xs)) ∧ St w w'' gq (left (decr nn xs)) ∧ Below w'.heap.size w' w'') :=
            fun w' h => ⟨List_len h (by omega) R hR⟩
          have hrd : ∀ w', St w w' gq xs ∨ St w w' gq (left (decr nn xs)) → Side (w'.cell? ⟨b, off + q, none⟩ = some (.int .u8 (xn : Int))) := fun w' h => ⟨by
            have hb : Below w.heap.size w w' := by rcases h with h | h <;> exact h.below
            rw [(bcell hb).1 _ _ hbl, ← (bcell S7.out.below).1 _ _ hbl]
            exact r0⟩
          have C2' := Side.mk C2
          have C3' := Side.mk C3
          have HRD := Side.mk hrd
          have HMn : Side (many (xn : Int) xs.length = nn) := ⟨hnn⟩
          clear hnn hM hR hLMR hsum hpos hgv hgv2 C2 C3 hrd
          go_wp2_with fail
          refine C1.out.mono ?_
          rintro e w8 ⟨a8, cap8, rfl, _, S8, _⟩
          have r8 := (HRD.out w8 (.inl S8)).out
          have C2 := C2'.out w8 S8
          clear C2' r0 S8 C1
          go_wp2_with fail
          refine C2.out.mono ?_
          rintro e w9 ⟨a9, cap9, rfl, _, S9, _⟩
          have r9 := (HRD.out w9 (.inr S9)).out
          have C3 := C3'.out w9 S9
          clear C3' r8 S9 C2 HRD
          by_cases hc : xn < L
          · have hcI : (xn : Int) < L := by omega
            obtain rfl : nn = xn := by rw [← HMn.out, HL.out]; unfold many; omega
            clear hc
            go_wp2_with fail
            refine C3.out.mono ?_
            rintro e w10 ⟨a10, cap10, rfl, _, S10, _⟩
            have S10 := Side.mk S10
            go_wp2
            go_roundw
            case rel => exact ⟨q + 1, _, gv + (nn : Int), by omega, by simp, rfl, HG2, by omega, g2, S10, HG, by rw [HRR.out]; exact hR60⟩
            case measure => simp [intOf]; omega
          · have hcI : ¬ (xn : Int) < L := by omega
            obtain rfl : nn = L := by rw [← HMn.out, HL.out]; unfold many; omega
            clear hc
            go_wp2_with fail
            refine C3.out.mono ?_
            rintro e w10 ⟨a10, cap10, rfl, _, S10, _⟩
            have S10 := Side.mk S10
            go_wp2
            go_roundw
            case rel => exact ⟨q + 1, _, gv + (nn : Int), by omega, by simp, rfl, HG2, by omega, g2, S10, HG, by rw [HRR.out]; exact hR60⟩
            case measure => simp [intOf]; omega
        · have hii : ¬ (q : Int) < len' := by omega
          clear hlt
          go_wp2_with fail
          obtain ⟨L, hL⟩ : ∃ L, xs.length = L := ⟨_, rfl⟩
          have hL60 : L ≤ 60 := by omega
          refine (List_len S7.out (by omega) L hL).mono ?_
          rintro e w8 ⟨a8, cap8, rfl, R8, S8, _⟩
          have R8 := Side.mk R8
          have S8 := Side.mk S8
          have HL := Side.mk hL
          clear hL hx60 hii
          go_wp2_with fail
          go_loopw [13, 15] (fun v13 v15 wr => ∃ (j : Nat) (z : Int), j ≤ L ∧ v15 = .int .i64 (j : Int) ∧ v13 = .int .i64 z ∧ Side (z = sumL (xs.take j)) ∧ 0 ≤ z ∧ z ≤ y ∧ Side (Below w8.heap.size w8 wr)) (fun _ v15 _ => (L - intOf v15).toNat)
          case atStart => exact ⟨0, 0, by omega, by simp, rfl, ⟨by simp [sumL]⟩, by omega, y0, ⟨Below.refl _ _⟩⟩
          case round =>
            obtain ⟨j, z, hj, rfl, rfl, hz, z0, z1, B9⟩ := hrel
            by_cases hlt : j < L
            · obtain ⟨x, hx⟩ : ∃ x, xs[j]? = some x := ⟨xs[j]'(by have := HL.out; omega), List.getElem?_eq_getElem _⟩
              obtain ⟨xa, xb⟩ := x
              have hst := sum_take xs j (xa, xb) hx
              have hle := (sum_take_le (fun z hz => (Inc.low I7.out z hz).2.1) (j + 1)).2
              have hlow := Inc.low I7.out (xa, xb) (List.mem_of_getElem? hx)
              have hxb : ¬ xb < 1 := by have := hlow.2.1; simp at this; omega
              have hxb0 : 0 ≤ xb := by omega
              have hxb1 : xb ≤ 256 := hlow.2.2
              have hz1 : z + xb ≤ y := by have := hgv.out; have := hz.out; simp at hst; omega
              have HZ : Side (z + xb = sumL (xs.take (j + 1))) := ⟨by rw [hst, ← hz.out]⟩
              have hjj : (j : Int) < L := by omega
              obtain ⟨g, hg, hr⟩ : ∃ g, a8 = some ⟨g, 0, none⟩ ∧ ∀ (m : Nat) (x : It), xs[m]? = some x → wr.cell? ⟨g, m * 2, none⟩ = some (.int .i64 x.1) ∧ wr.cell? ⟨g, m * 2 + 1, none⟩ = some (.int .i64 x.2) := by
                rcases (Row.below R8.out B9.out).read with ⟨_, h0⟩ | ⟨g', cap', h0, _, _, _, _, hr⟩
                · rw [h0] at hx; simp at hx
                · simp at h0
                  exact ⟨g', h0.1, hr⟩
              subst hg
              have r0 : wr.cell? ⟨g, j * 2, none⟩ = some (.int .i64 xa) := (hr j _ hx).1
              have r1 : wr.cell? ⟨g, j * 2 + 1, none⟩ = some (.int .i64 xb) := (hr j _ hx).2
              have d0 : decide (xb < 1) = false := by simpa using hxb
              have HX := Side.mk hx
              clear hst hle hlow hx
              rcases j with _ | p
              · clear hr
                have d1 : decide ((0 : Int) < 0) = false := by decide
                go_wp2_with fail
                go_quiet (fail)
                go_wp2
                go_roundw
                case rel => exact ⟨1, z + xb, by omega, by simp, rfl, HZ, by omega, hz1, ⟨below_drewN B9.out _⟩⟩
                case measure => simp [intOf]; omega
              · obtain ⟨x', hx'⟩ : ∃ x, xs[p]? = some x := ⟨xs[p]'(by have := HL.out; omega), List.getElem?_eq_getElem _⟩
                obtain ⟨pa, pb⟩ := x'
                have r2 : wr.cell? ⟨g, p * 2, none⟩ = some (.int .i64 pa) := (hr p _ hx').1
                have hlt' := Inc.lt p _ _ I7.out hx' HX.out
                have d2 : decide (xa ≤ pa) = false := by simp at hlt' ⊢; omega
                have d1 : decide ((0 : Int) < ((p + 1 : Nat) : Int)) = true := decide_eq_true (by omega)
                have d3 : decide ((0 : Int) < (p : Int) + 1) = true := decide_eq_true (by omega)
                have hp0 : (0 : Int) ≤ p := by omega
                have hp1 : (p : Int) + 1 < L := by omega
                have hp2 : (p : Int) < L := by omega
                have hw : IntKind.i64.wrap ((p : Int) + 1 - 1) = (p : Int) := by rw [Int.add_sub_cancel]; exact IntWalk.i64_in _ (by omega)
                have hpn : ((p : Int)).toNat = p := by omega
                clear hr hx' hlt'
                go_wp2_with fail
                go_quiet (fail)
                go_wp2
                go_roundw
                case rel => exact ⟨p + 1 + 1, z + xb, by omega, by push_cast; rfl, rfl, HZ, by omega, hz1, ⟨below_drewN B9.out _⟩⟩
                case measure => simp [intOf]; omega
            · obtain rfl : j = L := by omega
              have hjj : ¬ (j : Int) < j := by omega
              have hfin : gv + z = y := by
                have h1 := hz.out
                have h2 := HL.out
                rw [← h2, List.take_length] at h1
                have := hgv.out
                omega
              have hg3 : 0 ≤ gv + z := by omega
              have HF := Side.mk hfin
              clear hfin
              go_wp2
              go_ret
              exact ⟨ret_bool (by rw [HF.out]; simp), below_then S8.out.below S8.out.below.size B9.out⟩
end Go.Proofs.Ytlmckindacnkoaa.SlO

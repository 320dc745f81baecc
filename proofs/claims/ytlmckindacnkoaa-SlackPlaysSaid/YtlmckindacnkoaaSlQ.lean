/- Package slack: the walk of SlackOnce: it answers true. No condition but what the arguments' types say. -/
import Derived.Test.YtlmckindacnkoaaSlP
set_option linter.unusedVariables false
set_option linter.unusedSimpArgs false
namespace Go.Proofs.Ytlmckindacnkoaa.SlQ
open Go.RowKit Go.Proofs.Ytlmckindacnkoaa.Kit Go.Proofs.Ytlmckindacnkoaa.Kit2 Go.Proofs.Ytlmckindacnkoaa.SlA Go.Proofs.Ytlmckindacnkoaa.SlB Go.Proofs.Ytlmckindacnkoaa.SlC Go.Proofs.Ytlmckindacnkoaa.SlD Go.Proofs.Ytlmckindacnkoaa.SlE Go.Proofs.Ytlmckindacnkoaa.SlF Go.Proofs.Ytlmckindacnkoaa.SlG Go.Proofs.Ytlmckindacnkoaa.SlH Go.Proofs.Ytlmckindacnkoaa.SlI Go.Proofs.Ytlmckindacnkoaa.SlJ Go.Proofs.Ytlmckindacnkoaa.SlK Go.Proofs.Ytlmckindacnkoaa.SlL Go.Proofs.Ytlmckindacnkoaa.SlN Go.Proofs.Ytlmckindacnkoaa.SlO Go.Proofs.Ytlmckindacnkoaa.SlP
theorem bit1 : ∀ n : Nat, n < 256 → bits BinOp.and IntKind.u8 (n : Int) 1 = 0 ∨ bits BinOp.and IntKind.u8 (n : Int) 1 = 1 := by decide +kernel
theorem bit1' (x : Int) (h0 : 0 ≤ x) (h1 : x ≤ 255) : 0 ≤ bits BinOp.and IntKind.u8 x 1 ∧ bits BinOp.and IntKind.u8 x 1 ≤ 1 := by
  obtain ⟨n, rfl⟩ := Int.eq_ofNat_of_zero_le h0
  rcases bit1 n (by omega) with h | h <;> rw [h] <;> omega
set_option maxHeartbeats 16000000 in
set_option maxRecDepth 100000 in
theorem Once_at (a : Option Addr) (len cap : Nat) (V : Nat → Nat → Value) (w : World) (hrow : InRow [.i .u8] w a len V) (hlen : len ≤ maxLen) :
    Calls Try.prog 7 #[.slice a len cap] w fun r w' => r = .returned (.bool true) ∧ Below w.heap.size w w' := by
  have HROW := Side.mk hrow
  have hl : (len : Int) ≤ 9223372036854775807 := by unfold maxLen at hlen; omega
  clear hrow hlen
  go_enter Try.func7, Try.ntmps7
  go_wp2_with fail
  refine (awake_at _).mono ?_
  rintro e w1 ⟨rfl, hb⟩
  have S0 := Side.mk (St.start hb)
  clear hb
  go_wp2_with fail
  refine (New_at _).mono ?_
  rintro e w2 ⟨rfl, rfl⟩
  obtain ⟨gq, hgq⟩ : ∃ gq, gq = w1.heap.size := ⟨_, rfl⟩
  rw [← hgq] at S0 ⊢
  generalize w1.alloc (.cells #[.slice none 0 0] 51) = w2 at *
  clear hgq
  by_cases hbig : 200 < len
  · have hb1 : (200 : Int) < len := by omega
    go_wp2_with fail
    go_ret
    exact ⟨rfl, S0.out.below⟩
  have hb1 : ¬ (200 : Int) < len := by omega
  have hl3 : len ≤ 200 := by omega
  clear hbig
  go_upto_region 7 with (fail)
  obtain ⟨go, hgo⟩ : ∃ go, go = w2.heap.size := ⟨_, rfl⟩
  have O0 : Side (On (w2.alloc (.cells #[.bool false, .bool false, .bool false, .bool false, .bool false, .bool false, .bool false, .bool false] 47)) go (on [])) := ⟨_, by rw [hgo]; exact heap_alloc_new w2 _, fun k hk => by
    match k, hk with
    | 0, _ => rfl
    | 1, _ => rfl
    | 2, _ => rfl
    | 3, _ => rfl
    | 4, _ => rfl
    | 5, _ => rfl
    | 6, _ => rfl
    | 7, _ => rfl⟩
  have S1 : Side (St w (w2.alloc (.cells #[.bool false, .bool false, .bool false, .bool false, .bool false, .bool false, .bool false, .bool false] 47)) gq []) := ⟨St.below' S0.out (by (repeat (with_reducible first | exact Below.refl _ _ | apply below_alloc)))⟩
  have hgg : w.heap.size ≤ go := by rw [hgo]; exact S0.out.below.size
  rw [← hgo]
  generalize w2.alloc (.cells #[.bool false, .bool false, .bool false, .bool false, .bool false, .bool false, .bool false, .bool false] 47) = w3 at *
  clear hgo
  go_wp2_with fail
  go_loopw [5] (fun v5 wr => ∃ (i : Nat) (xs : List It), i ≤ len ∧ v5 = .int .i64 (i : Int) ∧ Side (St w wr gq xs) ∧ Side (Ones xs) ∧ Side (On wr go (on xs))) (fun v5 _ => (len - intOf v5).toNat)
  case atStart => exact ⟨0, [], by omega, by simp, S1, ⟨⟨by simp [ids], by simp⟩⟩, O0⟩
  case round =>
    obtain ⟨i, xs, hi, rfl, S6, I6, O6⟩ := hrel
    by_cases hlt : i < len
    · obtain ⟨b, off, x, rfl, r0, x0, x1, hbl⟩ := row8 HROW.out S6.out.below i hlt
      have hii : (i : Int) < len := by omega
      have B1 := Side.mk (bit1' x x0 x1)
      obtain ⟨k, hk, hk8⟩ : ∃ k : Nat, (k : Int) = x / 4 % 8 ∧ k < 8 := ⟨(x / 4 % 8).toNat, by omega, by omega⟩
      go_upto_if 41 with (fail)
      rw [← hk]
      generalize x / 4 = z5 at *
      generalize z5 % 8 = z6 at *
      have hk9 : (k : Int) < 8 := by omega
      have hii1 : (i : Int) + 1 ≤ 9223372036854775807 := by omega
      clear hk
      cases hz : (bits BinOp.and IntKind.u8 x 3 != 0)
      · clear r0 B1
        generalize bits BinOp.and IntKind.u8 x 3 = z3 at *
        clear hz
        obtain ⟨M, hM⟩ : ∃ M, (over (SlI.many (k : Int) xs.length) xs).length = M := ⟨_, rfl⟩
        have hsub := over_sub xs (SlI.many (k : Int) xs.length)
        have hM8 : M ≤ 8 := by
          have h1 := hsub.length_le
          have h2 := I6.out.len
          rw [hM] at h1
          simp [ids] at h1
          omega
        have C := Side.mk (Give_len S6.out (by have := I6.out.len; omega) (fun z hz => by have := I6.out.low z hz; omega) (k : Int) _ _ _ M hM rfl rfl rfl)
        have ND : Side ((over (SlI.many (k : Int) xs.length) xs).Nodup ∧ ∀ z ∈ over (SlI.many (k : Int) xs.length) xs, (0 ≤ z ∧ z < 8) ∧ z ∈ ids xs) := ⟨I6.out.once.sublist hsub, fun z hz => by
          have h1 := hsub.subset hz
          obtain ⟨y, hy, rfl⟩ := List.mem_map.1 h1
          exact ⟨⟨(I6.out.low y hy).1, (I6.out.low y hy).2.1⟩, h1⟩⟩
        have GO := Side.mk (fun j => on_give (xs := xs) (SlI.many (k : Int) xs.length) j I6.out.once (fun z hz => (I6.out.low z hz).2.2.1))
        have IG := Side.mk (I6.out.give (SlI.many (k : Int) xs.length))
        have HM := Side.mk hM
        clear hM hsub
        generalize left (decr (SlI.many (k : Int) xs.length) xs) = ys at *
        generalize SlI.many (k : Int) xs.length = nn at *
        generalize over nn xs = os at *
        go_wp2_with fail
        refine C.out.mono ?_
        rintro e w8 ⟨a8, cap8, rfl, I8, S8, F8⟩
        have I8 := Side.mk I8
        have S8 := Side.mk S8
        have O8 := Side.mk (On.fr O6.out F8)
        clear F8 C
        go_wp2_with fail
        obtain ⟨wo, rfl⟩ : ∃ wo : World, wo = wr := ⟨_, rfl⟩
        go_loopw [10] (fun v10 wq => ∃ j : Nat, j ≤ M ∧ v10 = .int .i64 (j : Int) ∧ Side (St w wq gq ys) ∧ Side (IRow wq wo.heap.size (.slice a8 M cap8) os) ∧ Side (On wq go (fun k => on xs k && !decide ((k : Int) ∈ os.take j)))) (fun v10 _ => (M - intOf v10).toNat)
        case atStart => exact ⟨0, by omega, by simp, S8, I8, ⟨On.congr O8.out (fun j _ => by simp)⟩⟩
        case round =>
          obtain ⟨j, hj, rfl, S9, I9, O9⟩ := hrel
          by_cases hjm : j < M
          · obtain ⟨z, hz⟩ : ∃ z, os[j]? = some z := ⟨os[j]'(by have := HM.out; omega), List.getElem?_eq_getElem _⟩
            have hzl := ND.out.2 z (List.mem_of_getElem? hz)
            obtain ⟨zn, rfl⟩ := Int.eq_ofNat_of_zero_le hzl.1.1
            have hzn : zn < 8 := by have := hzl.1.2; omega
            have hzi : (zn : Int) < 8 := by omega
            have hon : (on xs zn && !decide ((zn : Int) ∈ os.take j)) = true := by
              have h1 : on xs zn = true := by unfold on; exact decide_eq_true hzl.2
              have h2 := not_taken ND.out.1 j _ hz
              rw [h1]; simp [h2]
            have c0 : wr.cell? ⟨go, zn, none⟩ = some (.bool true) := (On.cell O9.out zn hzn).trans (by simp only [hon])
            have f0 : wr.frozen? ⟨go, zn, none⟩ = false := On.free O9.out zn
            obtain ⟨g, rfl, hg, -, -, hr⟩ := IRow.get I9.out (by intro h; rw [h] at hz; simp at hz)
            have r1 : wr.cell? ⟨g, j, none⟩ = some (.int .i64 (zn : Int)) := hr j _ hz
            have hjj : (j : Int) < M := by omega
            have HZ := Side.mk hz
            clear hr hz hzl hon
            go_wp2
            go_roundw
            case rel => exact ⟨j + 1, by omega, by simp, ⟨St.set S9.out O9.out hgg _ _⟩, ⟨IRow.set I9.out O9.out _ _⟩, ⟨On.set O9.out zn hzn false (fun m hm => on_take j m zn HZ.out (on xs m))⟩⟩
            case measure => simp [intOf]; omega
          · obtain rfl : j = M := by omega
            have hjj : ¬ (j : Int) < j := by omega
            have O10 : Side (On wr go (on ys)) := ⟨On.congr O9.out (fun m _ => by
              have := GO.out m
              rw [this, List.take_of_length_le (by rw [HM.out]; omega)])⟩
            clear hjm hj
            go_wp2
            go_roundw
            case rel => exact ⟨i + 1, ys, by omega, by simp, S9, IG, O10⟩
            case measure => simp [intOf]; omega
      · clear hz
        generalize bits BinOp.and IntKind.u8 x 3 = z3 at *
        have hb0 : 0 ≤ bits BinOp.and IntKind.u8 x 1 := B1.out.1
        have hb1' : bits BinOp.and IntKind.u8 x 1 ≤ 1 := B1.out.2
        cases hon : on xs k
        · have PN := Side.mk (I6.out.put_off k (1 + bits BinOp.and IntKind.u8 x 1) (by omega) (by omega) hon)
          have C := Side.mk (Put_st S6.out (by have := I6.out.len; omega) k (1 + bits BinOp.and IntKind.u8 x 1) _ _ PN.out.1 PN.out.2)
          have I7 := Side.mk (I6.out.put k (1 + bits BinOp.and IntKind.u8 x 1) hk8 (by omega) (by omega) hon)
          have HN := Side.mk hon
          go_wp2_with fail
          refine C.out.mono ?_
          rintro e w8 ⟨rfl, S8, F8⟩
          have S8 := Side.mk S8
          have O8 := Side.mk (On.fr O6.out F8)
          have c0 : w8.cell? ⟨go, k, none⟩ = some (.bool false) := (On.cell O8.out k hk8).trans (by rw [HN.out])
          have f0 : w8.frozen? ⟨go, k, none⟩ = false := On.free O8.out k
          clear F8 C hon
          go_wp2
          go_roundw
          case rel => exact ⟨i + 1, _, by omega, by simp, ⟨St.set S8.out O8.out hgg _ _⟩, I7, ⟨On.set O8.out k hk8 true (fun m hm => by rw [on_put]; by_cases e : m = k <;> simp [e])⟩⟩
          case measure => simp [intOf]; omega
        · have PN := Side.mk (I6.out.put_on k (1 + bits BinOp.and IntKind.u8 x 1) (by omega) (by omega) hon)
          have C := Side.mk (Put_st S6.out (by have := I6.out.len; omega) k (1 + bits BinOp.and IntKind.u8 x 1) _ _ PN.out.1 PN.out.2)
          have HN := Side.mk hon
          go_wp2_with fail
          refine C.out.mono ?_
          rintro e w8 ⟨rfl, S8, F8⟩
          have S8 := Side.mk S8
          have O8 := Side.mk (On.fr O6.out F8)
          have c0 : w8.cell? ⟨go, k, none⟩ = some (.bool true) := (On.cell O8.out k hk8).trans (by rw [HN.out])
          have f0 : w8.frozen? ⟨go, k, none⟩ = false := On.free O8.out k
          clear F8 C hon
          go_wp2
          go_roundw
          case rel => exact ⟨i + 1, _, by omega, by simp, ⟨St.set S8.out O8.out hgg _ _⟩, I6, ⟨On.set O8.out k hk8 true (fun m hm => by by_cases e : m = k <;> simp [e, HN.out])⟩⟩
          case measure => simp [intOf]; omega
    · have hii : ¬ (i : Int) < len := by omega
      clear hlt
      go_wp2
      go_ret
      exact ⟨rfl, S6.out.below⟩
end Go.Proofs.Ytlmckindacnkoaa.SlQ

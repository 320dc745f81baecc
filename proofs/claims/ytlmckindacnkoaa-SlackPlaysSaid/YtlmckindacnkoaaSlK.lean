/- Package slack: the walk of SlackKnown: it answers true. No condition. -/
import Derived.Test.YtlmckindacnkoaaSlJ
set_option linter.unusedVariables false
set_option linter.unusedSimpArgs false
namespace Go.Proofs.Ytlmckindacnkoaa.SlK
open Go.RowKit Go.Proofs.Ytlmckindacnkoaa.Kit Go.Proofs.Ytlmckindacnkoaa.SlA Go.Proofs.Ytlmckindacnkoaa.SlB Go.Proofs.Ytlmckindacnkoaa.SlC Go.Proofs.Ytlmckindacnkoaa.SlD Go.Proofs.Ytlmckindacnkoaa.SlE Go.Proofs.Ytlmckindacnkoaa.SlF Go.Proofs.Ytlmckindacnkoaa.SlG Go.Proofs.Ytlmckindacnkoaa.SlH Go.Proofs.Ytlmckindacnkoaa.SlI Go.Proofs.Ytlmckindacnkoaa.SlJ
theorem Give_len {W w : World} {gq : Nat} {xs : List It} (h : St W w gq xs) (hl : xs.length ≤ 1000) (hp : ∀ x ∈ xs, 1 ≤ x.2 ∧ x.2 ≤ 1048576) (free : Int) (n : Nat) (os : List Int) (ys : List It) (m : Nat) (hm : os.length = m) (hn : many free xs.length = n) (ho : over n xs = os) (hy : left (decr n xs) = ys) :
    Calls Try.prog 12 #[.pointer (some ⟨gq, 0, none⟩), .int .i64 free] w fun r w' => ∃ a cap, r = .returned (.tuple #[.int .i64 (n : Int), .slice a m cap]) ∧ IRow w' w.heap.size (.slice a m cap) os ∧ St W w' gq ys ∧ Fr w w' := by
  subst hm; exact Give_st h hl hp free n os ys hn ho hy
theorem List_len {W w : World} {gq : Nat} {xs : List It} (h : St W w gq xs) (hl : xs.length ≤ 1000) (m : Nat) (hm : xs.length = m) :
    Calls Try.prog 14 #[.pointer (some ⟨gq, 0, none⟩)] w fun r w' => ∃ a cap, r = .returned (.slice a m cap) ∧ Row w' w.heap.size 41 (.slice a m cap) xs ∧ St W w' gq xs ∧ Below w.heap.size w w' := by
  subst hm; exact List_st h hl
def first (i : Nat) : List It := (List.range i).map (fun j : Nat => ((j : Int), 1 + (j : Int) % 2))
theorem first_len (i : Nat) : (first i).length = i := by simp [first]
theorem put_first : ∀ i, i < 64 → putE (first i) i (1 + (i : Int) % 2) = 0 ∧ putL (first i) i (1 + (i : Int) % 2) = first (i + 1) := by decide +kernel
theorem put_none : putE [] 1 0 = 2 ∧ putL [] 1 0 = [] ∧ putE [] 1 (-5) = 2 ∧ putL [] 1 (-5) = [] ∧ putE [] 1 1048577 = 2 ∧ putL [] 1 1048577 = [] := by decide
def l0 : List It := first 64
def l1 : List It := left (decr 3 l0)
def l2 : List It := left (decr 62 l1)
def pos (xs : List It) : Bool := xs.all fun x => decide (1 ≤ x.2) && decide (x.2 ≤ 1048576)
theorem pos_of {xs : List It} (h : pos xs = true) : ∀ x ∈ xs, 1 ≤ x.2 ∧ x.2 ≤ 1048576 := by
  intro x hx
  have := List.all_eq_true.1 h x hx
  simpa using this
theorem k1 : putE l0 5 1 = 4 ∧ putL l0 5 1 = l0 ∧ putE l0 99 1 = 6 ∧ putL l0 99 1 = l0 := by decide +kernel
theorem k2 : l0.length = 64 ∧ l1.length = 62 ∧ l2.length = 31 ∧ pos l0 = true ∧ pos l1 = true ∧ over 3 l0 = [0, 2] ∧ (over 62 l1).length = 31 ∧ over 0 l1 = [] ∧ left (decr 0 l1) = l1 := by decide +kernel
theorem k3 : putE l2 99 1048576 = 0 := by decide +kernel
theorem k4 : ∀ x : Int, x % 2 = 0 ∨ x % 2 = 1 := by intro x; omega
set_option maxHeartbeats 16000000 in
set_option maxRecDepth 100000 in
theorem Known_at (w : World) : Calls Try.prog 5 #[] w fun r w' => r = .returned (.bool true) ∧ Below w.heap.size w w' := by
  have P := Side.mk put_none
  have K1 := Side.mk k1
  have K2 := Side.mk k2
  go_enter Try.func5, Try.ntmps5
  go_wp2_with fail
  refine (awake_at _).mono ?_
  rintro e w1 ⟨rfl, hb⟩
  have S0 := Side.mk (St.start hb)
  clear hb
  go_wp2_with fail
  refine (New_at _).mono ?_
  rintro e w2 ⟨rfl, rfl⟩
  obtain ⟨gq, hgq⟩ : ∃ gq, gq = w1.heap.size := ⟨_, rfl⟩
  rw [← hgq] at S0 ⊢
  generalize w1.alloc (.cells #[.slice none 0 0] 51) = w2 at *
  clear hgq
  go_wp2_with fail
  refine (Put_st S0.out (by simp) 1 0 _ _ P.out.1 P.out.2.1).mono ?_
  rintro e w3 ⟨rfl, S3, _⟩
  have S3 := Side.mk S3
  go_wp2_with fail
  refine (Put_st S3.out (by simp) 1 (-5) _ _ P.out.2.2.1 P.out.2.2.2.1).mono ?_
  rintro e w4 ⟨rfl, S4, _⟩
  have S4 := Side.mk S4
  go_wp2_with fail
  refine (Put_st S4.out (by simp) 1 1048577 _ _ P.out.2.2.2.2.1 P.out.2.2.2.2.2).mono ?_
  rintro e w5 ⟨rfl, S5, _⟩
  have S5 := Side.mk S5
  go_wp2_with fail
  go_loopw [5] (fun v5 wr => ∃ i : Nat, i ≤ 64 ∧ v5 = .int .i64 (i : Int) ∧ Side (St w wr gq (first i))) (fun v5 _ => (64 - intOf v5).toNat)
  case atStart => exact ⟨0, by omega, by simp, S5⟩
  case round =>
    obtain ⟨i, hi, rfl, S6⟩ := hrel
    by_cases hlt : i < 64
    · have PF := Side.mk (put_first i hlt)
      have h0 : 0 ≤ (i : Int) % 2 := by omega
      have h1 : (i : Int) % 2 ≤ 1 := by omega
      have hii : (i : Int) < 64 := by omega
      go_wp2_with fail
      refine (Put_st S6.out (by rw [first_len]; omega) i (1 + (i : Int) % 2) _ _ PF.out.1 PF.out.2).mono ?_
      rintro e w6 ⟨rfl, S7, _⟩
      have S7 := Side.mk S7
      go_wp2
      go_roundw
      case rel => exact ⟨i + 1, by omega, by simp, S7⟩
      case measure => simp [intOf]; omega
    · obtain rfl : i = 64 := by omega
      clear hlt hi
      have SL : Side (St w wr gq l0) := S6
      clear S6
      go_wp2_with fail
      refine (Put_st SL.out (by rw [K2.out.1]; omega) 5 1 _ _ K1.out.1 K1.out.2.1).mono ?_
      rintro e w7 ⟨rfl, S7, _⟩
      have S7 := Side.mk S7
      go_wp2_with fail
      refine (Put_st S7.out (by rw [K2.out.1]; omega) 99 1 _ _ K1.out.2.2.1 K1.out.2.2.2).mono ?_
      rintro e w8 ⟨rfl, S8, _⟩
      have S8 := Side.mk S8
      go_wp2_with fail
      refine (Give_len S8.out (by rw [K2.out.1]; omega) (pos_of K2.out.2.2.2.1) 3 3 _ l1 2 rfl (by rw [K2.out.1]; rfl) K2.out.2.2.2.2.2.1 rfl).mono ?_
      rintro e w9 ⟨a9, cap9, rfl, I9, S9, _⟩
      have I9 := Side.mk I9
      have S9 := Side.mk S9
      go_wp2_with fail
      refine (Give_len S9.out (by rw [K2.out.2.1]; omega) (pos_of K2.out.2.2.2.2.1) (-1) 0 _ l1 0 rfl (by rw [K2.out.2.1]; rfl) K2.out.2.2.2.2.2.2.2.1 K2.out.2.2.2.2.2.2.2.2).mono ?_
      rintro e w10 ⟨a10, cap10, rfl, _, S10, F10⟩
      have I10 := Side.mk (IRow.fr I9.out F10)
      have S10 := Side.mk S10
      clear F10 I9
      go_wp2_with fail
      refine (Give_len S10.out (by rw [K2.out.2.1]; omega) (pos_of K2.out.2.2.2.2.1) 1000 62 _ l2 31 K2.out.2.2.2.2.2.2.1 (by rw [K2.out.2.1]; rfl) rfl rfl).mono ?_
      rintro e w11 ⟨a11, cap11, rfl, _, S11, F11⟩
      have I11 := Side.mk (IRow.fr I10.out F11)
      have S11 := Side.mk S11
      clear F11 I10
      obtain ⟨g, rfl, hg, -, -, hr⟩ := IRow.get I11.out (by simp)
      have r0 := hr 0 0 rfl
      have r1 := hr 1 2 rfl
      clear hr
      go_wp2_with fail
      refine (List_len S11.out (by rw [K2.out.2.2.1]; omega) 31 K2.out.2.2.1).mono ?_
      rintro e w12 ⟨a12, cap12, rfl, _, S12, _⟩
      have S12 := Side.mk S12
      go_wp2_with fail
      refine (Put_st S12.out (by rw [K2.out.2.2.1]; omega) 99 1048576 _ _ k3 rfl).mono ?_
      rintro e w13 ⟨rfl, S13, _⟩
      have S13 := Side.mk S13
      go_wp2_with fail
      go_ret
      exact ⟨rfl, S13.out.below⟩
end Go.Proofs.Ytlmckindacnkoaa.SlK

/- The reference's Gcd of chapter 1, walked by hand: of two numbers that are not the least one. -/
import Derived.Test.YtlljmbocnchdaaaOwnRefA
import Derived.Deep.LoopGhost
import Derived.Deep.QuietTactic
import Derived.BigQuiet
set_option linter.unusedVariables false
set_option linter.unusedSimpArgs false
namespace Go.Proofs.Ytlljmbocnchdaaa.OwnRef
open Go.RowKit Go.Proofs.Ytlljmbocnchdaaa.PWholeLaws Go.Proofs.YtlljmbocnchdaaaW.PrintWords Go.Proofs.YtlljmbocnchdaaaW.PrintLast Go.Proofs.YtlljmbocnchdaaaW.PrintMore WhPlain
attribute [local go_sem] max2_int min2_int max_two min_two
set_option maxHeartbeats 1000000 in
set_option maxRecDepth 100000 in
theorem refGcd_at (a b : Int) (ha : I a) (hb : I b) (ha' : a ≠ -9223372036854775808) (hb' : b ≠ -9223372036854775808) (w : World) :
    Calls Try.prog 19 #[.int .i64 a, .int .i64 b] w fun e w' => e = .returned (.int .i64 (Int.gcd a b : Int)) ∧ Below w.heap.size w w' := by
  have HB := Aside0.mk (Below.refl w.heap.size w)
  obtain ⟨ja, hja⟩ : ∃ j : Int, (if a < wrap64 (-a) then wrap64 (-a) else a) = j := ⟨_, rfl⟩
  obtain ⟨jb, hjb⟩ : ∃ j : Int, (if b < wrap64 (-b) then wrap64 (-b) else b) = j := ⟨_, rfl⟩
  have EA : Aside0 (ja = (a.natAbs : Int)) := ⟨by
    unfold I at ha; rw [← hja, OwnRef.wr (x := -a) (by omega) (by omega)]; split <;> omega⟩
  have EB : Aside0 (jb = (b.natAbs : Int)) := ⟨by
    unfold I at hb; rw [← hjb, OwnRef.wr (x := -b) (by omega) (by omega)]; split <;> omega⟩
  have G : Aside0 (Nat.gcd a.natAbs b.natAbs = Int.gcd a b) := ⟨rfl⟩
  clear ha hb ha' hb'
  go_enter Try.func19, Try.ntmps19
  go_wp2
  repeat (go_quiet (fail); try go_wp2)
  go_loopg [0, 1] (jb.toNat + 1) (fun kq v0 v1 w' => ∃ x y : Int, v0 = .int .i64 x ∧ v1 = .int .i64 y ∧ Aside0 (0 ≤ x ∧ 0 ≤ y ∧ Nat.gcd x.toNat y.toNat = Int.gcd a b ∧ y.toNat < kq) ∧ Aside0 (Below w.heap.size w w'))
  case atStart => exact ⟨ja, jb, by first | rfl | (simp only [← hja]; rfl) | simp [hja], by first | rfl | (simp only [← hjb]; rfl) | simp [hjb], ⟨by rw [EA.out, EB.out]; exact ⟨by omega, by omega, G.out, by omega⟩⟩, ⟨by repeat (first | (with_reducible first | exact HB.out | apply below_alloc | apply pw_below_drewN | apply below_drew1) | exact HB.out)⟩⟩
  case round =>
    clear hja hjb
    obtain ⟨x, y, rfl, rfl, HG, HB⟩ := hrel
    by_cases h0 : y = 0
    · have c1 : (y == 0) = true := beq_iff_eq.2 h0
      have c2 : (y != 0) = false := bne_eq_false_iff_eq.2 h0
      have HM : Aside0 (x = (Int.gcd a b : Int)) := ⟨by
        have h := HG.out
        rw [h0] at h
        rw [← h.2.2.1, show (0 : Int).toNat = 0 from rfl, Nat.gcd_zero_right]; omega⟩
      clear h0 HG G EA EB
      go_wp2
      repeat (go_quiet (fail); try go_wp2)
      go_ret
      exact ⟨ret_int HM.out, by repeat (first | (with_reducible first | exact HB.out | apply below_alloc | apply pw_below_drewN | apply below_drew1) | exact HB.out)⟩
    · have c1 : (y == 0) = false := beq_eq_false_iff_ne.2 h0
      have c2 : (y != 0) = true := bne_iff_ne.2 h0
      have HG' : Aside0 (0 ≤ y ∧ 0 ≤ Int.tmod x y ∧ Nat.gcd y.toNat (Int.tmod x y).toNat = Int.gcd a b) := ⟨by
        obtain ⟨h1, h2, h3, h4⟩ := HG.out
        obtain ⟨m, rfl⟩ := Int.eq_ofNat_of_zero_le h1
        obtain ⟨n, rfl⟩ := Int.eq_ofNat_of_zero_le h2
        have e : Int.tmod (m : Int) (n : Int) = ((m % n : Nat) : Int) := rfl
        rw [e, ← h3]
        exact ⟨by omega, by omega, (gcd_step m n).symm⟩⟩
      have HL : Aside0 ((Int.tmod x y).toNat < y.toNat ∧ y.toNat < gk) := ⟨by
        obtain ⟨h1, h2, h3, h4⟩ := HG.out
        obtain ⟨m, rfl⟩ := Int.eq_ofNat_of_zero_le h1
        obtain ⟨n, rfl⟩ := Int.eq_ofNat_of_zero_le h2
        have e : Int.tmod (m : Int) (n : Int) = ((m % n : Nat) : Int) := rfl
        rw [e]
        have := Nat.mod_lt m (show n > 0 by omega)
        exact ⟨by omega, h4⟩⟩
      clear HG G EA EB
      go_wp2
      repeat (go_quiet (fail); try go_wp2)
      obtain ⟨k1, rfl⟩ : ∃ q, gk = q + 1 := ⟨gk - 1, by have := HL.out; omega⟩
      go_roundg k1
      case rel => exact ⟨y, Int.tmod x y, rfl, rfl, ⟨HG'.out.1, HG'.out.2.1, HG'.out.2.2, by have := HL.out; omega⟩, ⟨by repeat (first | (with_reducible first | exact HB.out | apply below_alloc | apply pw_below_drewN | apply below_drew1) | exact HB.out)⟩⟩
      case measure => omega
end Go.Proofs.Ytlljmbocnchdaaa.OwnRef

/- The law evenhandedlaw3.WindowKnown: windows by hand: a walk of the law's own code over contracts of my own. No condition. -/
import Derived.Test.YtnndjjpeaaloiaaWinRel
import Derived.StillTactics
import Derived.Deep.RegionWith
set_option linter.unusedVariables false
set_option linter.unusedSimpArgs false
namespace Go.Proofs.Ytnndjjpeaaloiaa.OwnKnown3
open Go.RowKit Go.Proofs.Ytnndjjpeaaloiaa.Kit Go.Proofs.Ytnndjjpeaaloiaa.Win EvPlain
set_option maxHeartbeats 1000000 in
set_option maxRecDepth 100000 in
theorem awake_at (w : World) : Calls Try.prog 11 #[] w fun r w' => r = .returned (.bool true) ∧ Still w w' := by
  have C1 : ∀ w, Side (Calls Try.prog 15 #[.int .i64 8, .int .i64 11, .int .i64 3] w fun r w' => r = .returned (.int .i64 2) ∧ Still w w') := fun w => ⟨by have := Release_at 8 11 3 w; rw [show relv 8 11 3 = 2 by kernel_rfl] at this; exact this⟩
  have C2 : ∀ w, Side (Calls Try.prog 16 #[.int .i64 8, .int .i64 11, .int .i64 3] w fun r w' => r = .returned (.int .i64 5) ∧ Still w w') := fun w => ⟨by have := Deadline_at 8 11 3 w; rw [show dead 8 11 3 = 5 by kernel_rfl] at this; exact this⟩
  have C3 : ∀ w, Side (Calls Try.prog 17 #[.int .i64 8, .int .i64 11, .int .i64 3] w fun r w' => r = .returned (.int .i64 1) ∧ Still w w') := fun w => ⟨by have := Bit_at 8 11 3 w; rw [show bit 8 11 3 = 1 by kernel_rfl] at this; exact this⟩
  have C4 : ∀ w, Side (Calls Try.prog 18 #[.int .i64 8, .int .i64 11, .int .i64 3] w fun r w' => r = .returned (.int .i64 8) ∧ Still w w') := fun w => ⟨by have := Group_at 8 11 3 w; rw [show group 8 11 3 = 8 by kernel_rfl] at this; exact this⟩
  have C5 : ∀ w, Side (Calls Try.prog 19 #[.int .i64 8, .int .i64 11] w fun r w' => r = .returned (.bool true) ∧ Still w w') := fun w => ⟨by have := Heavy_at 8 11 w; rw [show heavy 8 11 = true by kernel_rfl] at this; exact this⟩
  have C6 : ∀ w, Side (Calls Try.prog 14 #[.int .i64 1, .int .i64 2, .int .i64 1] w fun r w' => r = .returned (.bool true) ∧ Still w w') := fun w => ⟨by have := May_at 1 2 1 w; rw [show decide (T 1 2 1) = true by kernel_rfl] at this; exact this⟩
  go_enter Try.func11, Try.ntmps11
  go_wp2_with fail
  refine (C1 _).out.mono ?_
  rintro x w1 ⟨rfl, n1, rfl⟩
  go_wp2_with fail
  refine (C2 _).out.mono ?_
  rintro x w2 ⟨rfl, n2, rfl⟩
  go_wp2_with fail
  refine (C3 _).out.mono ?_
  rintro x w3 ⟨rfl, n3, rfl⟩
  go_wp2_with fail
  refine (C4 _).out.mono ?_
  rintro x w4 ⟨rfl, n4, rfl⟩
  go_wp2_with fail
  refine (C5 _).out.mono ?_
  rintro x w5 ⟨rfl, n5, rfl⟩
  go_wp2_with fail
  refine (C6 _).out.mono ?_
  rintro x w6 ⟨rfl, n6, rfl⟩
  go_wp2
  go_ret
  exact ⟨rfl, _, rfl⟩
set_option maxHeartbeats 8000000 in
set_option maxRecDepth 100000 in
theorem walk (w : World) : Calls Try.prog 6 #[] w fun r w' => r = .returned (.bool true) ∧ Below w.heap.size w w' := by
  have A := fun w => Side.mk (awake_at w)
  go_enter Try.func6, Try.ntmps6
  go_wp2_with fail
  refine (A _).out.mono ?_
  rintro x w1 ⟨rfl, n1, rfl⟩
  obtain ⟨W4, hW4⟩ : ∃ W4, W4 = ((((w.drewN n1).alloc (.cells #[.int .i64 0, .int .i64 1, .int .i64 2, .int .i64 4, .int .i64 5, .int .i64 6, .int .i64 8, .int .i64 9] 3)).alloc (.cells #[.int .i64 2, .int .i64 3, .int .i64 5, .int .i64 6, .int .i64 7, .int .i64 9, .int .i64 10, .int .i64 11] 3)).alloc (.cells #[.int .i64 1, .int .i64 1, .int .i64 1, .int .i64 1, .int .i64 1, .int .i64 1, .int .i64 1, .int .i64 0] 3)).alloc (.cells #[.int .i64 4, .int .i64 4, .int .i64 8, .int .i64 8, .int .i64 8, .int .i64 11, .int .i64 11, .int .i64 11] 3) := ⟨_, rfl⟩
  have HW := Side.mk hW4
  clear hW4
  go_wp2_with fail
  go_loopw [5] (fun v5 wr => ∃ k : Nat, v5 = .int .i64 (k : Int) ∧ Side (k ≤ 8) ∧ Side (Below (w.heap.size + 4) W4 wr)) (fun v5 _ => (8 - intOf v5).toNat)
  case atStart =>
    refine ⟨0, rfl, ⟨by omega⟩, ⟨?_⟩⟩
    rw [HW.out]
    (repeat (with_reducible first | exact Below.refl _ _ | apply below_drewN | apply below_drew))
  case round =>
    obtain ⟨k, rfl, HK, HB⟩ := hrel
    have hB : Side (Below w.heap.size w wr) := ⟨by
      have h := HB.out.mono (B' := w.heap.size) (by omega)
      rw [HW.out] at h
      exact Below.trans (by (repeat (with_reducible first | exact Below.refl _ _ | apply below_drewN | apply below_drew | apply below_alloc))) h⟩
    have cell : ∀ b o, b < w.heap.size + 4 → wr.cell? ⟨b, o, none⟩ = W4.cell? ⟨b, o, none⟩ := fun b o h => HB.out.cell (p := ⟨b, o, none⟩) h
    have CELL := Side.mk cell
    clear cell
    have hk : k = 0 ∨ k = 1 ∨ k = 2 ∨ k = 3 ∨ k = 4 ∨ k = 5 ∨ k = 6 ∨ k = 7 ∨ k = 8 := by have := HK.out; omega
    clear HK
    rcases hk with rfl | rfl | rfl | rfl | rfl | rfl | rfl | rfl | rfl
    · have C1 : ∀ w, Side (Calls Try.prog 15 #[.int .i64 8, .int .i64 11, .int .i64 1] w fun r w' => r = .returned (.int .i64 0) ∧ Still w w') := fun w => ⟨by have := Release_at 8 11 1 w; rw [show relv 8 11 1 = 0 by kernel_rfl] at this; exact this⟩
      have C2 : ∀ w, Side (Calls Try.prog 16 #[.int .i64 8, .int .i64 11, .int .i64 1] w fun r w' => r = .returned (.int .i64 2) ∧ Still w w') := fun w => ⟨by have := Deadline_at 8 11 1 w; rw [show dead 8 11 1 = 2 by kernel_rfl] at this; exact this⟩
      have C3 : ∀ w, Side (Calls Try.prog 17 #[.int .i64 8, .int .i64 11, .int .i64 1] w fun r w' => r = .returned (.int .i64 1) ∧ Still w w') := fun w => ⟨by have := Bit_at 8 11 1 w; rw [show bit 8 11 1 = 1 by kernel_rfl] at this; exact this⟩
      have C4 : ∀ w, Side (Calls Try.prog 18 #[.int .i64 8, .int .i64 11, .int .i64 1] w fun r w' => r = .returned (.int .i64 4) ∧ Still w w') := fun w => ⟨by have := Group_at 8 11 1 w; rw [show group 8 11 1 = 4 by kernel_rfl] at this; exact this⟩
      have k0 : wr.cell? ⟨w.heap.size, 0, none⟩ = some (.int .i64 0) := (CELL.out _ _ (by omega)).trans (by rw [HW.out]; go_simp; first | done | exact (World.cell?_alloc_at _ _ _ _ rfl).trans rfl)
      have k1 : wr.cell? ⟨w.heap.size + 1, 0, none⟩ = some (.int .i64 2) := (CELL.out _ _ (by omega)).trans (by rw [HW.out]; go_simp; first | done | exact (World.cell?_alloc_at _ _ _ _ rfl).trans rfl)
      have k2 : wr.cell? ⟨w.heap.size + 1 + 1, 0, none⟩ = some (.int .i64 1) := (CELL.out _ _ (by omega)).trans (by rw [HW.out]; go_simp; first | done | exact (World.cell?_alloc_at _ _ _ _ rfl).trans rfl)
      have k3 : wr.cell? ⟨w.heap.size + 1 + 1 + 1, 0, none⟩ = some (.int .i64 4) := (CELL.out _ _ (by omega)).trans (by rw [HW.out]; go_simp; first | done | exact (World.cell?_alloc_at _ _ _ _ rfl).trans rfl)
      go_wp2
      go_quiet ((first | (go_at_call 15; exact Calls.quiet_of (C1 _).out) | (go_at_call 16; exact Calls.quiet_of (C2 _).out) | (go_at_call 17; exact Calls.quiet_of (C3 _).out) | (go_at_call 18; exact Calls.quiet_of (C4 _).out)))
      go_wp2
      go_roundw
      case rel => exact ⟨1, rfl, ⟨by omega⟩, ⟨by (repeat (with_reducible first | exact HB.out | apply below_drewN | apply below_drew))⟩⟩
      case measure => decide
    · have C1 : ∀ w, Side (Calls Try.prog 15 #[.int .i64 8, .int .i64 11, .int .i64 2] w fun r w' => r = .returned (.int .i64 1) ∧ Still w w') := fun w => ⟨by have := Release_at 8 11 2 w; rw [show relv 8 11 2 = 1 by kernel_rfl] at this; exact this⟩
      have C2 : ∀ w, Side (Calls Try.prog 16 #[.int .i64 8, .int .i64 11, .int .i64 2] w fun r w' => r = .returned (.int .i64 3) ∧ Still w w') := fun w => ⟨by have := Deadline_at 8 11 2 w; rw [show dead 8 11 2 = 3 by kernel_rfl] at this; exact this⟩
      have C3 : ∀ w, Side (Calls Try.prog 17 #[.int .i64 8, .int .i64 11, .int .i64 2] w fun r w' => r = .returned (.int .i64 1) ∧ Still w w') := fun w => ⟨by have := Bit_at 8 11 2 w; rw [show bit 8 11 2 = 1 by kernel_rfl] at this; exact this⟩
      have C4 : ∀ w, Side (Calls Try.prog 18 #[.int .i64 8, .int .i64 11, .int .i64 2] w fun r w' => r = .returned (.int .i64 4) ∧ Still w w') := fun w => ⟨by have := Group_at 8 11 2 w; rw [show group 8 11 2 = 4 by kernel_rfl] at this; exact this⟩
      have k0 : wr.cell? ⟨w.heap.size, 1, none⟩ = some (.int .i64 1) := (CELL.out _ _ (by omega)).trans (by rw [HW.out]; go_simp; first | done | exact (World.cell?_alloc_at _ _ _ _ rfl).trans rfl)
      have k1 : wr.cell? ⟨w.heap.size + 1, 1, none⟩ = some (.int .i64 3) := (CELL.out _ _ (by omega)).trans (by rw [HW.out]; go_simp; first | done | exact (World.cell?_alloc_at _ _ _ _ rfl).trans rfl)
      have k2 : wr.cell? ⟨w.heap.size + 1 + 1, 1, none⟩ = some (.int .i64 1) := (CELL.out _ _ (by omega)).trans (by rw [HW.out]; go_simp; first | done | exact (World.cell?_alloc_at _ _ _ _ rfl).trans rfl)
      have k3 : wr.cell? ⟨w.heap.size + 1 + 1 + 1, 1, none⟩ = some (.int .i64 4) := (CELL.out _ _ (by omega)).trans (by rw [HW.out]; go_simp; first | done | exact (World.cell?_alloc_at _ _ _ _ rfl).trans rfl)
      go_wp2
      go_quiet ((first | (go_at_call 15; exact Calls.quiet_of (C1 _).out) | (go_at_call 16; exact Calls.quiet_of (C2 _).out) | (go_at_call 17; exact Calls.quiet_of (C3 _).out) | (go_at_call 18; exact Calls.quiet_of (C4 _).out)))
      go_wp2
      go_roundw
      case rel => exact ⟨2, rfl, ⟨by omega⟩, ⟨by (repeat (with_reducible first | exact HB.out | apply below_drewN | apply below_drew))⟩⟩
      case measure => decide
    · have C1 : ∀ w, Side (Calls Try.prog 15 #[.int .i64 8, .int .i64 11, .int .i64 3] w fun r w' => r = .returned (.int .i64 2) ∧ Still w w') := fun w => ⟨by have := Release_at 8 11 3 w; rw [show relv 8 11 3 = 2 by kernel_rfl] at this; exact this⟩
      have C2 : ∀ w, Side (Calls Try.prog 16 #[.int .i64 8, .int .i64 11, .int .i64 3] w fun r w' => r = .returned (.int .i64 5) ∧ Still w w') := fun w => ⟨by have := Deadline_at 8 11 3 w; rw [show dead 8 11 3 = 5 by kernel_rfl] at this; exact this⟩
      have C3 : ∀ w, Side (Calls Try.prog 17 #[.int .i64 8, .int .i64 11, .int .i64 3] w fun r w' => r = .returned (.int .i64 1) ∧ Still w w') := fun w => ⟨by have := Bit_at 8 11 3 w; rw [show bit 8 11 3 = 1 by kernel_rfl] at this; exact this⟩
      have C4 : ∀ w, Side (Calls Try.prog 18 #[.int .i64 8, .int .i64 11, .int .i64 3] w fun r w' => r = .returned (.int .i64 8) ∧ Still w w') := fun w => ⟨by have := Group_at 8 11 3 w; rw [show group 8 11 3 = 8 by kernel_rfl] at this; exact this⟩
      have k0 : wr.cell? ⟨w.heap.size, 2, none⟩ = some (.int .i64 2) := (CELL.out _ _ (by omega)).trans (by rw [HW.out]; go_simp; first | done | exact (World.cell?_alloc_at _ _ _ _ rfl).trans rfl)
      have k1 : wr.cell? ⟨w.heap.size + 1, 2, none⟩ = some (.int .i64 5) := (CELL.out _ _ (by omega)).trans (by rw [HW.out]; go_simp; first | done | exact (World.cell?_alloc_at _ _ _ _ rfl).trans rfl)
      have k2 : wr.cell? ⟨w.heap.size + 1 + 1, 2, none⟩ = some (.int .i64 1) := (CELL.out _ _ (by omega)).trans (by rw [HW.out]; go_simp; first | done | exact (World.cell?_alloc_at _ _ _ _ rfl).trans rfl)
      have k3 : wr.cell? ⟨w.heap.size + 1 + 1 + 1, 2, none⟩ = some (.int .i64 8) := (CELL.out _ _ (by omega)).trans (by rw [HW.out]; go_simp; first | done | exact (World.cell?_alloc_at _ _ _ _ rfl).trans rfl)
      go_wp2
      go_quiet ((first | (go_at_call 15; exact Calls.quiet_of (C1 _).out) | (go_at_call 16; exact Calls.quiet_of (C2 _).out) | (go_at_call 17; exact Calls.quiet_of (C3 _).out) | (go_at_call 18; exact Calls.quiet_of (C4 _).out)))
      go_wp2
      go_roundw
      case rel => exact ⟨3, rfl, ⟨by omega⟩, ⟨by (repeat (with_reducible first | exact HB.out | apply below_drewN | apply below_drew))⟩⟩
      case measure => decide
    · have C1 : ∀ w, Side (Calls Try.prog 15 #[.int .i64 8, .int .i64 11, .int .i64 4] w fun r w' => r = .returned (.int .i64 4) ∧ Still w w') := fun w => ⟨by have := Release_at 8 11 4 w; rw [show relv 8 11 4 = 4 by kernel_rfl] at this; exact this⟩
      have C2 : ∀ w, Side (Calls Try.prog 16 #[.int .i64 8, .int .i64 11, .int .i64 4] w fun r w' => r = .returned (.int .i64 6) ∧ Still w w') := fun w => ⟨by have := Deadline_at 8 11 4 w; rw [show dead 8 11 4 = 6 by kernel_rfl] at this; exact this⟩
      have C3 : ∀ w, Side (Calls Try.prog 17 #[.int .i64 8, .int .i64 11, .int .i64 4] w fun r w' => r = .returned (.int .i64 1) ∧ Still w w') := fun w => ⟨by have := Bit_at 8 11 4 w; rw [show bit 8 11 4 = 1 by kernel_rfl] at this; exact this⟩
      have C4 : ∀ w, Side (Calls Try.prog 18 #[.int .i64 8, .int .i64 11, .int .i64 4] w fun r w' => r = .returned (.int .i64 8) ∧ Still w w') := fun w => ⟨by have := Group_at 8 11 4 w; rw [show group 8 11 4 = 8 by kernel_rfl] at this; exact this⟩
      have k0 : wr.cell? ⟨w.heap.size, 3, none⟩ = some (.int .i64 4) := (CELL.out _ _ (by omega)).trans (by rw [HW.out]; go_simp; first | done | exact (World.cell?_alloc_at _ _ _ _ rfl).trans rfl)
      have k1 : wr.cell? ⟨w.heap.size + 1, 3, none⟩ = some (.int .i64 6) := (CELL.out _ _ (by omega)).trans (by rw [HW.out]; go_simp; first | done | exact (World.cell?_alloc_at _ _ _ _ rfl).trans rfl)
      have k2 : wr.cell? ⟨w.heap.size + 1 + 1, 3, none⟩ = some (.int .i64 1) := (CELL.out _ _ (by omega)).trans (by rw [HW.out]; go_simp; first | done | exact (World.cell?_alloc_at _ _ _ _ rfl).trans rfl)
      have k3 : wr.cell? ⟨w.heap.size + 1 + 1 + 1, 3, none⟩ = some (.int .i64 8) := (CELL.out _ _ (by omega)).trans (by rw [HW.out]; go_simp; first | done | exact (World.cell?_alloc_at _ _ _ _ rfl).trans rfl)
      go_wp2
      go_quiet ((first | (go_at_call 15; exact Calls.quiet_of (C1 _).out) | (go_at_call 16; exact Calls.quiet_of (C2 _).out) | (go_at_call 17; exact Calls.quiet_of (C3 _).out) | (go_at_call 18; exact Calls.quiet_of (C4 _).out)))
      go_wp2
      go_roundw
      case rel => exact ⟨4, rfl, ⟨by omega⟩, ⟨by (repeat (with_reducible first | exact HB.out | apply below_drewN | apply below_drew))⟩⟩
      case measure => decide
    · have C1 : ∀ w, Side (Calls Try.prog 15 #[.int .i64 8, .int .i64 11, .int .i64 5] w fun r w' => r = .returned (.int .i64 5) ∧ Still w w') := fun w => ⟨by have := Release_at 8 11 5 w; rw [show relv 8 11 5 = 5 by kernel_rfl] at this; exact this⟩
      have C2 : ∀ w, Side (Calls Try.prog 16 #[.int .i64 8, .int .i64 11, .int .i64 5] w fun r w' => r = .returned (.int .i64 7) ∧ Still w w') := fun w => ⟨by have := Deadline_at 8 11 5 w; rw [show dead 8 11 5 = 7 by kernel_rfl] at this; exact this⟩
      have C3 : ∀ w, Side (Calls Try.prog 17 #[.int .i64 8, .int .i64 11, .int .i64 5] w fun r w' => r = .returned (.int .i64 1) ∧ Still w w') := fun w => ⟨by have := Bit_at 8 11 5 w; rw [show bit 8 11 5 = 1 by kernel_rfl] at this; exact this⟩
      have C4 : ∀ w, Side (Calls Try.prog 18 #[.int .i64 8, .int .i64 11, .int .i64 5] w fun r w' => r = .returned (.int .i64 8) ∧ Still w w') := fun w => ⟨by have := Group_at 8 11 5 w; rw [show group 8 11 5 = 8 by kernel_rfl] at this; exact this⟩
      have k0 : wr.cell? ⟨w.heap.size, 4, none⟩ = some (.int .i64 5) := (CELL.out _ _ (by omega)).trans (by rw [HW.out]; go_simp; first | done | exact (World.cell?_alloc_at _ _ _ _ rfl).trans rfl)
      have k1 : wr.cell? ⟨w.heap.size + 1, 4, none⟩ = some (.int .i64 7) := (CELL.out _ _ (by omega)).trans (by rw [HW.out]; go_simp; first | done | exact (World.cell?_alloc_at _ _ _ _ rfl).trans rfl)
      have k2 : wr.cell? ⟨w.heap.size + 1 + 1, 4, none⟩ = some (.int .i64 1) := (CELL.out _ _ (by omega)).trans (by rw [HW.out]; go_simp; first | done | exact (World.cell?_alloc_at _ _ _ _ rfl).trans rfl)
      have k3 : wr.cell? ⟨w.heap.size + 1 + 1 + 1, 4, none⟩ = some (.int .i64 8) := (CELL.out _ _ (by omega)).trans (by rw [HW.out]; go_simp; first | done | exact (World.cell?_alloc_at _ _ _ _ rfl).trans rfl)
      go_wp2
      go_quiet ((first | (go_at_call 15; exact Calls.quiet_of (C1 _).out) | (go_at_call 16; exact Calls.quiet_of (C2 _).out) | (go_at_call 17; exact Calls.quiet_of (C3 _).out) | (go_at_call 18; exact Calls.quiet_of (C4 _).out)))
      go_wp2
      go_roundw
      case rel => exact ⟨5, rfl, ⟨by omega⟩, ⟨by (repeat (with_reducible first | exact HB.out | apply below_drewN | apply below_drew))⟩⟩
      case measure => decide
    · have C1 : ∀ w, Side (Calls Try.prog 15 #[.int .i64 8, .int .i64 11, .int .i64 6] w fun r w' => r = .returned (.int .i64 6) ∧ Still w w') := fun w => ⟨by have := Release_at 8 11 6 w; rw [show relv 8 11 6 = 6 by kernel_rfl] at this; exact this⟩
      have C2 : ∀ w, Side (Calls Try.prog 16 #[.int .i64 8, .int .i64 11, .int .i64 6] w fun r w' => r = .returned (.int .i64 9) ∧ Still w w') := fun w => ⟨by have := Deadline_at 8 11 6 w; rw [show dead 8 11 6 = 9 by kernel_rfl] at this; exact this⟩
      have C3 : ∀ w, Side (Calls Try.prog 17 #[.int .i64 8, .int .i64 11, .int .i64 6] w fun r w' => r = .returned (.int .i64 1) ∧ Still w w') := fun w => ⟨by have := Bit_at 8 11 6 w; rw [show bit 8 11 6 = 1 by kernel_rfl] at this; exact this⟩
      have C4 : ∀ w, Side (Calls Try.prog 18 #[.int .i64 8, .int .i64 11, .int .i64 6] w fun r w' => r = .returned (.int .i64 11) ∧ Still w w') := fun w => ⟨by have := Group_at 8 11 6 w; rw [show group 8 11 6 = 11 by kernel_rfl] at this; exact this⟩
      have k0 : wr.cell? ⟨w.heap.size, 5, none⟩ = some (.int .i64 6) := (CELL.out _ _ (by omega)).trans (by rw [HW.out]; go_simp; first | done | exact (World.cell?_alloc_at _ _ _ _ rfl).trans rfl)
      have k1 : wr.cell? ⟨w.heap.size + 1, 5, none⟩ = some (.int .i64 9) := (CELL.out _ _ (by omega)).trans (by rw [HW.out]; go_simp; first | done | exact (World.cell?_alloc_at _ _ _ _ rfl).trans rfl)
      have k2 : wr.cell? ⟨w.heap.size + 1 + 1, 5, none⟩ = some (.int .i64 1) := (CELL.out _ _ (by omega)).trans (by rw [HW.out]; go_simp; first | done | exact (World.cell?_alloc_at _ _ _ _ rfl).trans rfl)
      have k3 : wr.cell? ⟨w.heap.size + 1 + 1 + 1, 5, none⟩ = some (.int .i64 11) := (CELL.out _ _ (by omega)).trans (by rw [HW.out]; go_simp; first | done | exact (World.cell?_alloc_at _ _ _ _ rfl).trans rfl)
      go_wp2
      go_quiet ((first | (go_at_call 15; exact Calls.quiet_of (C1 _).out) | (go_at_call 16; exact Calls.quiet_of (C2 _).out) | (go_at_call 17; exact Calls.quiet_of (C3 _).out) | (go_at_call 18; exact Calls.quiet_of (C4 _).out)))
      go_wp2
      go_roundw
      case rel => exact ⟨6, rfl, ⟨by omega⟩, ⟨by (repeat (with_reducible first | exact HB.out | apply below_drewN | apply below_drew))⟩⟩
      case measure => decide
    · have C1 : ∀ w, Side (Calls Try.prog 15 #[.int .i64 8, .int .i64 11, .int .i64 7] w fun r w' => r = .returned (.int .i64 8) ∧ Still w w') := fun w => ⟨by have := Release_at 8 11 7 w; rw [show relv 8 11 7 = 8 by kernel_rfl] at this; exact this⟩
      have C2 : ∀ w, Side (Calls Try.prog 16 #[.int .i64 8, .int .i64 11, .int .i64 7] w fun r w' => r = .returned (.int .i64 10) ∧ Still w w') := fun w => ⟨by have := Deadline_at 8 11 7 w; rw [show dead 8 11 7 = 10 by kernel_rfl] at this; exact this⟩
      have C3 : ∀ w, Side (Calls Try.prog 17 #[.int .i64 8, .int .i64 11, .int .i64 7] w fun r w' => r = .returned (.int .i64 1) ∧ Still w w') := fun w => ⟨by have := Bit_at 8 11 7 w; rw [show bit 8 11 7 = 1 by kernel_rfl] at this; exact this⟩
      have C4 : ∀ w, Side (Calls Try.prog 18 #[.int .i64 8, .int .i64 11, .int .i64 7] w fun r w' => r = .returned (.int .i64 11) ∧ Still w w') := fun w => ⟨by have := Group_at 8 11 7 w; rw [show group 8 11 7 = 11 by kernel_rfl] at this; exact this⟩
      have k0 : wr.cell? ⟨w.heap.size, 6, none⟩ = some (.int .i64 8) := (CELL.out _ _ (by omega)).trans (by rw [HW.out]; go_simp; first | done | exact (World.cell?_alloc_at _ _ _ _ rfl).trans rfl)
      have k1 : wr.cell? ⟨w.heap.size + 1, 6, none⟩ = some (.int .i64 10) := (CELL.out _ _ (by omega)).trans (by rw [HW.out]; go_simp; first | done | exact (World.cell?_alloc_at _ _ _ _ rfl).trans rfl)
      have k2 : wr.cell? ⟨w.heap.size + 1 + 1, 6, none⟩ = some (.int .i64 1) := (CELL.out _ _ (by omega)).trans (by rw [HW.out]; go_simp; first | done | exact (World.cell?_alloc_at _ _ _ _ rfl).trans rfl)
      have k3 : wr.cell? ⟨w.heap.size + 1 + 1 + 1, 6, none⟩ = some (.int .i64 11) := (CELL.out _ _ (by omega)).trans (by rw [HW.out]; go_simp; first | done | exact (World.cell?_alloc_at _ _ _ _ rfl).trans rfl)
      go_wp2
      go_quiet ((first | (go_at_call 15; exact Calls.quiet_of (C1 _).out) | (go_at_call 16; exact Calls.quiet_of (C2 _).out) | (go_at_call 17; exact Calls.quiet_of (C3 _).out) | (go_at_call 18; exact Calls.quiet_of (C4 _).out)))
      go_wp2
      go_roundw
      case rel => exact ⟨7, rfl, ⟨by omega⟩, ⟨by (repeat (with_reducible first | exact HB.out | apply below_drewN | apply below_drew))⟩⟩
      case measure => decide
    · have C1 : ∀ w, Side (Calls Try.prog 15 #[.int .i64 8, .int .i64 11, .int .i64 8] w fun r w' => r = .returned (.int .i64 9) ∧ Still w w') := fun w => ⟨by have := Release_at 8 11 8 w; rw [show relv 8 11 8 = 9 by kernel_rfl] at this; exact this⟩
      have C2 : ∀ w, Side (Calls Try.prog 16 #[.int .i64 8, .int .i64 11, .int .i64 8] w fun r w' => r = .returned (.int .i64 11) ∧ Still w w') := fun w => ⟨by have := Deadline_at 8 11 8 w; rw [show dead 8 11 8 = 11 by kernel_rfl] at this; exact this⟩
      have C3 : ∀ w, Side (Calls Try.prog 17 #[.int .i64 8, .int .i64 11, .int .i64 8] w fun r w' => r = .returned (.int .i64 0) ∧ Still w w') := fun w => ⟨by have := Bit_at 8 11 8 w; rw [show bit 8 11 8 = 0 by kernel_rfl] at this; exact this⟩
      have C4 : ∀ w, Side (Calls Try.prog 18 #[.int .i64 8, .int .i64 11, .int .i64 8] w fun r w' => r = .returned (.int .i64 11) ∧ Still w w') := fun w => ⟨by have := Group_at 8 11 8 w; rw [show group 8 11 8 = 11 by kernel_rfl] at this; exact this⟩
      have k0 : wr.cell? ⟨w.heap.size, 7, none⟩ = some (.int .i64 9) := (CELL.out _ _ (by omega)).trans (by rw [HW.out]; go_simp; first | done | exact (World.cell?_alloc_at _ _ _ _ rfl).trans rfl)
      have k1 : wr.cell? ⟨w.heap.size + 1, 7, none⟩ = some (.int .i64 11) := (CELL.out _ _ (by omega)).trans (by rw [HW.out]; go_simp; first | done | exact (World.cell?_alloc_at _ _ _ _ rfl).trans rfl)
      have k2 : wr.cell? ⟨w.heap.size + 1 + 1, 7, none⟩ = some (.int .i64 0) := (CELL.out _ _ (by omega)).trans (by rw [HW.out]; go_simp; first | done | exact (World.cell?_alloc_at _ _ _ _ rfl).trans rfl)
      have k3 : wr.cell? ⟨w.heap.size + 1 + 1 + 1, 7, none⟩ = some (.int .i64 11) := (CELL.out _ _ (by omega)).trans (by rw [HW.out]; go_simp; first | done | exact (World.cell?_alloc_at _ _ _ _ rfl).trans rfl)
      go_wp2
      go_quiet ((first | (go_at_call 15; exact Calls.quiet_of (C1 _).out) | (go_at_call 16; exact Calls.quiet_of (C2 _).out) | (go_at_call 17; exact Calls.quiet_of (C3 _).out) | (go_at_call 18; exact Calls.quiet_of (C4 _).out)))
      go_wp2
      go_roundw
      case rel => exact ⟨8, rfl, ⟨by omega⟩, ⟨by (repeat (with_reducible first | exact HB.out | apply below_drewN | apply below_drew))⟩⟩
      case measure => decide
    · have C1 : ∀ w, Side (Calls Try.prog 16 #[.int .i64 1, .int .i64 1, .int .i64 1] w fun r w' => r = .returned (.int .i64 1) ∧ Still w w') := fun w => ⟨by have := Deadline_at 1 1 1 w; rw [show dead 1 1 1 = 1 by kernel_rfl] at this; exact this⟩
      have C2 : ∀ w, Side (Calls Try.prog 18 #[.int .i64 1, .int .i64 1, .int .i64 1] w fun r w' => r = .returned (.int .i64 0) ∧ Still w w') := fun w => ⟨by have := Group_at 1 1 1 w; rw [show group 1 1 1 = 0 by kernel_rfl] at this; exact this⟩
      have C3 : ∀ w, Side (Calls Try.prog 19 #[.int .i64 1, .int .i64 1] w fun r w' => r = .returned (.bool true) ∧ Still w w') := fun w => ⟨by have := Heavy_at 1 1 w; rw [show heavy 1 1 = true by kernel_rfl] at this; exact this⟩
      have C4 : ∀ w, Side (Calls Try.prog 19 #[.int .i64 1, .int .i64 2] w fun r w' => r = .returned (.bool true) ∧ Still w w') := fun w => ⟨by have := Heavy_at 1 2 w; rw [show heavy 1 2 = true by kernel_rfl] at this; exact this⟩
      have C5 : ∀ w, Side (Calls Try.prog 19 #[.int .i64 1, .int .i64 3] w fun r w' => r = .returned (.bool false) ∧ Still w w') := fun w => ⟨by have := Heavy_at 1 3 w; rw [show heavy 1 3 = false by kernel_rfl] at this; exact this⟩
      have C6 : ∀ w, Side (Calls Try.prog 16 #[.int .i64 1, .int .i64 7, .int .i64 1] w fun r w' => r = .returned (.int .i64 7) ∧ Still w w') := fun w => ⟨by have := Deadline_at 1 7 1 w; rw [show dead 1 7 1 = 7 by kernel_rfl] at this; exact this⟩
      have C7 : ∀ w, Side (Calls Try.prog 17 #[.int .i64 1, .int .i64 7, .int .i64 1] w fun r w' => r = .returned (.int .i64 0) ∧ Still w w') := fun w => ⟨by have := Bit_at 1 7 1 w; rw [show bit 1 7 1 = 0 by kernel_rfl] at this; exact this⟩
      have C8 : ∀ w, Side (Calls Try.prog 14 #[.int .i64 2, .int .i64 1, .int .i64 1] w fun r w' => r = .returned (.bool false) ∧ Still w w') := fun w => ⟨by have := May_at 2 1 1 w; rw [show decide (T 2 1 1) = false by kernel_rfl] at this; exact this⟩
      have C9 : ∀ w, Side (Calls Try.prog 14 #[.int .i64 1, .int .i64 2, .int .i64 2] w fun r w' => r = .returned (.bool false) ∧ Still w w') := fun w => ⟨by have := May_at 1 2 2 w; rw [show decide (T 1 2 2) = false by kernel_rfl] at this; exact this⟩
      have C10 : ∀ w, Side (Calls Try.prog 14 #[.int .i64 1, .int .i64 1048576, .int .i64 1] w fun r w' => r = .returned (.bool false) ∧ Still w w') := fun w => ⟨by have := May_at 1 1048576 1 w; rw [show decide (T 1 1048576 1) = false by kernel_rfl] at this; exact this⟩
      have C11 : ∀ w, Side (Calls Try.prog 16 #[.int .i64 1, .int .i64 2, .int .i64 0] w fun r w' => r = .returned (.int .i64 0) ∧ Still w w') := fun w => ⟨by have := Deadline_at 1 2 0 w; rw [show dead 1 2 0 = 0 by kernel_rfl] at this; exact this⟩
      go_wp2_with fail
      refine (C1 _).out.mono ?_
      rintro x w1 ⟨rfl, m1, rfl⟩
      go_wp2_with fail
      refine (C2 _).out.mono ?_
      rintro x w2 ⟨rfl, m2, rfl⟩
      go_wp2_with fail
      refine (C3 _).out.mono ?_
      rintro x w3 ⟨rfl, m3, rfl⟩
      go_wp2_with fail
      refine (C4 _).out.mono ?_
      rintro x w4 ⟨rfl, m4, rfl⟩
      go_wp2_with fail
      refine (C5 _).out.mono ?_
      rintro x w5 ⟨rfl, m5, rfl⟩
      go_wp2_with fail
      refine (C6 _).out.mono ?_
      rintro x w6 ⟨rfl, m6, rfl⟩
      go_wp2_with fail
      refine (C7 _).out.mono ?_
      rintro x w7 ⟨rfl, m7, rfl⟩
      go_wp2_with fail
      refine (C8 _).out.mono ?_
      rintro x w8 ⟨rfl, m8, rfl⟩
      go_wp2_with fail
      refine (C9 _).out.mono ?_
      rintro x w9 ⟨rfl, m9, rfl⟩
      go_wp2_with fail
      refine (C10 _).out.mono ?_
      rintro x w10 ⟨rfl, m10, rfl⟩
      go_wp2_with fail
      refine (C11 _).out.mono ?_
      rintro x w11 ⟨rfl, m11, rfl⟩
      go_wp2
      go_ret
      exact ⟨rfl, by (repeat (with_reducible first | exact hB.out | apply below_drewN | apply below_drew))⟩
end Go.Proofs.Ytnndjjpeaaloiaa.OwnKnown3

/- Package ledger, eighth text: New, Sum, Lcm, Len; the contracts as laws use them. No condition. -/
import Derived.Test.YtfgmenndmcjggaaLeG
set_option linter.unusedVariables false
set_option linter.unusedSimpArgs false
namespace Go.Proofs.Ytfgmenndmcjggaa.LeH
open Go.RowKit Go.Proofs.Ytfgmenndmcjggaa.Kit Go.Proofs.Ytfgmenndmcjggaa.Kit3 Go.Proofs.Ytfgmenndmcjggaa.Kit4 Go.Proofs.Ytfgmenndmcjggaa.LeP Go.Maps Go.Proofs.Ytfgmenndmcjggaa.LeA Go.Proofs.Ytfgmenndmcjggaa.LeB Go.Proofs.Ytfgmenndmcjggaa.LeC Go.Proofs.Ytfgmenndmcjggaa.LeD Go.Proofs.Ytfgmenndmcjggaa.LeE Go.Proofs.Ytfgmenndmcjggaa.LeF Go.Proofs.Ytfgmenndmcjggaa.LeG
open Go.Proofs.Ytfgmenndmcjggaa.PR WhPlain RaPlain Go.Proofs.Ytfgmenndmcjggaa.RaK
open Go.Proofs.YtfgmenndmcjggaaW.PrintLast
def kc (k : Int) : Int := min (max k 1) 64
theorem kc_range (k : Int) : 1 ≤ kc k ∧ kc k ≤ 64 := by unfold kc; omega
set_option maxHeartbeats 4000000 in
set_option maxRecDepth 100000 in
theorem New_at (w : World) (k0 k : Int) (hk : kc k0 = k) :
    Calls Try.prog 8 #[.int .i64 k0] w fun r w' => r = .returned (.pointer (some ⟨w.heap.size + 2, 0, none⟩)) ∧ LS w' w.heap.size (w.heap.size + 2) w.heap.size (w.heap.size + 1) 0 k (0, 1) [] ∧ Below w.heap.size w w' := by
  have hmm := @run_makeMap Try.prog
  have HG : Side (LeP.Good k [] (0, 1)) := ⟨Good.nil (by rw [← hk]; exact kc_range k0)⟩
  have hk' : min (max k0 1) 64 = k := hk
  clear hk
  have HF : Side (LS (((w.alloc (.map #[] 0)).alloc (.map #[] 0)).alloc (.cells #[.int .i64 k, .map (some w.heap.size), .map (some (w.heap.size + 1)), .int .i64 0, .int .i64 1] 54)) w.heap.size (w.heap.size + 2) w.heap.size (w.heap.size + 1) 0 k (0, 1) []) := ⟨by
    refine ⟨HG.out, .map [], .map [], ⟨?_, ?_, ?_, by omega, by omega, by omega⟩, Ix.nil⟩
    · have := heap_alloc_new ((w.alloc (.map #[] 0)).alloc (.map #[] 0)) (.cells #[.int .i64 k, .map (some w.heap.size), .map (some (w.heap.size + 1)), .int .i64 0, .int .i64 1] 54)
      simpa using this
    · exact ((World.ownsMap_made w Try.prog 3 pairR).alloc _).alloc _
    · have := (World.ownsMap_made (w.alloc (.map #[] 0)) Try.prog 3 (plainElem (H := Unit) Try.prog 3)).alloc (.cells #[.int .i64 k, .map (some w.heap.size), .map (some (w.heap.size + 1)), .int .i64 0, .int .i64 1] 54)
      simpa using this⟩
  go_enter Try.func8, Try.ntmps8
  go_wp2
  all_goals (go_ret; refine ⟨rfl, (by first | (obtain rfl : k = 64 := (by omega); exact HF.out) | (obtain rfl : k = 1 := (by omega); exact HF.out) | (obtain rfl : k = k0 := (by omega); exact HF.out)), ?_⟩)
  all_goals exact (by (repeat (with_reducible first | exact Below.refl _ _ | apply below_drewN | apply below_drew | apply below_alloc)))
set_option maxHeartbeats 4000000 in
set_option maxRecDepth 100000 in
theorem Sum_at (w : World) (B gh bl bm n : Nat) (k : Int) (s : Int × Int) (ms : List Wt) (h : LS w B gh bl bm n k s ms) :
    Calls Try.prog 11 #[.pointer (some ⟨gh, 0, none⟩)] w fun r w' => r = .returned (.agg #[.int .i64 s.1, .int .i64 s.2]) ∧ Below w.heap.size w w' := by
  obtain ⟨Dl, Dm, h1, h2⟩ := h.h
  obtain ⟨s0, s1⟩ := s
  have HB0 : Below w.heap.size w (w.alloc (.cells #[.int .i64 0, .int .i64 0] 30)) := (Below.refl _ w).alloc (Nat.le_refl _) _
  have hl := h1.below HB0
  have hc3 := hl.c3
  have hc4 := hl.c4
  have hgl := h1.lt
  have hgl' := hl.lt
  have hng : w.heap.size ≠ gh := by omega
  clear h h1 h2 hl HB0
  go_enter Try.func11, Try.ntmps11
  go_wp2
  exact bodyPost_ret (v := .agg #[.int .i64 s0, .int .i64 s1]) (by simp [results, Try.results11, go_sem]) rfl ⟨rfl, by (repeat (with_reducible first | exact Below.refl _ _ | apply below_drewN | apply below_drew | apply below_alloc | refine Below.setCell ?_ ?_ _)) <;> simp⟩
set_option maxHeartbeats 4000000 in
set_option maxRecDepth 100000 in
theorem Lcm_led (w : World) (B gh bl bm n : Nat) (k : Int) (s : Int × Int) (ms : List Wt) (h : LS w B gh bl bm n k s ms) (L : Int) (hL : (ll ms : Int) = L) :
    Calls Try.prog 14 #[.pointer (some ⟨gh, 0, none⟩)] w fun r w' => r = .returned (.int .i64 L) ∧ Below w.heap.size w w' := by
  obtain ⟨Dl, Dm, h1, h2⟩ := h.h
  have HK : Side (∀ w', Below w.heap.size w w' → Calls Try.prog 21 #[.pointer (some ⟨gh, 0, none⟩), .int .i64 1] w' fun r w'' => r = .returned (.tuple #[.int .i64 L, .bool true]) ∧ Below w'.heap.size w' w'') := ⟨fun w' hb => by
    have hl := h.g.l
    refine mult_at w' B gh bl bm n k s Dl Dm ms (h1.below hb) h2 h.g.may 1 (by omega) L ?_ L true (decide_eq_true (by omega)) rfl
    rw [show (1 : Int).natAbs = 1 from rfl, Nat.lcm_one_left]
    exact hL⟩
  have HB := Side.mk (Below.refl w.heap.size w)
  clear h h1 h2 hL
  go_enter Try.func14, Try.ntmps14
  go_wp2_with (go_at_call 21; (with_reducible refine (HK.out _ HB.out).mono ?_); rintro e w3 ⟨rfl, hb3⟩)
  go_ret
  exact ⟨rfl, hb3⟩
set_option maxHeartbeats 4000000 in
set_option maxRecDepth 100000 in
theorem Len_at (w : World) (B gh bl bm n : Nat) (k : Int) (s : Int × Int) (ms : List Wt) (h : LS w B gh bl bm n k s ms) (N : Int) (hN : (ms.length : Int) = N) :
    Calls Try.prog 16 #[.pointer (some ⟨gh, 0, none⟩)] w fun r w' => r = .returned (.int .i64 N) ∧ Below w.heap.size w w' := by
  obtain ⟨Dl, Dm, h1, h2⟩ := h.h
  have hc1 := h1.c1
  have hgl := h1.lt
  have hlen := h1.ml.len (k := 3) (e := 63) (t := 51) Try.underlying51 3
  rw [h2.sizel, hN] at hlen
  clear h h1 h2 hN
  go_enter Try.func16, Try.ntmps16
  go_wp2
  go_ret
  exact ⟨rfl, Below.refl _ _⟩
end Go.Proofs.Ytfgmenndmcjggaa.LeH

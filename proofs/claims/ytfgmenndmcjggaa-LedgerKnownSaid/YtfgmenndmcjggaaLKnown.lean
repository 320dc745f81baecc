/- LedgerKnown: the law's own walk. No condition. -/
import Derived.Test.YtfgmenndmcjggaaLKnA
set_option linter.unusedVariables false
set_option linter.unusedSimpArgs false
namespace Go.Proofs.Ytfgmenndmcjggaa.LKnown
open Go.RowKit Go.Proofs.Ytfgmenndmcjggaa.Kit Go.Proofs.Ytfgmenndmcjggaa.Kit2 Go.Proofs.Ytfgmenndmcjggaa.Kit3 Go.Proofs.Ytfgmenndmcjggaa.Kit4 Go.Proofs.Ytfgmenndmcjggaa.LeP Go.Maps Go.Proofs.Ytfgmenndmcjggaa.LeA Go.Proofs.Ytfgmenndmcjggaa.LeF Go.Proofs.Ytfgmenndmcjggaa.LeH Go.Proofs.Ytfgmenndmcjggaa.LeK Go.Proofs.Ytfgmenndmcjggaa.LFills Go.Proofs.Ytfgmenndmcjggaa.LKnA
open Go.Proofs.Ytfgmenndmcjggaa.PR WhPlain RaPlain Go.Proofs.Ytfgmenndmcjggaa.RaK
open Go.Proofs.YtfgmenndmcjggaaW.PrintLast
def vs : List Int := [0, 0, 7, 4, 2, 2, 0, 8, 0]
def Row9 (w : World) (g : Nat) : Prop := g < w.heap.size ∧ ∀ i, i < 9 → w.cell? ⟨g, i, none⟩ = some (.int .i64 (vs.getD i 0))
theorem Row9.new (w : World) (t : TypeId) : Row9 (w.alloc (.cells #[.int .i64 0, .int .i64 0, .int .i64 7, .int .i64 4, .int .i64 2, .int .i64 2, .int .i64 0, .int .i64 8, .int .i64 0] t)) w.heap.size := by
  refine ⟨by simp, fun i hi => ?_⟩
  rw [cell_of_row _ _ i _ _ (0, 0) (heap_alloc_new w _)]
  match i, hi with
  | 0, _ | 1, _ | 2, _ | 3, _ | 4, _ | 5, _ | 6, _ | 7, _ | 8, _ => rfl
theorem Row9.below {w w' : World} {g : Nat} (h : Row9 w g) (hb : Below w.heap.size w w') : Row9 w' g := ⟨Nat.lt_of_lt_of_le h.1 hb.size, fun i hi => ((bcell hb).1 g i h.1).trans (h.2 i hi)⟩
set_option maxHeartbeats 4000000 in
set_option maxRecDepth 100000 in
theorem walk (w : World) : Calls Try.prog 4 #[] w fun r w' => r = .returned (.bool true) ∧ Below w.heap.size w w' := by
  have HB := Side.mk (Below.refl w.heap.size w)
  go_enter Try.func4, Try.ntmps4
  go_upto_region 4 with (first
    | (go_at_call 7; (with_reducible refine (AwakeC _).out.mono ?_); rintro e w1 ⟨rfl, hb1⟩)
    | (go_at_call 8; (with_reducible refine (NewS hb1 2 2 (by decide)).mono ?_); rintro e w2 ⟨rfl, hs2, hb2⟩)
    | (go_at_call 8; (with_reducible refine (NewS hs2.below 0 1 (by decide)).mono ?_); rintro e w3 ⟨rfl, hs3, hb3⟩)
    | (go_at_call 8; (with_reducible refine (NewS hs3.below 1000 64 (by decide)).mono ?_); rintro e w4 ⟨rfl, hs4, hb4⟩))
  have H3 := Side.mk (L3.new (k1 := 2) (k2 := 1) (k3 := 64) (s1 := w1.heap.size) hs2 rfl hs3 hb3 rfl hs4 hb4)
  clear hs2 hs3 hs4 hb1 hb2 hb3 hb4 HB
  generalize w1.heap.size = s1 at *
  generalize w2.heap.size = s2 at *
  generalize w3.heap.size = s3 at *
  go_wp2_with fail
  refine (AddX H3.out (by simp [newL]) 1 1 4093 0 (by decide) c1 [(1, 1, 4093)] rfl).mono ?_
  rintro e u0 ⟨rfl, h0⟩
  have H0_ := Side.mk h0
  clear h0
  clear H3
  go_wp2_with fail
  refine (AddX H0_.out (by simp [newL]) 2 1 4091 0 (by decide) c2 [(1, 1, 4093), (2, 1, 4091)] rfl).mono ?_
  rintro e u1 ⟨rfl, h1⟩
  have H1_ := Side.mk h1
  clear h1
  clear H0_
  go_wp2_with fail
  refine (AddX H1_.out (by simp [newL]) 3 1 4099 7 (by decide) c3 [(1, 1, 4093), (2, 1, 4091)] rfl).mono ?_
  rintro e u2 ⟨rfl, h2⟩
  have H2_ := Side.mk h2
  clear h2
  clear H1_
  go_wp2_with fail
  refine (AddX H2_.out (by simp [newL]) 1 1 1 4 (by decide) c4 [(1, 1, 4093), (2, 1, 4091)] rfl).mono ?_
  rintro e u3 ⟨rfl, h3⟩
  have H3_ := Side.mk h3
  clear h3
  clear H2_
  go_wp2_with fail
  refine (AddX H3_.out (by simp [newL]) 4 0 5 2 (by decide) c5 [(1, 1, 4093), (2, 1, 4091)] rfl).mono ?_
  rintro e u4 ⟨rfl, h4⟩
  have H4_ := Side.mk h4
  clear h4
  clear H3_
  go_wp2_with fail
  refine (AddX H4_.out (by simp [newL]) 1 5 4 2 (by decide) c6 [(1, 1, 4093), (2, 1, 4091)] rfl).mono ?_
  rintro e u5 ⟨rfl, h5⟩
  have H5_ := Side.mk h5
  clear h5
  clear H4_
  go_wp2_with fail
  refine (AddX H5_.out (by simp [newL]) 5 4093 4093 0 (by decide) c7 [(1, 1, 4093), (2, 1, 4091), (5, 4093, 4093)] rfl).mono ?_
  rintro e u6 ⟨rfl, h6⟩
  have H6_ := Side.mk h6
  clear h6
  clear H5_
  go_wp2_with fail
  refine (AddX H6_.out (by simp [newL]) 6 4092 4093 8 (by decide) c8 [(1, 1, 4093), (2, 1, 4091), (5, 4093, 4093)] rfl).mono ?_
  rintro e u7 ⟨rfl, h7⟩
  have H7_ := Side.mk h7
  clear h7
  clear H6_
  go_wp2_with fail
  refine (AddX H7_.out (by simp [newL]) 7 1 4091 0 (by decide) c9 [(1, 1, 4093), (2, 1, 4091), (5, 4093, 4093), (7, 1, 4091)] rfl).mono ?_
  rintro e u8 ⟨rfl, h8⟩
  have H8_ := Side.mk h8
  clear h8
  clear H7_
  go_upto_region 7 with (fail)
  go_upto_region 8 with (fail)
  have RA := Row9.new u8 26
  have hbA : Below u8.heap.size u8 (u8.alloc (.cells #[.int .i64 0, .int .i64 0, .int .i64 7, .int .i64 4, .int .i64 2, .int .i64 2, .int .i64 0, .int .i64 8, .int .i64 0] 26)) := (Below.refl _ _).alloc (Nat.le_refl _) _
  have HA := H8_.out.below hbA
  have e1 : (u8.alloc (.cells #[.int .i64 0, .int .i64 0, .int .i64 7, .int .i64 4, .int .i64 2, .int .i64 2, .int .i64 0, .int .i64 8, .int .i64 0] 26)).heap.size = u8.heap.size + 1 := by simp
  generalize hga : u8.heap.size = ga at *
  generalize u8.alloc (.cells #[.int .i64 0, .int .i64 0, .int .i64 7, .int .i64 4, .int .i64 2, .int .i64 2, .int .i64 0, .int .i64 8, .int .i64 0] 26) = wA at *
  have RB := Row9.new wA 26
  have hbB : Below wA.heap.size wA (wA.alloc (.cells #[.int .i64 0, .int .i64 0, .int .i64 7, .int .i64 4, .int .i64 2, .int .i64 2, .int .i64 0, .int .i64 8, .int .i64 0] 26)) := (Below.refl _ _).alloc (Nat.le_refl _) _
  have HB := Side.mk (HA.below hbB)
  have RA := Side.mk (RA.below hbB)
  rw [e1] at RB
  have RB := Side.mk RB
  clear hbA hbB HA H8_ hga e1
  generalize wA.alloc (.cells #[.int .i64 0, .int .i64 0, .int .i64 7, .int .i64 4, .int .i64 2, .int .i64 2, .int .i64 0, .int .i64 8, .int .i64 0] 26) = wB at *
  go_wp2_with fail
  go_loopw [6] (fun v6 wr => ∃ i : Nat, v6 = .int .i64 (i : Int) ∧ i ≤ 9 ∧ Side (Below wB.heap.size wB wr)) (fun v6 _ => (9 - intOf v6).toNat)
  case atStart => exact ⟨0, rfl, by decide, ⟨Below.refl _ _⟩⟩
  case round =>
    obtain ⟨i, rfl, hi, HBR⟩ := hrel
    have hi0 : (0 : Int) ≤ i := by omega
    by_cases hlt : i < 9
    · have hii : (i : Int) < 9 := by omega
      have hi1 : (i : Int) + 1 ≤ 9223372036854775807 := by omega
      have ra := (RA.out.below HBR.out).2 i hlt
      have la := (RA.out.below HBR.out).1
      have rb := (RB.out.below HBR.out).2 i hlt
      have lb := (RB.out.below HBR.out).1
      generalize vs.getD i 0 = x at ra rb
      go_upto_region 11 with (fail)
      go_cut [60] (fun v we => v = .bool false ∧ ∃ n, we = wr.drewN n)
      case first =>
        go_quiet (fail)
        refine ‹∀ (a' : Act) (w' : World), Met _ a' w' → _› _ _ ?_
        go_meet
        case rel => exact ⟨rfl, ⟨_, rfl⟩⟩
      case rest =>
        obtain ⟨rfl, nq, hwc⟩ := hcut
        rw [hwc]
        clear hwc
        go_wp2
        go_roundw
        case rel => exact ⟨i + 1, by simp, by omega, ⟨below_drewN HBR.out nq⟩⟩
        case measure => simp [intOf]; omega
    · have hii : ¬ (i : Int) < 9 := by omega
      obtain rfl : i = 9 := by omega
      clear hlt hi hi0
      have HB2 := Side.mk (HB.out.below HBR.out)
      clear HB HBR RA RB
      go_upto_region 13 with (fail)
      have Z0 := Side.mk HB2.out.rot
      clear HB2
      go_wp2_with fail
      refine (CanX Z0.out 1 1 0 d1).mono ?_
      rintro e v0 ⟨rfl, h⟩
      have Z1 := Side.mk h
      clear h Z0
      go_wp2_with fail
      refine (AddX Z1.out (by simp [newL]) 9 1 1 0 (by decide) d2 [(9, 1, 1)] rfl).mono ?_
      rintro e v1 ⟨rfl, h⟩
      have Z2 := Side.mk h
      clear h Z1
      go_wp2_with fail
      refine (CanX Z2.out 1 1000 8 d3).mono ?_
      rintro e v2 ⟨rfl, h⟩
      have M0 := Side.mk h.rot
      clear h Z2
      go_wp2_with fail
      obtain ⟨X, hX⟩ : ∃ X : Ld, X = { g := s1 + 2, l := s1, m := s1 + 1, n := 0 + 1 + 1 + 1 + 1 + 1 + 1 + 1 + 1 + 1, k := 2, ms := [(1, 1, 4093), (2, 1, 4091), (5, 4093, 4093), (7, 1, 4091)] } := ⟨_, rfl⟩
      rw [← hX] at M0
      have HX := Side.mk hX
      clear hX
      generalize ({ newL s2 1 with n := (newL s2 1).n + 1, ms := [(9, 1, 1)] } : Ld) = Y at *
      go_loopw [10] (fun v10 wq => ∃ (i : Nat) (ms : List Wt), v10 = .int .i64 (i : Int) ∧ i ≤ 64 ∧ Side (L3 w wq { g := s3 + 2, l := s3, m := s3 + 1, n := i, k := 64, ms := ms } X Y ∧ Fi 1 ms i i)) (fun v10 _ => (64 - intOf v10).toNat)
      case atStart => exact ⟨0, [], rfl, by decide, ⟨M0.out, ⟨by simp, by simp, rfl, by decide⟩⟩⟩
      case round =>
        clear M0
        obtain ⟨i, ms, rfl, hi, HM⟩ := hrel
        have hi0 : (0 : Int) ≤ i := by omega
        by_cases hlt : i < 64
        · have hii : (i : Int) < 64 := by omega
          have hi1 : (i : Int) + 1 ≤ 9223372036854775807 := by omega
          go_wp2_with fail
          refine (AddX HM.out.1 (by show i < 1000000; omega) (i : Int) 1 1 0 (wf_of (by omega) (by omega)) (f1 HM.out.2 hlt) (ms ++ [((i : Int), 1, 1)]) rfl).mono ?_
          rintro e v3 ⟨rfl, h⟩
          have M1 := Side.mk (And.intro h (HM.out.2.add 1 (by omega)))
          clear h HM
          go_wp2
          go_roundw
          case rel => exact ⟨i + 1, _, by simp, by omega, ⟨M1.out.1, by have := M1.out.2; simpa using this⟩⟩
          case measure => simp [intOf]; omega
        · have hii : ¬ (i : Int) < 64 := by omega
          obtain rfl : i = 64 := by omega
          clear hlt hi hi0
          go_wp2_with fail
          refine (CanX HM.out.1 1 2 8 (f2 HM.out.2)).mono ?_
          rintro e v3 ⟨rfl, h⟩
          have X0 := Side.mk h.rot
          have HSM := Side.mk (f3 HM.out.2)
          clear h HM
          obtain rfl := HX.out
          clear HX
          go_wp2_with fail
          refine (DropX X0.out (by simp) 2 (by decide) true e1 _ e2).mono ?_
          rintro e v4 ⟨rfl, h⟩
          have X1 := Side.mk h
          clear h X0
          go_wp2_with fail
          refine (DropX X1.out (by simp) 2 (by decide) false e3 _ e4).mono ?_
          rintro e v5 ⟨rfl, h⟩
          have X2 := Side.mk h
          clear h X1
          go_wp2_with fail
          refine (DropX X2.out (by simp) 7 (by decide) true e5 _ e6).mono ?_
          rintro e v6 ⟨rfl, h⟩
          have X3 := Side.mk h
          clear h X2
          go_wp2_with fail
          refine (LcmX X3.out 4093 e7).mono ?_
          rintro e v7 ⟨rfl, h⟩
          have X4 := Side.mk h
          clear h X3
          go_wp2_with fail
          refine (SumX X4.out (4094, 4093) e8).mono ?_
          rintro e v8 ⟨rfl, h⟩
          have X5 := Side.mk h.rot.rot
          clear h X4
          go_wp2_with fail
          refine (SumX X5.out (64, 1) HSM.out).mono ?_
          rintro e v9 ⟨rfl, h⟩
          have X6 := Side.mk h.sx.below
          clear h X5
          go_wp2
          go_ret
          exact ⟨rfl, X6.out⟩
end Go.Proofs.Ytfgmenndmcjggaa.LKnown

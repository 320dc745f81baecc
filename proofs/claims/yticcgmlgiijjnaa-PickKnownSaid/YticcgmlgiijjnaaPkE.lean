/- The law PickKnown, walked by hand. No condition. -/
import Derived.Test.YticcgmlgiijjnaaPkD
set_option linter.unusedVariables false
set_option linter.unusedSimpArgs false
namespace Go.Proofs.Yticcgmlgiijjnaa.PkE
open Go.RowKit Go.Proofs.Yticcgmlgiijjnaa.Kit Go.Proofs.Yticcgmlgiijjnaa.Kit2 Go.Proofs.Yticcgmlgiijjnaa.Kit3 Go.Proofs.Yticcgmlgiijjnaa.Kit4 Go.Proofs.Yticcgmlgiijjnaa.Kit5 HpPlain Go.Maps EvPlain Go.Proofs.Yticcgmlgiijjnaa.HpA Go.Proofs.Yticcgmlgiijjnaa.HpB Go.Proofs.Yticcgmlgiijjnaa.HpK Go.Proofs.Yticcgmlgiijjnaa.Win Go.Proofs.Yticcgmlgiijjnaa.Rank Go.Proofs.Yticcgmlgiijjnaa.Cmp Go.Proofs.Yticcgmlgiijjnaa.PkPlain Go.Proofs.Yticcgmlgiijjnaa.PkA Go.Proofs.Yticcgmlgiijjnaa.PkB Go.Proofs.Yticcgmlgiijjnaa.PkC Go.Proofs.Yticcgmlgiijjnaa.PkD
def t1 : Tk := ⟨1, 2, 6, false, false, false, true, 0, 1, false, 0⟩
def t2 : Tk := ⟨2, 1, 9, false, false, false, true, 0, 0, false, 0⟩
def t3 : Tk := ⟨2, 1, 1, false, false, false, true, 0, 0, false, 0⟩
def t4 : Tk := ⟨3, 1, 1, false, false, false, true, 0, 1, false, 0⟩
def t5 : Tk := ⟨4, 1, 1, false, false, false, false, 0, 0, false, 0⟩
def ts5 : List Tk := [t1, t2, t3, t4, t5]
theorem ids5 : ids (PkB.at_ ts5) 5 2 (9 : Int).toNat false = [2] ∧ ids (PkB.at_ ts5) 5 2 (9 : Int).toNat true = [1, 2] ∧ ids (PkB.at_ ts5) 5 2 (0 : Int).toNat true = [] ∧ ids (PkB.at_ ts5) 5 2 (-4 : Int).toNat true = [] ∧ ids (PkB.at_ []) 0 2 (4 : Int).toNat true = [] ∧ can t1 3 false = true ∧ can t1 2 false = false ∧ (rk t1).d = 6 := by decide +kernel
theorem len5 : ts5.length = 5 := rfl
theorem fit1 : Fit t1 := ⟨by decide, by decide, by decide, by decide⟩
theorem fit5 (i : Nat) (h : i < ts5.length) : Fit (PkB.at_ ts5 i) := by
  rw [len5] at h
  match i, h with
  | 0, _ => exact fit1
  | 1, _ | 2, _ | 3, _ | 4, _ => exact ⟨by decide, by decide, by decide, by decide⟩
theorem wf5 (i : Nat) (h : i < ts5.length) : (kv (PkB.at_ ts5 i).id).wf = true := by
  rw [len5] at h
  match i, h with
  | 0, _ | 1, _ | 2, _ | 3, _ | 4, _ => decide
theorem best5 {w : World} {B : Nat} {v : Value} (hr : TRow w B v ts5) (K : Int) (y : Bool) (xs : List Int) (hx : ids (PkB.at_ ts5) 5 2 K.toNat y = xs) : Calls Try.prog 15 #[v, .int .i64 2, .int .i64 K, .bool y] w fun r w' => ∃ v, r = .returned v ∧ IRow w' w.heap.size v xs ∧ Below w.heap.size w w' := by
  obtain ⟨a2, c2, rfl, -, -⟩ := hr.shape E11
  have := Best_at _ _ _ ts5 2 K y w (GRow.lower hr (Nat.zero_le _)) (by rw [len5]; omega) fit5 wf5
  rw [len5, hx] at this
  exact this
theorem best0 {w : World} (K : Int) (y : Bool) (xs : List Int) (hx : ids (PkB.at_ []) 0 2 K.toNat y = xs) : Calls Try.prog 15 #[.slice none 0 0, .int .i64 2, .int .i64 K, .bool y] w fun r w' => ∃ v, r = .returned v ∧ IRow w' w.heap.size v xs ∧ Below w.heap.size w w' := by
  have := Best_at none 0 0 [] 2 K y w (GRow.nil _ _) (by simp) (fun i h => absurd h (by simp)) (fun i h => absurd h (by simp))
  rw [show ([] : List Tk).length = 0 from rfl, hx] at this
  exact this
set_option maxHeartbeats 8000000 in
set_option maxRecDepth 100000 in
theorem walk (w : World) : Calls Try.prog 5 #[] w fun r w' => r = .returned (.bool true) ∧ Below w.heap.size w w' := by
  have HI := Side.mk ids5
  go_enter Try.func5, Try.ntmps5
  go_wp2_with fail
  refine (awake_at _).mono ?_
  rintro e w0 ⟨rfl, hb0⟩
  have HB0 := Side.mk hb0
  clear hb0
  go_upto_region 4 with (fail)
  obtain ⟨g, hg⟩ : ∃ g, g = w0.heap.size := ⟨_, rfl⟩
  obtain ⟨W1, hW1⟩ : ∃ W1, W1 = w0.alloc (.cells #[.int .i64 1, .int .i64 2, .int .i64 6, .bool false, .bool false, .bool false, .bool true, .int .i64 0, .int .i64 1, .bool false, .int .i64 0, .int .i64 2, .int .i64 1, .int .i64 9, .bool false, .bool false, .bool false, .bool true, .int .i64 0, .int .i64 0, .bool false, .int .i64 0, .int .i64 2, .int .i64 1, .int .i64 1, .bool false, .bool false, .bool false, .bool true, .int .i64 0, .int .i64 0, .bool false, .int .i64 0, .int .i64 3, .int .i64 1, .int .i64 1, .bool false, .bool false, .bool false, .bool true, .int .i64 0, .int .i64 1, .bool false, .int .i64 0, .int .i64 4, .int .i64 1, .int .i64 1, .bool false, .bool false, .bool false, .bool false, .int .i64 0, .int .i64 0, .bool false, .int .i64 0] 26) := ⟨_, rfl⟩
  have HB1 : Side (Below w.heap.size w W1) := ⟨by rw [hW1]; exact HB0.out.alloc HB0.out.size _⟩
  have HQ : Side (QRow W1 (some ⟨g, 0, none⟩) ts5) := ⟨⟨fun j hj => ⟨g, 0, rfl, by rw [hW1, hg]; simp, fun r u hr => by
    rw [hW1, hg]
    refine (World.cell?_alloc_at _ _ _ _ rfl).trans ?_
    rw [len5] at hj
    match j, hj, r, hr with
    | 0, _, 0, hr | 0, _, 1, hr | 0, _, 2, hr | 0, _, 3, hr | 0, _, 4, hr | 0, _, 5, hr | 0, _, 6, hr | 0, _, 7, hr | 0, _, 8, hr | 0, _, 9, hr | 0, _, 10, hr => exact hr
    | 0, _, r + 11, hr => exact absurd hr (by simp [tcl])
    | 1, _, 0, hr | 1, _, 1, hr | 1, _, 2, hr | 1, _, 3, hr | 1, _, 4, hr | 1, _, 5, hr | 1, _, 6, hr | 1, _, 7, hr | 1, _, 8, hr | 1, _, 9, hr | 1, _, 10, hr => exact hr
    | 1, _, r + 11, hr => exact absurd hr (by simp [tcl])
    | 2, _, 0, hr | 2, _, 1, hr | 2, _, 2, hr | 2, _, 3, hr | 2, _, 4, hr | 2, _, 5, hr | 2, _, 6, hr | 2, _, 7, hr | 2, _, 8, hr | 2, _, 9, hr | 2, _, 10, hr => exact hr
    | 2, _, r + 11, hr => exact absurd hr (by simp [tcl])
    | 3, _, 0, hr | 3, _, 1, hr | 3, _, 2, hr | 3, _, 3, hr | 3, _, 4, hr | 3, _, 5, hr | 3, _, 6, hr | 3, _, 7, hr | 3, _, 8, hr | 3, _, 9, hr | 3, _, 10, hr => exact hr
    | 3, _, r + 11, hr => exact absurd hr (by simp [tcl])
    | 4, _, 0, hr | 4, _, 1, hr | 4, _, 2, hr | 4, _, 3, hr | 4, _, 4, hr | 4, _, 5, hr | 4, _, 6, hr | 4, _, 7, hr | 4, _, 8, hr | 4, _, 9, hr | 4, _, 10, hr => exact hr
    | 4, _, r + 11, hr => exact absurd hr (by simp [tcl])⟩⟩⟩
  rw [← hW1, ← hg]
  clear hW1 hg HB0
  go_wp2_with fail
  refine (Rows_at _ 5 ts5 _ HQ.out (by rw [len5]; omega)).mono ?_
  rintro e w2 ⟨v, rfl, hr2, hb2⟩
  have HB2 := Side.mk (below_then HB1.out HB1.out.size hb2)
  have HR2 := Side.mk hr2
  clear hr2 hb2 HQ HB1
  go_wp2_with fail
  refine (best5 HR2.out 9 false [2] HI.out.1).mono ?_
  rintro e w3 ⟨v3, rfl, hr3, hb3⟩
  have HB3 := Side.mk (below_then HB2.out HB2.out.size hb3)
  have HR3 := Side.mk (GRow.below HR2.out hb3)
  have HX3 := Side.mk hr3
  clear hr3 hb3 HB2 HR2
  go_wp2_with fail
  refine (best5 HR3.out 9 true [1, 2] HI.out.2.1).mono ?_
  rintro e w4 ⟨v4, rfl, hr4, hb4⟩
  have HB4 := Side.mk (below_then HB3.out HB3.out.size hb4)
  have HR4 := Side.mk (GRow.below HR3.out hb4)
  have HX4 := Side.mk (GRow.below HX3.out hb4)
  obtain ⟨a3, c3, rfl, -, -⟩ := HX4.out.shape E1
  obtain ⟨g3, rfl, hg3, -, h30⟩ := IRow.get HX4.out 0 2 rfl
  obtain ⟨a4, c4, rfl, -, -⟩ := hr4.shape E1
  obtain ⟨g4, rfl, hg4, -, h40⟩ := IRow.get hr4 0 1 rfl
  obtain ⟨g4', hgo, -, -, h41⟩ := IRow.get hr4 1 2 rfl
  obtain rfl : g4 = g4' := by simpa using hgo
  clear hr4 hb4 HB3 HR3 HX3 HX4 hgo
  go_wp2_with fail
  refine (best5 HR4.out 0 true [] HI.out.2.2.1).mono ?_
  rintro e w5 ⟨v5, rfl, hr5, hb5⟩
  have HB5 := Side.mk (below_then HB4.out HB4.out.size hb5)
  have HR5 := Side.mk (GRow.below HR4.out hb5)
  obtain ⟨a5, c5, rfl, -, -⟩ := hr5.shape E1
  clear hr5 hb5 HB4 HR4 h30 h40 h41 hg3 hg4
  go_wp2_with fail
  refine (best5 HR5.out (-4) true [] HI.out.2.2.2.1).mono ?_
  rintro e w6 ⟨v6, rfl, hr6, hb6⟩
  have HB6 := Side.mk (below_then HB5.out HB5.out.size hb6)
  have HR6 := Side.mk (GRow.below HR5.out hb6)
  obtain ⟨a6, c6, rfl, -, -⟩ := hr6.shape E1
  clear hr6 hb6 HB5 HR5
  go_wp2_with fail
  refine (best0 4 true [] HI.out.2.2.2.2.1).mono ?_
  rintro e w7 ⟨v7, rfl, hr7, hb7⟩
  have HB7 := Side.mk (below_then HB6.out HB6.out.size hb7)
  have HR7 := Side.mk (GRow.below HR6.out hb7)
  obtain ⟨a7, c7, rfl, -, -⟩ := hr7.shape E1
  clear hr7 hb7 HB6 HR6
  obtain ⟨a2, c2, rfl, -, -⟩ := HR7.out.shape E11
  obtain ⟨g2, rfl, -, -, -⟩ := TRow.get HR7.out 0 (by rw [len5]; omega)
  have C1 := fun w => Side.mk (Can_at t1 fit1 3 false w)
  have C2 := fun w => Side.mk (Can_at t1 fit1 2 false w)
  have C3 := fun w => Side.mk (Rank_at t1 fit1 w)
  rw [HI.out.2.2.2.2.2.1] at C1
  rw [HI.out.2.2.2.2.2.2.1] at C2
  have HD := Side.mk HI.out.2.2.2.2.2.2.2
  generalize rk t1 = q at *
  obtain ⟨q1, q2, q3, q4⟩ := q
  obtain rfl : q1 = 6 := HD.out
  clear HD
  obtain ⟨g', hgo, hgl, -, hc⟩ := TRow.get (HR7.out) 0 (by rw [len5]; omega)
  obtain rfl : g2 = g' := by simpa using hgo
  have u0 : w7.cell? ⟨g2, 0 * 11, none⟩ = some (.int .i64 1) := hc 0 _ rfl
  have u1 : w7.cell? ⟨g2, 0 * 11 + 1, none⟩ = some (.int .i64 2) := hc 1 _ rfl
  have u2 : w7.cell? ⟨g2, 0 * 11 + 2, none⟩ = some (.int .i64 6) := hc 2 _ rfl
  have u3 : w7.cell? ⟨g2, 0 * 11 + 3, none⟩ = some (.bool false) := hc 3 _ rfl
  have u4 : w7.cell? ⟨g2, 0 * 11 + 4, none⟩ = some (.bool false) := hc 4 _ rfl
  have u5 : w7.cell? ⟨g2, 0 * 11 + 5, none⟩ = some (.bool false) := hc 5 _ rfl
  have u6 : w7.cell? ⟨g2, 0 * 11 + 6, none⟩ = some (.bool true) := hc 6 _ rfl
  have u7 : w7.cell? ⟨g2, 0 * 11 + 7, none⟩ = some (.int .i64 0) := hc 7 _ rfl
  have u8 : w7.cell? ⟨g2, 0 * 11 + 8, none⟩ = some (.int .i64 1) := hc 8 _ rfl
  have u9 : w7.cell? ⟨g2, 0 * 11 + 9, none⟩ = some (.bool false) := hc 9 _ rfl
  have u10 : w7.cell? ⟨g2, 0 * 11 + 10, none⟩ = some (.int .i64 0) := hc 10 _ rfl
  clear hc hgo
  go_wp2_with fail
  refine (C1 _).out.mono ?_
  rintro e w8 ⟨rfl, hb8⟩
  have HB8 := Side.mk (below_then HB7.out HB7.out.size hb8)
  have HR8 := Side.mk (GRow.below HR7.out hb8)
  clear hb8 HB7 HR7 hgl u0 u1 u2 u3 u4 u5 u6 u7 u8 u9 u10
  obtain ⟨g', hgo, hgl, -, hc⟩ := TRow.get (HR8.out) 0 (by rw [len5]; omega)
  obtain rfl : g2 = g' := by simpa using hgo
  have u0 : w8.cell? ⟨g2, 0 * 11, none⟩ = some (.int .i64 1) := hc 0 _ rfl
  have u1 : w8.cell? ⟨g2, 0 * 11 + 1, none⟩ = some (.int .i64 2) := hc 1 _ rfl
  have u2 : w8.cell? ⟨g2, 0 * 11 + 2, none⟩ = some (.int .i64 6) := hc 2 _ rfl
  have u3 : w8.cell? ⟨g2, 0 * 11 + 3, none⟩ = some (.bool false) := hc 3 _ rfl
  have u4 : w8.cell? ⟨g2, 0 * 11 + 4, none⟩ = some (.bool false) := hc 4 _ rfl
  have u5 : w8.cell? ⟨g2, 0 * 11 + 5, none⟩ = some (.bool false) := hc 5 _ rfl
  have u6 : w8.cell? ⟨g2, 0 * 11 + 6, none⟩ = some (.bool true) := hc 6 _ rfl
  have u7 : w8.cell? ⟨g2, 0 * 11 + 7, none⟩ = some (.int .i64 0) := hc 7 _ rfl
  have u8 : w8.cell? ⟨g2, 0 * 11 + 8, none⟩ = some (.int .i64 1) := hc 8 _ rfl
  have u9 : w8.cell? ⟨g2, 0 * 11 + 9, none⟩ = some (.bool false) := hc 9 _ rfl
  have u10 : w8.cell? ⟨g2, 0 * 11 + 10, none⟩ = some (.int .i64 0) := hc 10 _ rfl
  clear hc hgo
  go_wp2_with fail
  refine (C2 _).out.mono ?_
  rintro e w9 ⟨rfl, hb9⟩
  have HB9 := Side.mk (below_then HB8.out HB8.out.size hb9)
  have HR9 := Side.mk (GRow.below HR8.out hb9)
  clear hb9 HB8 HR8 hgl u0 u1 u2 u3 u4 u5 u6 u7 u8 u9 u10
  obtain ⟨g', hgo, hgl, -, hc⟩ := TRow.get (HR9.out) 0 (by rw [len5]; omega)
  obtain rfl : g2 = g' := by simpa using hgo
  have u0 : w9.cell? ⟨g2, 0 * 11, none⟩ = some (.int .i64 1) := hc 0 _ rfl
  have u1 : w9.cell? ⟨g2, 0 * 11 + 1, none⟩ = some (.int .i64 2) := hc 1 _ rfl
  have u2 : w9.cell? ⟨g2, 0 * 11 + 2, none⟩ = some (.int .i64 6) := hc 2 _ rfl
  have u3 : w9.cell? ⟨g2, 0 * 11 + 3, none⟩ = some (.bool false) := hc 3 _ rfl
  have u4 : w9.cell? ⟨g2, 0 * 11 + 4, none⟩ = some (.bool false) := hc 4 _ rfl
  have u5 : w9.cell? ⟨g2, 0 * 11 + 5, none⟩ = some (.bool false) := hc 5 _ rfl
  have u6 : w9.cell? ⟨g2, 0 * 11 + 6, none⟩ = some (.bool true) := hc 6 _ rfl
  have u7 : w9.cell? ⟨g2, 0 * 11 + 7, none⟩ = some (.int .i64 0) := hc 7 _ rfl
  have u8 : w9.cell? ⟨g2, 0 * 11 + 8, none⟩ = some (.int .i64 1) := hc 8 _ rfl
  have u9 : w9.cell? ⟨g2, 0 * 11 + 9, none⟩ = some (.bool false) := hc 9 _ rfl
  have u10 : w9.cell? ⟨g2, 0 * 11 + 10, none⟩ = some (.int .i64 0) := hc 10 _ rfl
  clear hc hgo
  go_wp2_with fail
  refine (C3 _).out.mono ?_
  rintro e w10 ⟨rfl, hb10⟩
  have HB10 := Side.mk (below_then HB9.out HB9.out.size hb10)
  have hfd : ∀ w : World, (Instr.field 32 (.agg #[.int .i64 6, .int .i64 q2, .int .i64 q3, .int .i64 q4]) 0).run Try.prog w = .ok (.int .i64 6) w := fun _ => by kernel_rfl
  clear hb10 HB9 HR9 hgl u0 u1 u2 u3 u4 u5 u6 u7 u8 u9 u10
  go_wp2
  go_ret
  exact ⟨rfl, HB10.out⟩
end Go.Proofs.Yticcgmlgiijjnaa.PkE

/- Package lag: the closure of LagMost. No condition. -/
import Derived.Test.YtiemhmaijiifkaaLaF
import Derived.Test.YtiemhmaijiifkaaWInvWords
import Derived.Test.YtiemhmaijiifkaaWMore
import Derived.IntWalk
set_option linter.unusedVariables false
set_option linter.unusedSimpArgs false
namespace Go.Proofs.Ytiemhmaijiifkaa.LaG
open Go.RowKit Go.Proofs.Ytiemhmaijiifkaa.Kit Go.Proofs.Ytiemhmaijiifkaa.Kit3 Go.Proofs.Ytiemhmaijiifkaa.RaB Go.Proofs.Ytiemhmaijiifkaa.LaD Go.Proofs.Ytiemhmaijiifkaa.LaE Go.Proofs.Ytiemhmaijiifkaa.LaF
open Go.Proofs.YtiemhmaijiifkaaW.PrintLast
/-- One round's lag is seen. -/
def Seen (w w' : World) (gl : Nat) (m : Int × Int) : Prop := LS w' gl m ∧ Chg w w' (fun b => b = gl)
set_option maxHeartbeats 16000000 in
set_option maxRecDepth 100000 in
theorem clo (gl gn b off i len cap : Nat) (x0 x1 x2 e p c g u v : Int) (m m' : Int × Int) (w : World) (HL : Side (LS w gl m))
    (HN : Side (w.cell? ⟨gn, 0, none⟩ = some (.slice (some ⟨b, off, none⟩) len cap) ∧ gn < w.heap.size))
    (HC : Side (w.cell? ⟨b, off + i * 3, none⟩ = some (.int .u8 x0) ∧ w.cell? ⟨b, off + i * 3 + 1, none⟩ = some (.int .u8 x1) ∧ w.cell? ⟨b, off + i * 3 + 2, none⟩ = some (.int .u8 x2) ∧ b < w.heap.size))
    (hi : (i : Int) < len) (hlen : (len : Int) ≤ 60) (y0 : IntKind.i64.wrap x0 = x0) (y1 : IntKind.i64.wrap x1 = x1) (y2 : IntKind.i64.wrap x2 = x2)
    (r0 : x0.tmod 12 = u) (r1 : IntKind.i64.wrap (1 + u) = p) (r2 : ¬ p = 0) (r3 : x1.tmod p = v) (r4 : IntKind.i64.wrap (1 + v) = e) (r5 : x2.tmod 40 = c) (r6 : x2.tmod 7 = g)
    (SE : ∀ w', LS w' gl m → Side (Calls Try.prog 12 #[.pointer (some ⟨gl, 0, none⟩), .int .i64 e, .int .i64 p, .int .i64 0, .int .i64 c, .agg #[.int .i64 g, .int .i64 1]] w' fun r w'' => r = .returned (.int .i64 0) ∧ LS w'' gl m' ∧ Chg w' w'' (fun b => b = gl))) :
    Calls Try.prog 14 #[.pointer (some ⟨gl, 0, none⟩), .int .i64 (i : Int), .pointer (some ⟨gn, 0, none⟩)] w fun r w' => r = .returned (.bool true) ∧ LS w' gl m' ∧ Chg w w' (fun b => b = gl) := by
  have n0 := HN.out.1
  have n1 := HN.out.2
  have k0 := HC.out.1
  have k1 := HC.out.2.1
  have k2 := HC.out.2.2.1
  have k3 := HC.out.2.2.2
  have z : ¬ (i : Int) < 0 := by omega
  have SE := Side.mk SE
  go_enter Try.func14, Try.ntmps14
  go_upto_region 3 with (fail)
  refine start_ (n := 21) (S := fun w' => True) (ds := []) #[false, false, false, false, false, false, false, false, false, false, false, false, false, false, false, false, false, false, false, false, false] (by kernel_rfl) rfl rfl trivial (fun _ => ?_)
  refine inv_at (B := [0, 0, 0, 0, 0, 24, 56, 120, 248, 504, 0, 0, 3072, 7168, 15360, 31744, 64512, 130048, 262143, 524287, 1048575]) [0, 1, 2, 3, 4, 5, 6, 7, 8, 9, 10, 11, 12, 13, 14, 15, 16, 17, 18, 19, 20] (fun a0_ b_ a w' => a = putSel a0_ b_ [(0, 25, .pointer (some ⟨gl, 0, none⟩)), (1, 26, .int .i64 e), (2, 27, .int .i64 p), (3, 28, .slice (some ⟨b, off, none⟩) len cap), (4, 29, .int .i64 (i : Int)), (5, 30, .pointer (some ⟨b, off + i * 3, none⟩)), (6, 31, .pointer (some ⟨b, off + i * 3 + 2, none⟩)), (7, 32, .int .u8 x2), (8, 33, .int .i64 x2), (9, 34, .int .i64 c), (10, 35, .slice (some ⟨b, off, none⟩) len cap), (11, 36, .int .i64 (i : Int)), (12, 37, .pointer (some ⟨b, off + i * 3, none⟩)), (13, 38, .pointer (some ⟨b, off + i * 3 + 2, none⟩)), (14, 39, .int .u8 x2), (15, 40, .int .i64 x2), (16, 41, .int .i64 g), (17, 42, .agg #[.int .i64 g, .int .i64 1]), (18, 43, .int .i64 0), (19, 44, .bool true), (20, 5, .bool true)] ∧ (b_ 18 = false → w' = w.drew) ∧ (b_ 18 = true → Seen w w' gl m')) rfl (by kernel_rfl) (by kernel_rfl) (by kernel_rfl) ?_ ?_ ?_
  · exact ⟨by simp only [putSel, Bool.false_eq_true, if_false], fun _ => rfl, fun h => (by cases h)⟩
  · refine steps_cons ?_ ?_
    · rintro b_ a w' ⟨ha, F0, F1⟩ hb_ hon hoff
      refine ⟨_, rfl, fun K hK => ?_⟩
      have e0 : a.tmps[0]? = some (.pointer (some ⟨gl, 0, none⟩)) := by rw [ha]; exact (putSel_off rfl).trans rfl
      obtain rfl := F0 (hoff 18 (by kernel_rfl))
      refine value_ (w1 := w.drew) (v := .pointer (some ⟨gl, 0, none⟩)) (by rfl) rfl ?_ ?_
      · clear F0 F1 ha
        go_simp
      · refine hK.out _ _ ⟨?_, fun _ => rfl, fun h => F1 (by rw [← up_ne (b := b_) (i := 0) (by decide)]; exact h)⟩
        rw [ha]; exact putSel_upk 0 hb_ rfl rfl rfl
    refine steps_cons ?_ ?_
    · rintro b_ a w' ⟨ha, F0, F1⟩ hb_ hon hoff
      refine ⟨_, rfl, fun K hK => ?_⟩
      have e7 : a.tmps[7]? = some (.int .i64 e) := by rw [ha]; exact (putSel_off rfl).trans rfl
      obtain rfl := F0 (hoff 18 (by kernel_rfl))
      refine value_ (w1 := w.drew) (v := .int .i64 e) (by rfl) rfl ?_ ?_
      · clear F0 F1 ha
        go_simp
      · refine hK.out _ _ ⟨?_, fun _ => rfl, fun h => F1 (by rw [← up_ne (b := b_) (i := 1) (by decide)]; exact h)⟩
        rw [ha]; exact putSel_upk 1 hb_ rfl rfl rfl
    refine steps_cons ?_ ?_
    · rintro b_ a w' ⟨ha, F0, F1⟩ hb_ hon hoff
      refine ⟨_, rfl, fun K hK => ?_⟩
      have e6 : a.tmps[6]? = some (.int .i64 p) := by rw [ha]; exact (putSel_off rfl).trans rfl
      obtain rfl := F0 (hoff 18 (by kernel_rfl))
      refine value_ (w1 := w.drew) (v := .int .i64 p) (by rfl) rfl ?_ ?_
      · clear F0 F1 ha
        go_simp
      · refine hK.out _ _ ⟨?_, fun _ => rfl, fun h => F1 (by rw [← up_ne (b := b_) (i := 2) (by decide)]; exact h)⟩
        rw [ha]; exact putSel_upk 2 hb_ rfl rfl rfl
    refine steps_cons ?_ ?_
    · rintro b_ a w' ⟨ha, F0, F1⟩ hb_ hon hoff
      refine ⟨_, rfl, fun K hK => ?_⟩
      have e2 : a.tmps[2]? = some (.pointer (some ⟨gn, 0, none⟩)) := by rw [ha]; exact (putSel_off rfl).trans rfl
      obtain rfl := F0 (hoff 18 (by kernel_rfl))
      refine value_ (w1 := w.drew) (v := .slice (some ⟨b, off, none⟩) len cap) (by rfl) rfl ?_ ?_
      · clear F0 F1 ha
        go_simp
      · refine hK.out _ _ ⟨?_, fun _ => rfl, fun h => F1 (by rw [← up_ne (b := b_) (i := 3) (by decide)]; exact h)⟩
        rw [ha]; exact putSel_upk 3 hb_ rfl rfl rfl
    refine steps_cons ?_ ?_
    · rintro b_ a w' ⟨ha, F0, F1⟩ hb_ hon hoff
      refine ⟨_, rfl, fun K hK => ?_⟩
      have e1 : a.tmps[1]? = some (.int .i64 (i : Int)) := by rw [ha]; exact (putSel_off rfl).trans rfl
      obtain rfl := F0 (hoff 18 (by kernel_rfl))
      refine value_ (w1 := w.drew) (v := .int .i64 (i : Int)) (by rfl) rfl ?_ ?_
      · clear F0 F1 ha
        go_simp
      · refine hK.out _ _ ⟨?_, fun _ => rfl, fun h => F1 (by rw [← up_ne (b := b_) (i := 4) (by decide)]; exact h)⟩
        rw [ha]; exact putSel_upk 4 hb_ rfl rfl rfl
    refine steps_cons ?_ ?_
    · rintro b_ a w' ⟨ha, F0, F1⟩ hb_ hon hoff
      refine ⟨_, rfl, fun K hK => ?_⟩
      have e28 : a.tmps[28]? = some (.slice (some ⟨b, off, none⟩) len cap) := by rw [ha]; exact putSel_on (e := (3, 28, .slice (some ⟨b, off, none⟩) len cap)) 3 rfl rfl (hon 3 (by kernel_rfl)) rfl
      have e29 : a.tmps[29]? = some (.int .i64 (i : Int)) := by rw [ha]; exact putSel_on (e := (4, 29, .int .i64 (i : Int))) 4 rfl rfl (hon 4 (by kernel_rfl)) rfl
      obtain rfl := F0 (hoff 18 (by kernel_rfl))
      refine value_ (w1 := w.drew) (v := .pointer (some ⟨b, off + i * 3, none⟩)) (by rfl) rfl ?_ ?_
      · clear F0 F1 ha
        go_simp
      · refine hK.out _ _ ⟨?_, fun _ => rfl, fun h => F1 (by rw [← up_ne (b := b_) (i := 5) (by decide)]; exact h)⟩
        rw [ha]; exact putSel_upk 5 hb_ rfl rfl rfl
    refine steps_cons ?_ ?_
    · rintro b_ a w' ⟨ha, F0, F1⟩ hb_ hon hoff
      refine ⟨_, rfl, fun K hK => ?_⟩
      have e30 : a.tmps[30]? = some (.pointer (some ⟨b, off + i * 3, none⟩)) := by rw [ha]; exact putSel_on (e := (5, 30, .pointer (some ⟨b, off + i * 3, none⟩))) 5 rfl rfl (hon 5 (by kernel_rfl)) rfl
      obtain rfl := F0 (hoff 18 (by kernel_rfl))
      refine value_ (w1 := w.drew) (v := .pointer (some ⟨b, off + i * 3 + 2, none⟩)) (by rfl) rfl ?_ ?_
      · clear F0 F1 ha
        go_simp
      · refine hK.out _ _ ⟨?_, fun _ => rfl, fun h => F1 (by rw [← up_ne (b := b_) (i := 6) (by decide)]; exact h)⟩
        rw [ha]; exact putSel_upk 6 hb_ rfl rfl rfl
    refine steps_cons ?_ ?_
    · rintro b_ a w' ⟨ha, F0, F1⟩ hb_ hon hoff
      refine ⟨_, rfl, fun K hK => ?_⟩
      have e31 : a.tmps[31]? = some (.pointer (some ⟨b, off + i * 3 + 2, none⟩)) := by rw [ha]; exact putSel_on (e := (6, 31, .pointer (some ⟨b, off + i * 3 + 2, none⟩))) 6 rfl rfl (hon 6 (by kernel_rfl)) rfl
      obtain rfl := F0 (hoff 18 (by kernel_rfl))
      refine value_ (w1 := w.drew) (v := .int .u8 x2) (by rfl) rfl ?_ ?_
      · clear F0 F1 ha
        go_simp
      · refine hK.out _ _ ⟨?_, fun _ => rfl, fun h => F1 (by rw [← up_ne (b := b_) (i := 7) (by decide)]; exact h)⟩
        rw [ha]; exact putSel_upk 7 hb_ rfl rfl rfl
    refine steps_cons ?_ ?_
    · rintro b_ a w' ⟨ha, F0, F1⟩ hb_ hon hoff
      refine ⟨_, rfl, fun K hK => ?_⟩
      have e32 : a.tmps[32]? = some (.int .u8 x2) := by rw [ha]; exact putSel_on (e := (7, 32, .int .u8 x2)) 7 rfl rfl (hon 7 (by kernel_rfl)) rfl
      obtain rfl := F0 (hoff 18 (by kernel_rfl))
      refine value_ (w1 := w.drew) (v := .int .i64 x2) (by rfl) rfl ?_ ?_
      · clear F0 F1 ha
        go_simp
      · refine hK.out _ _ ⟨?_, fun _ => rfl, fun h => F1 (by rw [← up_ne (b := b_) (i := 8) (by decide)]; exact h)⟩
        rw [ha]; exact putSel_upk 8 hb_ rfl rfl rfl
    refine steps_cons ?_ ?_
    · rintro b_ a w' ⟨ha, F0, F1⟩ hb_ hon hoff
      refine ⟨_, rfl, fun K hK => ?_⟩
      have e33 : a.tmps[33]? = some (.int .i64 x2) := by rw [ha]; exact putSel_on (e := (8, 33, .int .i64 x2)) 8 rfl rfl (hon 8 (by kernel_rfl)) rfl
      obtain rfl := F0 (hoff 18 (by kernel_rfl))
      refine value_ (w1 := w.drew) (v := .int .i64 c) (by rfl) rfl ?_ ?_
      · clear F0 F1 ha
        go_simp
      · refine hK.out _ _ ⟨?_, fun _ => rfl, fun h => F1 (by rw [← up_ne (b := b_) (i := 9) (by decide)]; exact h)⟩
        rw [ha]; exact putSel_upk 9 hb_ rfl rfl rfl
    refine steps_cons ?_ ?_
    · rintro b_ a w' ⟨ha, F0, F1⟩ hb_ hon hoff
      refine ⟨_, rfl, fun K hK => ?_⟩
      have e2 : a.tmps[2]? = some (.pointer (some ⟨gn, 0, none⟩)) := by rw [ha]; exact (putSel_off rfl).trans rfl
      obtain rfl := F0 (hoff 18 (by kernel_rfl))
      refine value_ (w1 := w.drew) (v := .slice (some ⟨b, off, none⟩) len cap) (by rfl) rfl ?_ ?_
      · clear F0 F1 ha
        go_simp
      · refine hK.out _ _ ⟨?_, fun _ => rfl, fun h => F1 (by rw [← up_ne (b := b_) (i := 10) (by decide)]; exact h)⟩
        rw [ha]; exact putSel_upk 10 hb_ rfl rfl rfl
    refine steps_cons ?_ ?_
    · rintro b_ a w' ⟨ha, F0, F1⟩ hb_ hon hoff
      refine ⟨_, rfl, fun K hK => ?_⟩
      have e1 : a.tmps[1]? = some (.int .i64 (i : Int)) := by rw [ha]; exact (putSel_off rfl).trans rfl
      obtain rfl := F0 (hoff 18 (by kernel_rfl))
      refine value_ (w1 := w.drew) (v := .int .i64 (i : Int)) (by rfl) rfl ?_ ?_
      · clear F0 F1 ha
        go_simp
      · refine hK.out _ _ ⟨?_, fun _ => rfl, fun h => F1 (by rw [← up_ne (b := b_) (i := 11) (by decide)]; exact h)⟩
        rw [ha]; exact putSel_upk 11 hb_ rfl rfl rfl
    refine steps_cons ?_ ?_
    · rintro b_ a w' ⟨ha, F0, F1⟩ hb_ hon hoff
      refine ⟨_, rfl, fun K hK => ?_⟩
      have e35 : a.tmps[35]? = some (.slice (some ⟨b, off, none⟩) len cap) := by rw [ha]; exact putSel_on (e := (10, 35, .slice (some ⟨b, off, none⟩) len cap)) 10 rfl rfl (hon 10 (by kernel_rfl)) rfl
      have e36 : a.tmps[36]? = some (.int .i64 (i : Int)) := by rw [ha]; exact putSel_on (e := (11, 36, .int .i64 (i : Int))) 11 rfl rfl (hon 11 (by kernel_rfl)) rfl
      obtain rfl := F0 (hoff 18 (by kernel_rfl))
      refine value_ (w1 := w.drew) (v := .pointer (some ⟨b, off + i * 3, none⟩)) (by rfl) rfl ?_ ?_
      · clear F0 F1 ha
        go_simp
      · refine hK.out _ _ ⟨?_, fun _ => rfl, fun h => F1 (by rw [← up_ne (b := b_) (i := 12) (by decide)]; exact h)⟩
        rw [ha]; exact putSel_upk 12 hb_ rfl rfl rfl
    refine steps_cons ?_ ?_
    · rintro b_ a w' ⟨ha, F0, F1⟩ hb_ hon hoff
      refine ⟨_, rfl, fun K hK => ?_⟩
      have e37 : a.tmps[37]? = some (.pointer (some ⟨b, off + i * 3, none⟩)) := by rw [ha]; exact putSel_on (e := (12, 37, .pointer (some ⟨b, off + i * 3, none⟩))) 12 rfl rfl (hon 12 (by kernel_rfl)) rfl
      obtain rfl := F0 (hoff 18 (by kernel_rfl))
      refine value_ (w1 := w.drew) (v := .pointer (some ⟨b, off + i * 3 + 2, none⟩)) (by rfl) rfl ?_ ?_
      · clear F0 F1 ha
        go_simp
      · refine hK.out _ _ ⟨?_, fun _ => rfl, fun h => F1 (by rw [← up_ne (b := b_) (i := 13) (by decide)]; exact h)⟩
        rw [ha]; exact putSel_upk 13 hb_ rfl rfl rfl
    refine steps_cons ?_ ?_
    · rintro b_ a w' ⟨ha, F0, F1⟩ hb_ hon hoff
      refine ⟨_, rfl, fun K hK => ?_⟩
      have e38 : a.tmps[38]? = some (.pointer (some ⟨b, off + i * 3 + 2, none⟩)) := by rw [ha]; exact putSel_on (e := (13, 38, .pointer (some ⟨b, off + i * 3 + 2, none⟩))) 13 rfl rfl (hon 13 (by kernel_rfl)) rfl
      obtain rfl := F0 (hoff 18 (by kernel_rfl))
      refine value_ (w1 := w.drew) (v := .int .u8 x2) (by rfl) rfl ?_ ?_
      · clear F0 F1 ha
        go_simp
      · refine hK.out _ _ ⟨?_, fun _ => rfl, fun h => F1 (by rw [← up_ne (b := b_) (i := 14) (by decide)]; exact h)⟩
        rw [ha]; exact putSel_upk 14 hb_ rfl rfl rfl
    refine steps_cons ?_ ?_
    · rintro b_ a w' ⟨ha, F0, F1⟩ hb_ hon hoff
      refine ⟨_, rfl, fun K hK => ?_⟩
      have e39 : a.tmps[39]? = some (.int .u8 x2) := by rw [ha]; exact putSel_on (e := (14, 39, .int .u8 x2)) 14 rfl rfl (hon 14 (by kernel_rfl)) rfl
      obtain rfl := F0 (hoff 18 (by kernel_rfl))
      refine value_ (w1 := w.drew) (v := .int .i64 x2) (by rfl) rfl ?_ ?_
      · clear F0 F1 ha
        go_simp
      · refine hK.out _ _ ⟨?_, fun _ => rfl, fun h => F1 (by rw [← up_ne (b := b_) (i := 15) (by decide)]; exact h)⟩
        rw [ha]; exact putSel_upk 15 hb_ rfl rfl rfl
    refine steps_cons ?_ ?_
    · rintro b_ a w' ⟨ha, F0, F1⟩ hb_ hon hoff
      refine ⟨_, rfl, fun K hK => ?_⟩
      have e40 : a.tmps[40]? = some (.int .i64 x2) := by rw [ha]; exact putSel_on (e := (15, 40, .int .i64 x2)) 15 rfl rfl (hon 15 (by kernel_rfl)) rfl
      obtain rfl := F0 (hoff 18 (by kernel_rfl))
      refine value_ (w1 := w.drew) (v := .int .i64 g) (by rfl) rfl ?_ ?_
      · clear F0 F1 ha
        go_simp
      · refine hK.out _ _ ⟨?_, fun _ => rfl, fun h => F1 (by rw [← up_ne (b := b_) (i := 16) (by decide)]; exact h)⟩
        rw [ha]; exact putSel_upk 16 hb_ rfl rfl rfl
    refine steps_cons ?_ ?_
    · rintro b_ a w' ⟨ha, F0, F1⟩ hb_ hon hoff
      refine ⟨_, rfl, fun K hK => ?_⟩
      have e41 : a.tmps[41]? = some (.int .i64 g) := by rw [ha]; exact putSel_on (e := (16, 41, .int .i64 g)) 16 rfl rfl (hon 16 (by kernel_rfl)) rfl
      obtain rfl := F0 (hoff 18 (by kernel_rfl))
      refine value_ (w1 := w.drew) (v := .agg #[.int .i64 g, .int .i64 1]) (by rfl) rfl ?_ ?_
      · clear F0 F1 ha
        go_simp
      · refine hK.out _ _ ⟨?_, fun _ => rfl, fun h => F1 (by rw [← up_ne (b := b_) (i := 17) (by decide)]; exact h)⟩
        rw [ha]; exact putSel_upk 17 hb_ rfl rfl rfl
    refine steps_cons ?_ ?_
    · rintro b_ a w' ⟨ha, F0, F1⟩ hb_ hon hoff
      refine ⟨_, rfl, fun K hK => ?_⟩
      have e25 : a.tmps[25]? = some (.pointer (some ⟨gl, 0, none⟩)) := by rw [ha]; exact putSel_on (e := (0, 25, .pointer (some ⟨gl, 0, none⟩))) 0 rfl rfl (hon 0 (by kernel_rfl)) rfl
      have e26 : a.tmps[26]? = some (.int .i64 e) := by rw [ha]; exact putSel_on (e := (1, 26, .int .i64 e)) 1 rfl rfl (hon 1 (by kernel_rfl)) rfl
      have e27 : a.tmps[27]? = some (.int .i64 p) := by rw [ha]; exact putSel_on (e := (2, 27, .int .i64 p)) 2 rfl rfl (hon 2 (by kernel_rfl)) rfl
      have e34 : a.tmps[34]? = some (.int .i64 c) := by rw [ha]; exact putSel_on (e := (9, 34, .int .i64 c)) 9 rfl rfl (hon 9 (by kernel_rfl)) rfl
      have e42 : a.tmps[42]? = some (.agg #[.int .i64 g, .int .i64 1]) := by rw [ha]; exact putSel_on (e := (17, 42, .agg #[.int .i64 g, .int .i64 1])) 17 rfl rfl (hon 17 (by kernel_rfl)) rfl
      obtain rfl := F0 hb_
      refine goes_ Try.func12 (by kernel_rfl) rfl #[.pointer (some ⟨gl, 0, none⟩), .int .i64 e, .int .i64 p, .int .i64 0, .int .i64 c, .agg #[.int .i64 g, .int .i64 1]] (by rfl) rfl rfl (by simp [Act.eval, e25, e26, e27, e34, e42]) ?_
      refine (SE.out w.drew (HL.out.below (below_drew (Below.refl _ _)))).out.mono ?_
      rintro e_ w'' ⟨rfl, hl, hc⟩
      refine ⟨_, rfl, hK.out _ _ ⟨?_, fun h => absurd ((up_self b_ 18).symm.trans h) (by decide), fun _ => ⟨hl, Chg.trans (Chg.of_below (below_drew (Below.refl _ w))) hc (fun _ _ h => h)⟩⟩⟩
      rw [ha]; exact putSel_upk 18 hb_ rfl rfl rfl
    refine steps_cons ?_ ?_
    · rintro b_ a w' ⟨ha, F0, F1⟩ hb_ hon hoff
      refine ⟨_, rfl, fun K hK => ?_⟩
      have e43 : a.tmps[43]? = some (.int .i64 0) := by rw [ha]; exact putSel_on (e := (18, 43, .int .i64 0)) 18 rfl rfl (hon 18 (by kernel_rfl)) rfl
      refine value_ (w1 := w') (v := .bool true) (by rfl) rfl ?_ ?_
      · clear F0 F1 ha
        go_simp
      · refine hK.out _ _ ⟨?_, fun h => F0 (by rw [← up_ne (b := b_) (i := 19) (by decide)]; exact h), fun h => F1 (by rw [← up_ne (b := b_) (i := 19) (by decide)]; exact h)⟩
        rw [ha]; exact putSel_upk 19 hb_ rfl rfl rfl
    refine steps_cons ?_ ?_
    · rintro b_ a w' ⟨ha, F0, F1⟩ hb_ hon hoff
      refine ⟨_, rfl, fun K hK => ?_⟩
      have e44 : a.tmps[44]? = some (.bool true) := by rw [ha]; exact putSel_on (e := (19, 44, .bool true)) 19 rfl rfl (hon 19 (by kernel_rfl)) rfl
      refine value_ (w1 := w') (v := .bool true) (by rfl) rfl ?_ ?_
      · clear F0 F1 ha
        go_simp
      · refine hK.out _ _ ⟨?_, fun h => F0 (by rw [← up_ne (b := b_) (i := 20) (by decide)]; exact h), fun h => F1 (by rw [← up_ne (b := b_) (i := 20) (by decide)]; exact h)⟩
        rw [ha]; exact putSel_upk 20 hb_ rfl rfl rfl
    exact steps_nil
  · rintro b_ a w' hall ⟨ha, F0, F1⟩
    have hb0_ := hall 0 (by kernel_rfl)
    have hb1_ := hall 1 (by kernel_rfl)
    have hb2_ := hall 2 (by kernel_rfl)
    have hb3_ := hall 3 (by kernel_rfl)
    have hb4_ := hall 4 (by kernel_rfl)
    have hb5_ := hall 5 (by kernel_rfl)
    have hb6_ := hall 6 (by kernel_rfl)
    have hb7_ := hall 7 (by kernel_rfl)
    have hb8_ := hall 8 (by kernel_rfl)
    have hb9_ := hall 9 (by kernel_rfl)
    have hb10_ := hall 10 (by kernel_rfl)
    have hb11_ := hall 11 (by kernel_rfl)
    have hb12_ := hall 12 (by kernel_rfl)
    have hb13_ := hall 13 (by kernel_rfl)
    have hb14_ := hall 14 (by kernel_rfl)
    have hb15_ := hall 15 (by kernel_rfl)
    have hb16_ := hall 16 (by kernel_rfl)
    have hb17_ := hall 17 (by kernel_rfl)
    have hb18_ := hall 18 (by kernel_rfl)
    have hb19_ := hall 19 (by kernel_rfl)
    have hb20_ := hall 20 (by kernel_rfl)
    subst ha
    simp only [putSel, hb0_, hb1_, hb2_, hb3_, hb4_, hb5_, hb6_, hb7_, hb8_, hb9_, hb10_, hb11_, hb12_, hb13_, hb14_, hb15_, hb16_, hb17_, hb18_, hb19_, hb20_, if_true, Act.put, List.setIfInBounds_toArray, List.set_cons_zero, List.set_cons_succ]
    have HF := Side.mk (F1 hb18_)
    clear F0 F1 hall hb0_ hb1_ hb2_ hb3_ hb4_ hb5_ hb6_ hb7_ hb8_ hb9_ hb10_ hb11_ hb12_ hb13_ hb14_ hb15_ hb16_ hb17_ hb18_ hb19_ hb20_
    refine ‹∀ (a : Act) (w : World), Code.wp Try.prog _ _ a w → _› _ _ ?_
    go_wp2
    go_ret
    exact ⟨rfl, HF.out⟩
end Go.Proofs.Ytiemhmaijiifkaa.LaG

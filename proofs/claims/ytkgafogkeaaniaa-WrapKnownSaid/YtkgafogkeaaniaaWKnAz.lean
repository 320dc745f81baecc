/- Package wrap: the law's look at the document's example; the values by hand. No condition. -/
import Derived.Test.YtkgafogkeaaniaaWlKz
import Derived.Test.YtkgafogkeaaniaaPWx8z
import Derived.Test.YtkgafogkeaaniaaPWx9z
set_option linter.unusedVariables false
set_option linter.unusedSimpArgs false
namespace Go.Proofs.Ytkgafogkeaaniaa.WKnA
open Go.RowKit Go.Proofs.Ytkgafogkeaaniaa.Kit Go.Proofs.Ytkgafogkeaaniaa.Kit3 Go.Proofs.Ytkgafogkeaaniaa.Kit4 Go.Proofs.Ytkgafogkeaaniaa.Kit5 Go.Proofs.Ytkgafogkeaaniaa.WlA Go.Proofs.Ytkgafogkeaaniaa.WlB Go.Proofs.Ytkgafogkeaaniaa.WlC Go.Proofs.Ytkgafogkeaaniaa.WlD Go.Proofs.Ytkgafogkeaaniaa.WlK
open Go.Proofs.Ytkgafogkeaaniaa.PW
open Go.Proofs.YtkgafogkeaaniaaW.PrintLast
open Go.Proofs.YtkgafogkeaaniaaW.PrintWords hiding below_then below_alloc below_drew
theorem PRow.get {w : World} {B : Nat} {v : Value} {ms : List S41} (h : PRow w B v ms) (hne : ms ≠ []) : ∃ g cap, v = .slice (some ⟨g, 0, none⟩) ms.length cap ∧ g < w.heap.size ∧ ∀ j x, ms[j]? = some x → ∀ r u, (pcl x)[r]? = some u → w.cell? ⟨g, j * 8 + r, none⟩ = some u := by
  rcases h.read E8 with ⟨rfl, rfl⟩ | ⟨g, cap, rfl, hB, hg, hn, hm, _, hr⟩
  · exact absurd rfl hne
  · exact ⟨g, cap, rfl, hg, hr⟩
set_option maxHeartbeats 40000000 in
set_option maxRecDepth 100000 in
theorem AwakeC (w : World) : Side (Calls Try.prog 9 #[] w fun r w' => r = .returned (.bool true) ∧ Below w.heap.size w w') := by
  refine ⟨?_⟩
  go_enter Try.func9, Try.ntmps9
  go_upto_region 2 with (fail)
  have BX := heap_alloc_new w (.cells #[.int .i64 2, .int .i64 3] 37)
  have HB : Side (Below w.heap.size w (w.alloc (.cells #[.int .i64 2, .int .i64 3] 37))) := ⟨(Below.refl _ w).alloc (Nat.le_refl _) _⟩
  generalize w.alloc (.cells #[.int .i64 2, .int .i64 3] 37) = w1 at *
  obtain ⟨g, hg⟩ : ∃ g, g = w.heap.size := ⟨_, rfl⟩
  rw [← hg] at BX ⊢
  clear hg
  have r0 := rat0 BX
  have r1 := rat1 BX
  have hgl := lt_of BX
  go_wp2_with fail
  have hb2 := (Below.refl w1.heap.size w1).alloc (Nat.le_refl _) (.cells #[.int .i64 1, .int .i64 2, .int .i64 3, .bool false, .int .i64 2, .int .i64 2, .int .i64 3, .bool false, .int .i64 3, .int .i64 2, .int .i64 3, .bool false] 49)
  refine (LayC (l := [⟨1, ⟨2, 3⟩, false⟩, ⟨2, ⟨2, 3⟩, false⟩, ⟨3, ⟨2, 3⟩, false⟩]) (shares_at (heap_alloc_new w1 _) rfl (by decide)) (Nat.le_refl _) aw).mono ?_
  rintro e w2 ⟨v, rfl, hrow, hb3⟩
  obtain ⟨gp, cap, rfl, hgp, hcell⟩ := PRow.get hrow (by simp)
  have c12 := hcell 1 _ rfl 2 _ rfl
  have c11 := hcell 1 _ rfl 1 _ rfl
  have c22 := hcell 2 _ rfl 2 _ rfl
  have c21 := hcell 2 _ rfl 1 _ rfl
  have c25 := hcell 2 _ rfl 5 _ rfl
  have c26 := hcell 2 _ rfl 6 _ rfl
  have HF : Side (Below w.heap.size w w2) := ⟨below_then HB.out HB.out.size (below_then hb2 hb2.size hb3)⟩
  simp only [Nat.reduceMul, Nat.reduceAdd] at c12 c11 c22 c21 c25 c26
  clear hrow hcell hb2 hb3 HB r0 r1 hgl BX
  go_wp2
  go_ret
  exact ⟨rfl, HF.out⟩
set_option maxRecDepth 100000 in
theorem AtC (n d : Int) (w : World) : Side (Calls Try.prog 21 #[.int .i64 n, .int .i64 d] w fun r w' => r = .returned (.agg #[.int .i64 n, .int .i64 d]) ∧ Below w.heap.size w w') := by
  refine ⟨?_⟩
  go_enter Try.func21, Try.ntmps21
  go_wp2
  exact bodyPost_ret (v := .agg #[.int .i64 n, .int .i64 d]) (by simp [results, Try.results21, go_sem]) rfl ⟨rfl, by (repeat (with_reducible first | exact Below.refl _ _ | apply below_drewN | apply below_drew | apply below_alloc | refine Below.setCell ?_ ?_ _)) <;> simp⟩
abbrev A1 : List S41 := [⟨3, 0, 1, ⟨5, 1⟩, ⟨11, 2⟩, false⟩, ⟨3, 0, 2, ⟨11, 2⟩, ⟨7, 1⟩, true⟩, ⟨3, 1, 2, ⟨5, 1⟩, ⟨11, 2⟩, true⟩, ⟨3, 1, 4, ⟨11, 2⟩, ⟨7, 1⟩, false⟩]
abbrev CL : List S41 := [⟨3, 0, 2, ⟨6, 1⟩, ⟨7, 1⟩, true⟩, ⟨3, 1, 4, ⟨6, 1⟩, ⟨7, 1⟩, false⟩]
set_option maxRecDepth 100000 in
theorem k1 : layF 300 50 [⟨1, ⟨1, 2⟩, false⟩, ⟨2, ⟨2, 1⟩, true⟩, ⟨3, ⟨0, 1⟩, false⟩, ⟨4, ⟨3, 2⟩, false⟩] 5 7 2 = some (A1, 0) := by kernel_rfl
set_option maxRecDepth 100000 in
theorem k2 : layF 300 50 [⟨0, ⟨5, 2⟩, false⟩] 5 7 2 = some ([], 2) := by kernel_rfl
set_option maxRecDepth 100000 in
theorem k3 : layF 300 50 [⟨0, ⟨-1, 2⟩, false⟩] 5 7 2 = some ([], 2) := by kernel_rfl
set_option maxRecDepth 100000 in
theorem k4 : layF 300 50 [⟨0, ⟨2, 4⟩, false⟩] 5 7 2 = some ([], 2) := by kernel_rfl
set_option maxRecDepth 100000 in
theorem k5 : layF 300 50 [⟨0, ⟨2, 1⟩, false⟩, ⟨0, ⟨1, 3⟩, false⟩] 5 7 1 = some ([], 6) := by kernel_rfl
set_option maxRecDepth 100000 in
theorem k6 : layF 300 50 [] 7 7 1 = some ([], 2) := by kernel_rfl
set_option maxRecDepth 100000 in
theorem k7 : layF 300 50 [] 5 7 0 = some ([], 2) := by kernel_rfl
set_option maxRecDepth 100000 in
theorem k8 : layF 300 50 [] 5 7 64 = some ([], 0) := by kernel_rfl
set_option maxRecDepth 100000 in
theorem k9 : wrap_Clip.f 300 A1 6 7 = some CL := by kernel_rfl
set_option maxRecDepth 100000 in
theorem k10 : wrap_Clip.f 300 A1 6 6 = some [] := by kernel_rfl
set_option maxRecDepth 100000 in
theorem k11 : evenhandedref23_SamePieces.f 300 A1 A1 = some true := by kernel_rfl
end Go.Proofs.Ytkgafogkeaaniaa.WKnA

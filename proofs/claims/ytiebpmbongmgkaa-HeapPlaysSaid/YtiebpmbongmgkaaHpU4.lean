/- Package heap: the walk of HeapPlays. No condition. -/
import Derived.Test.YtiebpmbongmgkaaHpUp
import Derived.Test.YtiebpmbongmgkaaHpS
import Derived.Test.YtiebpmbongmgkaaHpT
import Derived.Test.YtiebpmbongmgkaaHpR
set_option linter.unusedVariables false
set_option linter.unusedSimpArgs false
namespace Go.Proofs.Ytiebpmbongmgkaa.HpU4
open Go.RowKit Go.Proofs.Ytiebpmbongmgkaa.Kit Go.Proofs.Ytiebpmbongmgkaa.Kit2 Go.Proofs.Ytiebpmbongmgkaa.Kit3 Go.Proofs.Ytiebpmbongmgkaa.Kit4 Go.Proofs.Ytiebpmbongmgkaa.Kit5 HpPlain Go.Maps Go.Proofs.Ytiebpmbongmgkaa.HpA Go.Proofs.Ytiebpmbongmgkaa.HpB Go.Proofs.Ytiebpmbongmgkaa.HpE Go.Proofs.Ytiebpmbongmgkaa.HpG Go.Proofs.Ytiebpmbongmgkaa.HpI Go.Proofs.Ytiebpmbongmgkaa.HpK Go.Proofs.Ytiebpmbongmgkaa.HpL Go.Proofs.Ytiebpmbongmgkaa.HpN Go.Proofs.Ytiebpmbongmgkaa.HpO Go.Proofs.Ytiebpmbongmgkaa.HpP Go.Proofs.Ytiebpmbongmgkaa.HpT Go.Proofs.Ytiebpmbongmgkaa.HpR
open Go.Proofs.YtiebpmbongmgkaaW.PrintLast
set_option maxHeartbeats 400000000 in
set_option maxRecDepth 100000 in
theorem piece : HpUp.part.2.2.2.1 := by
  set_option tactic.hygienic false in (intro _; intros)
  have HT := Side.mk ht
  have HDR := Side.mk hm
  clear ht hm HTOP HAT b0
  go_upto_region 38 with (fail)
  go_wp2_with fail
  refine (Top_st (HA.out.pl.st.below' (by (repeat (with_reducible first | exact Below.refl _ _ | apply below_drewN | apply below_drew | apply below_alloc)))) hml HpPlain.z false HT.out).mono ?_
  rintro e w2 ⟨rfl, s2, hb2⟩
  have A2 : Side (Pb w gh kind (.slice a6 ms.length c6) ms p8 y w2) := ⟨(HA.out.below (by (repeat (with_reducible first | exact Below.refl _ _ | apply below_drewN | apply below_drew | apply below_alloc)))).below hb2⟩
  clear s2 hb2 HA hpl
  go_upto_region 39 with (fail)
  obtain ⟨p, hp⟩ : ∃ p, p = w2.heap.size := ⟨_, rfl⟩
  obtain ⟨W7, hW7⟩ : ∃ W7, W7 = w2.alloc (.cells #[.int .i64 HpPlain.z.2.1, .int .i64 HpPlain.z.2.2.1, .int .i64 HpPlain.z.2.2.2.1, .int .i64 HpPlain.z.2.2.2.2] 32) := ⟨_, rfl⟩
  rw [← hW7, ← hp]
  have hb7 : Below w2.heap.size w2 W7 := by rw [hW7]; exact (Below.refl _ _).alloc (Nat.le_refl _) _
  have A7 := Side.mk (A2.out.below hb7)
  have V7 : Side (Val W7 32 p [.int .i64 HpPlain.z.2.1, .int .i64 HpPlain.z.2.2.1, .int .i64 HpPlain.z.2.2.2.1, .int .i64 HpPlain.z.2.2.2.2]) := ⟨⟨_, rfl, by rw [hW7, hp]; exact heap_alloc_new w2 _⟩⟩
  have HPB : Side (w.heap.size ≤ p ∧ ∀ k, (Value.slice a6 ms.length c6).ownBlock = some k → k ≠ p) := ⟨by rw [hp]; exact A2.out.pl.st.below.size, fun k hk => by have := A2.out.pl.row.lt k hk; omega⟩
  clear hW7 hp hb7 A2
  have b0 := A7.out.bx.cell 0 _ rfl
  rw [HDD.out] at b0
  have hpl := A7.out.bx.lt
  go_upto_region 42 with (fail)
  have HS9 : Side (St w W7 (fun _ => False) gh kind (its (rem ms (-1)))) := ⟨A7.out.pl.st⟩
  have HR9 := Side.mk A7.out.pl.row
  have HV9 := V7
  clear A7 V7 HPB b0 hpl HDR HT
  have k0 := HV9.out.cell 0 _ rfl
  have k1 := HV9.out.cell 1 _ rfl
  have k2 := HV9.out.cell 2 _ rfl
  have k3 := HV9.out.cell 3 _ rfl
  have hkl := HV9.out.lt
  have k0 : W7.cell? ⟨p, 0, none⟩ = some (.int .i64 0) := k0
  have k1 : W7.cell? ⟨p, 1, none⟩ = some (.int .i64 0) := k1
  have k2 : W7.cell? ⟨p, 2, none⟩ = some (.int .i64 0) := k2
  have k3 : W7.cell? ⟨p, 3, none⟩ = some (.int .i64 0) := k3
  refine start_ (n := 40) (S := fun w' => True) (ds := []) #[false, false, false, false, false, false, false, false, false, false, false, false, false, false, false, false, false, false, false, false, false, false, false, false, false, false, false, false, false, false, false, false, false, false, false, false, false, false, false, false] (by kernel_rfl) rfl rfl trivial (fun _ => ?_)
  refine inv_at (B := [0, 0, 2, 7, 15, 31, 63, 127, 127, 127, 895, 1919, 3967, 8191, 16383, 32767, 32767, 32767, 229375, 491519, 1015807, 2064383, 4194303, 8388607, 16777215, 33554431, 67108863, 134217727, 268435455, 536870911, 1073741823, 2147483647, 4294967295, 8589934591, 8589934591, 25769803775, 68719476735, 137438953471, 274877906943, 549755813887]) [0, 1, 2, 3, 4, 5, 6, 7, 8, 9, 10, 11, 12, 13, 14, 15, 16, 17, 18, 19, 20, 21, 22, 23, 24, 25, 26, 27, 28, 29, 30, 31, 32, 33, 34, 35, 36, 37, 38, 39] (fun a0_ b a w' => a = putSel a0_ b [(0, 123, .bool false), (1, 124, .int .i64 (-1)), (2, 125, .bool false), (3, 126, .bool false), (4, 127, .bool false), (5, 128, .bool false), (6, 129, .bool false), (7, 130, undef), (8, 131, undef), (9, 132, undef), (10, 133, undef), (11, 134, undef), (12, 135, undef), (13, 136, undef), (14, 137, undef), (15, 138, undef), (16, 139, undef), (17, 140, undef), (18, 141, undef), (19, 142, undef), (20, 143, undef), (21, 144, undef), (22, 145, undef), (23, 146, undef), (24, 147, .bool false), (25, 148, .bool false), (26, 149, .bool false), (27, 150, .bool false), (28, 151, .bool true), (29, 152, .bool true), (30, 153, .int .i64 0), (31, 154, .bool false), (32, 155, .bool false), (33, 156, .agg #[.int .i64 0, .int .i64 0, .int .i64 0, .int .i64 0]), (34, 157, .agg #[.int .i64 0, .int .i64 0, .int .i64 0, .int .i64 0]), (35, 158, .agg #[.int .i64 0, .int .i64 0, .int .i64 0, .int .i64 0]), (36, 159, .bool false), (37, 160, .bool false), (38, 161, .bool false), (39, 162, .bool false)] ∧ Below W7.drew.heap.size W7.drew w') rfl (by kernel_rfl) (by kernel_rfl) (by kernel_rfl) ?_ ?_ ?_
  · exact ⟨by simp only [putSel, Bool.false_eq_true, if_false], Below.refl _ _⟩
  · refine steps_cons (by rintro b a w' ⟨ha, HI⟩ hb hon hoff; refine ⟨_, rfl, fun K hK => ?_⟩; have e16 := poff ha (t := 16) rfl rfl; exact value_ (v := .bool false) (by rfl) rfl (by clear HI ha; go_simp) (hK.out _ _ ⟨upk ha 0 hb rfl rfl, HI⟩)) ?_
    refine steps_cons (by rintro b a w' ⟨ha, HI⟩ hb hon hoff; refine ⟨_, rfl, fun K hK => ?_⟩; have e10 := poff ha (t := 10) rfl rfl; exact value_ (v := .int .i64 (-1)) (by rfl) rfl (by clear HI ha; go_simp) (hK.out _ _ ⟨upk ha 1 hb rfl rfl, HI⟩)) ?_
    refine steps_cons (by rintro b a w' ⟨ha, HI⟩ hb hon hoff; refine ⟨_, rfl, fun K hK => ?_⟩; have e124 := pon ha 1 (hon 1 rfl) rfl rfl rfl; exact value_ (v := .bool false) (by rfl) rfl (by clear HI ha; go_simp) (hK.out _ _ ⟨upk ha 2 hb rfl rfl, HI⟩)) ?_
    refine steps_cons (by rintro b a w' ⟨ha, HI⟩ hb hon hoff; refine ⟨_, rfl, fun K hK => ?_⟩; have e123 := pon ha 0 (hon 0 rfl) rfl rfl rfl; have e125 := pon ha 2 (hon 2 rfl) rfl rfl rfl; exact value_ (v := .bool false) (by rfl) rfl (by clear HI ha; go_simp) (hK.out _ _ ⟨upk ha 3 hb rfl rfl, HI⟩)) ?_
    refine steps_cons (by rintro b a w' ⟨ha, HI⟩ hb hon hoff; refine ⟨_, rfl, fun K hK => ?_⟩; have e126 := pon ha 3 (hon 3 rfl) rfl rfl rfl; exact value_ (v := .bool false) (by rfl) rfl (by clear HI ha; go_simp) (hK.out _ _ ⟨upk ha 4 hb rfl rfl, HI⟩)) ?_
    refine steps_cons (by rintro b a w' ⟨ha, HI⟩ hb hon hoff; refine ⟨_, rfl, fun K hK => ?_⟩; have e16 := poff ha (t := 16) rfl rfl; have e127 := pon ha 4 (hon 4 rfl) rfl rfl rfl; exact value_ (v := .bool false) (wanted_on (t := 127) (u := false) rfl rfl rfl e127) rfl (by clear HI ha; go_simp) (hK.out _ _ ⟨upk ha 5 hb rfl rfl, HI⟩)) ?_
    refine steps_cons (by rintro b a w' ⟨ha, HI⟩ hb hon hoff; refine ⟨_, rfl, fun K hK => ?_⟩; have e128 := pon ha 5 (hon 5 rfl) rfl rfl rfl; have e127 := pon ha 4 (hon 4 rfl) rfl rfl rfl; exact value_ (v := .bool false) (wanted_on (t := 127) (u := false) rfl rfl rfl e127) rfl (by clear HI ha; go_simp) (hK.out _ _ ⟨upk ha 6 hb rfl rfl, HI⟩)) ?_
    refine steps_cons (by rintro b a w' ⟨ha, HI⟩ hb hon hoff; refine ⟨_, rfl, fun K hK => ?_⟩; have e14 := poff ha (t := 14) rfl rfl; have e129 := pon ha 6 (hon 6 rfl) rfl rfl rfl; exact off_ (wanted_off (t := 129) (u := true) rfl rfl rfl e129) (hK.out _ _ ⟨upk ha 7 hb rfl rfl, HI⟩)) ?_
    refine steps_cons (by rintro b a w' ⟨ha, HI⟩ hb hon hoff; refine ⟨_, rfl, fun K hK => ?_⟩; have e6 := poff ha (t := 6) rfl rfl; have e129 := pon ha 6 (hon 6 rfl) rfl rfl rfl; exact off_ (wanted_off (t := 129) (u := true) rfl rfl rfl e129) (hK.out _ _ ⟨upk ha 8 hb rfl rfl, HI⟩)) ?_
    refine steps_cons (by rintro b a w' ⟨ha, HI⟩ hb hon hoff; refine ⟨_, rfl, fun K hK => ?_⟩; have e10 := poff ha (t := 10) rfl rfl; have e129 := pon ha 6 (hon 6 rfl) rfl rfl rfl; exact off_ (wanted_off (t := 129) (u := true) rfl rfl rfl e129) (hK.out _ _ ⟨upk ha 9 hb rfl rfl, HI⟩)) ?_
    refine steps_cons (by rintro b a w' ⟨ha, HI⟩ hb hon hoff; refine ⟨_, rfl, fun K hK => ?_⟩; have e131 := pon ha 8 (hon 8 rfl) rfl rfl rfl; have e132 := pon ha 9 (hon 9 rfl) rfl rfl rfl; have e129 := pon ha 6 (hon 6 rfl) rfl rfl rfl; exact off_ (wanted_off (t := 129) (u := true) rfl rfl rfl e129) (hK.out _ _ ⟨upk ha 10 hb rfl rfl, HI⟩)) ?_
    refine steps_cons (by rintro b a w' ⟨ha, HI⟩ hb hon hoff; refine ⟨_, rfl, fun K hK => ?_⟩; have e133 := pon ha 10 (hon 10 rfl) rfl rfl rfl; have e129 := pon ha 6 (hon 6 rfl) rfl rfl rfl; exact off_ (wanted_off (t := 129) (u := true) rfl rfl rfl e129) (hK.out _ _ ⟨upk ha 11 hb rfl rfl, HI⟩)) ?_
    refine steps_cons (by rintro b a w' ⟨ha, HI⟩ hb hon hoff; refine ⟨_, rfl, fun K hK => ?_⟩; have e134 := pon ha 11 (hon 11 rfl) rfl rfl rfl; have e129 := pon ha 6 (hon 6 rfl) rfl rfl rfl; exact off_ (wanted_off (t := 129) (u := true) rfl rfl rfl e129) (hK.out _ _ ⟨upk ha 12 hb rfl rfl, HI⟩)) ?_
    refine steps_cons (by rintro b a w' ⟨ha, HI⟩ hb hon hoff; refine ⟨_, rfl, fun K hK => ?_⟩; have e130 := pon ha 7 (hon 7 rfl) rfl rfl rfl; have e135 := pon ha 12 (hon 12 rfl) rfl rfl rfl; have e129 := pon ha 6 (hon 6 rfl) rfl rfl rfl; exact off_ (wanted_off (t := 129) (u := true) rfl rfl rfl e129) (hK.out _ _ ⟨upk ha 13 hb rfl rfl, HI⟩)) ?_
    refine steps_cons (by rintro b a w' ⟨ha, HI⟩ hb hon hoff; refine ⟨_, rfl, fun K hK => ?_⟩; have e136 := pon ha 13 (hon 13 rfl) rfl rfl rfl; have e129 := pon ha 6 (hon 6 rfl) rfl rfl rfl; exact off_ (wanted_off (t := 129) (u := true) rfl rfl rfl e129) (hK.out _ _ ⟨upk ha 14 hb rfl rfl, HI⟩)) ?_
    refine steps_cons (by rintro b a w' ⟨ha, HI⟩ hb hon hoff; refine ⟨_, rfl, fun K hK => ?_⟩; have e15 := poff ha (t := 15) rfl rfl; have e137 := pon ha 14 (hon 14 rfl) rfl rfl rfl; exact off_ (wanted_none (t := 137) (u := false) rfl rfl rfl e137) (hK.out _ _ ⟨upk ha 15 hb rfl rfl, HI⟩)) ?_
    refine steps_cons (by rintro b a w' ⟨ha, HI⟩ hb hon hoff; refine ⟨_, rfl, fun K hK => ?_⟩; have e6 := poff ha (t := 6) rfl rfl; have e137 := pon ha 14 (hon 14 rfl) rfl rfl rfl; exact off_ (wanted_none (t := 137) (u := false) rfl rfl rfl e137) (hK.out _ _ ⟨upk ha 16 hb rfl rfl, HI⟩)) ?_
    refine steps_cons (by rintro b a w' ⟨ha, HI⟩ hb hon hoff; refine ⟨_, rfl, fun K hK => ?_⟩; have e10 := poff ha (t := 10) rfl rfl; have e137 := pon ha 14 (hon 14 rfl) rfl rfl rfl; exact off_ (wanted_none (t := 137) (u := false) rfl rfl rfl e137) (hK.out _ _ ⟨upk ha 17 hb rfl rfl, HI⟩)) ?_
    refine steps_cons (by rintro b a w' ⟨ha, HI⟩ hb hon hoff; refine ⟨_, rfl, fun K hK => ?_⟩; have e139 := pon ha 16 (hon 16 rfl) rfl rfl rfl; have e140 := pon ha 17 (hon 17 rfl) rfl rfl rfl; have e137 := pon ha 14 (hon 14 rfl) rfl rfl rfl; exact off_ (wanted_none (t := 137) (u := false) rfl rfl rfl e137) (hK.out _ _ ⟨upk ha 18 hb rfl rfl, HI⟩)) ?_
    refine steps_cons (by rintro b a w' ⟨ha, HI⟩ hb hon hoff; refine ⟨_, rfl, fun K hK => ?_⟩; have e141 := pon ha 18 (hon 18 rfl) rfl rfl rfl; have e137 := pon ha 14 (hon 14 rfl) rfl rfl rfl; exact off_ (wanted_none (t := 137) (u := false) rfl rfl rfl e137) (hK.out _ _ ⟨upk ha 19 hb rfl rfl, HI⟩)) ?_
    refine steps_cons (by rintro b a w' ⟨ha, HI⟩ hb hon hoff; refine ⟨_, rfl, fun K hK => ?_⟩; have e142 := pon ha 19 (hon 19 rfl) rfl rfl rfl; have e137 := pon ha 14 (hon 14 rfl) rfl rfl rfl; exact off_ (wanted_none (t := 137) (u := false) rfl rfl rfl e137) (hK.out _ _ ⟨upk ha 20 hb rfl rfl, HI⟩)) ?_
    refine steps_cons (by rintro b a w' ⟨ha, HI⟩ hb hon hoff; refine ⟨_, rfl, fun K hK => ?_⟩; have e143 := pon ha 20 (hon 20 rfl) rfl rfl rfl; have e137 := pon ha 14 (hon 14 rfl) rfl rfl rfl; exact off_ (wanted_none (t := 137) (u := false) rfl rfl rfl e137) (hK.out _ _ ⟨upk ha 21 hb rfl rfl, HI⟩)) ?_
    refine steps_cons (by rintro b a w' ⟨ha, HI⟩ hb hon hoff; refine ⟨_, rfl, fun K hK => ?_⟩; have e138 := pon ha 15 (hon 15 rfl) rfl rfl rfl; have e144 := pon ha 21 (hon 21 rfl) rfl rfl rfl; have e137 := pon ha 14 (hon 14 rfl) rfl rfl rfl; exact off_ (wanted_none (t := 137) (u := false) rfl rfl rfl e137) (hK.out _ _ ⟨upk ha 22 hb rfl rfl, HI⟩)) ?_
    refine steps_cons (by rintro b a w' ⟨ha, HI⟩ hb hon hoff; refine ⟨_, rfl, fun K hK => ?_⟩; have e137 := pon ha 14 (hon 14 rfl) rfl rfl rfl; have e145 := pon ha 22 (hon 22 rfl) rfl rfl rfl; have e129 := pon ha 6 (hon 6 rfl) rfl rfl rfl; exact off_ (wanted_off (t := 129) (u := true) rfl rfl rfl e129) (hK.out _ _ ⟨upk ha 23 hb rfl rfl, HI⟩)) ?_
    refine steps_cons (by rintro b a w' ⟨ha, HI⟩ hb hon hoff; refine ⟨_, rfl, fun K hK => ?_⟩; have e129 := pon ha 6 (hon 6 rfl) rfl rfl rfl; have e146 := pon ha 23 (hon 23 rfl) rfl rfl rfl; have e127 := pon ha 4 (hon 4 rfl) rfl rfl rfl; exact value_ (v := .bool false) (wanted_on (t := 127) (u := false) rfl rfl rfl e127) rfl (by clear HI ha; go_simp) (hK.out _ _ ⟨upk ha 24 hb rfl rfl, HI⟩)) ?_
    refine steps_cons (by rintro b a w' ⟨ha, HI⟩ hb hon hoff; refine ⟨_, rfl, fun K hK => ?_⟩; have e127 := pon ha 4 (hon 4 rfl) rfl rfl rfl; have e147 := pon ha 24 (hon 24 rfl) rfl rfl rfl; exact value_ (v := .bool false) (by rfl) rfl (by clear HI ha; go_simp) (hK.out _ _ ⟨upk ha 25 hb rfl rfl, HI⟩)) ?_
    refine steps_cons (by rintro b a w' ⟨ha, HI⟩ hb hon hoff; refine ⟨_, rfl, fun K hK => ?_⟩; have e148 := pon ha 25 (hon 25 rfl) rfl rfl rfl; exact value_ (v := .bool false) (by rfl) rfl (by clear HI ha; go_simp) (hK.out _ _ ⟨upk ha 26 hb rfl rfl, HI⟩)) ?_
    refine steps_cons (by rintro b a w' ⟨ha, HI⟩ hb hon hoff; refine ⟨_, rfl, fun K hK => ?_⟩; have e16 := poff ha (t := 16) rfl rfl; have e149 := pon ha 26 (hon 26 rfl) rfl rfl rfl; exact value_ (v := .bool false) (wanted_on (t := 149) (u := false) rfl rfl rfl e149) rfl (by clear HI ha; go_simp) (hK.out _ _ ⟨upk ha 27 hb rfl rfl, HI⟩)) ?_
    refine steps_cons (by rintro b a w' ⟨ha, HI⟩ hb hon hoff; refine ⟨_, rfl, fun K hK => ?_⟩; have e150 := pon ha 27 (hon 27 rfl) rfl rfl rfl; have e149 := pon ha 26 (hon 26 rfl) rfl rfl rfl; exact value_ (v := .bool true) (wanted_on (t := 149) (u := false) rfl rfl rfl e149) rfl (by clear HI ha; go_simp) (hK.out _ _ ⟨upk ha 28 hb rfl rfl, HI⟩)) ?_
    refine steps_cons (by rintro b a w' ⟨ha, HI⟩ hb hon hoff; refine ⟨_, rfl, fun K hK => ?_⟩; have e151 := pon ha 28 (hon 28 rfl) rfl rfl rfl; have e149 := pon ha 26 (hon 26 rfl) rfl rfl rfl; exact value_ (v := .bool true) (wanted_on (t := 149) (u := false) rfl rfl rfl e149) rfl (by clear HI ha; go_simp) (hK.out _ _ ⟨upk ha 29 hb rfl rfl, HI⟩)) ?_
    refine steps_cons (by rintro b a w' ⟨ha, HI⟩ hb hon hoff; refine ⟨_, rfl, fun K hK => ?_⟩; have e14 := poff ha (t := 14) rfl rfl; have e152 := pon ha 29 (hon 29 rfl) rfl rfl rfl; exact value_ (v := .int .i64 0) (wanted_on (t := 152) (u := true) rfl rfl rfl e152) rfl (by clear HI ha; go_simp; rfl) (hK.out _ _ ⟨upk ha 30 hb rfl rfl, HI⟩)) ?_
    refine steps_cons (by rintro b a w' ⟨ha, HI⟩ hb hon hoff; refine ⟨_, rfl, fun K hK => ?_⟩; have e153 := pon ha 30 (hon 30 rfl) rfl rfl rfl; have e152 := pon ha 29 (hon 29 rfl) rfl rfl rfl; exact value_ (v := .bool false) (wanted_on (t := 152) (u := true) rfl rfl rfl e152) rfl (by clear HI ha; go_simp) (hK.out _ _ ⟨upk ha 31 hb rfl rfl, HI⟩)) ?_
    refine steps_cons (by rintro b a w' ⟨ha, HI⟩ hb hon hoff; refine ⟨_, rfl, fun K hK => ?_⟩; have e154 := pon ha 31 (hon 31 rfl) rfl rfl rfl; have e152 := pon ha 29 (hon 29 rfl) rfl rfl rfl; exact value_ (v := .bool false) (wanted_on (t := 152) (u := true) rfl rfl rfl e152) rfl (by clear HI ha; go_simp) (hK.out _ _ ⟨upk ha 32 hb rfl rfl, HI⟩)) ?_
    refine steps_cons (by rintro b a w' ⟨ha, HI⟩ hb hon hoff; refine ⟨_, rfl, fun K hK => ?_⟩; have e15 := poff ha (t := 15) rfl rfl; have e155 := pon ha 32 (hon 32 rfl) rfl rfl rfl; have k0_ := bc HI hkl k0; have k1_ := bc HI hkl k1; have k2_ := bc HI hkl k2; have k3_ := bc HI hkl k3; have kz_ := bz HI hkl; exact value_ (v := .agg #[.int .i64 0, .int .i64 0, .int .i64 0, .int .i64 0]) (wanted_on (t := 155) (u := false) rfl rfl rfl e155) rfl (by clear HI ha; go_simp) (hK.out _ _ ⟨upk ha 33 hb rfl rfl, HI⟩)) ?_
    refine steps_cons (by rintro b a w' ⟨ha, HI⟩ hb hon hoff; refine ⟨_, rfl, fun K hK => ?_⟩; have e155 := pon ha 32 (hon 32 rfl) rfl rfl rfl; exact value_ (v := .agg #[.int .i64 0, .int .i64 0, .int .i64 0, .int .i64 0]) (wanted_on (t := 155) (u := false) rfl rfl rfl e155) rfl (by clear HI ha; go_simp) (hK.out _ _ ⟨upk ha 34 hb rfl rfl, HI⟩)) ?_
    refine steps_cons (by rintro b a w' ⟨ha, HI⟩ hb hon hoff; refine ⟨_, rfl, fun K hK => ?_⟩; have e157 := pon ha 34 (hon 34 rfl) rfl rfl rfl; have e155 := pon ha 32 (hon 32 rfl) rfl rfl rfl; refine goes_ Try.func11 (by kernel_rfl) rfl #[.agg #[.int .i64 0, .int .i64 0, .int .i64 0, .int .i64 0]] (wanted_on (t := 155) (u := false) rfl rfl rfl e155) rfl rfl (by simp [Act.eval, e157, e155]) ((MadeS _ _ _ _ _).out.mono ?_); rintro e_ w'' ⟨rfl, hbc⟩; exact ⟨_, rfl, hK.out _ _ ⟨upk ha 35 hb rfl rfl, below_then HI HI.size hbc⟩⟩) ?_
    refine steps_cons (by rintro b a w' ⟨ha, HI⟩ hb hon hoff; refine ⟨_, rfl, fun K hK => ?_⟩; have e156 := pon ha 33 (hon 33 rfl) rfl rfl rfl; have e158 := pon ha 35 (hon 35 rfl) rfl rfl rfl; have e155 := pon ha 32 (hon 32 rfl) rfl rfl rfl; exact value_ (v := .bool false) (wanted_on (t := 155) (u := false) rfl rfl rfl e155) rfl (by clear HI ha; go_simp) (hK.out _ _ ⟨upk ha 36 hb rfl rfl, HI⟩)) ?_
    refine steps_cons (by rintro b a w' ⟨ha, HI⟩ hb hon hoff; refine ⟨_, rfl, fun K hK => ?_⟩; have e155 := pon ha 32 (hon 32 rfl) rfl rfl rfl; have e159 := pon ha 36 (hon 36 rfl) rfl rfl rfl; have e152 := pon ha 29 (hon 29 rfl) rfl rfl rfl; exact value_ (v := .bool false) (wanted_on (t := 152) (u := true) rfl rfl rfl e152) rfl (by clear HI ha; go_simp) (hK.out _ _ ⟨upk ha 37 hb rfl rfl, HI⟩)) ?_
    refine steps_cons (by rintro b a w' ⟨ha, HI⟩ hb hon hoff; refine ⟨_, rfl, fun K hK => ?_⟩; have e152 := pon ha 29 (hon 29 rfl) rfl rfl rfl; have e160 := pon ha 37 (hon 37 rfl) rfl rfl rfl; have e149 := pon ha 26 (hon 26 rfl) rfl rfl rfl; exact value_ (v := .bool false) (wanted_on (t := 149) (u := false) rfl rfl rfl e149) rfl (by clear HI ha; go_simp) (hK.out _ _ ⟨upk ha 38 hb rfl rfl, HI⟩)) ?_
    refine steps_cons (by rintro b a w' ⟨ha, HI⟩ hb hon hoff; refine ⟨_, rfl, fun K hK => ?_⟩; have e149 := pon ha 26 (hon 26 rfl) rfl rfl rfl; have e161 := pon ha 38 (hon 38 rfl) rfl rfl rfl; exact value_ (v := .bool false) (by rfl) rfl (by clear HI ha; go_simp) (hK.out _ _ ⟨upk ha 39 hb rfl rfl, HI⟩)) ?_
    exact steps_nil
  · rintro b a w' hall ⟨ha, HI⟩
    have hb0_ := hall 0 rfl; have hb1_ := hall 1 rfl; have hb2_ := hall 2 rfl; have hb3_ := hall 3 rfl; have hb4_ := hall 4 rfl; have hb5_ := hall 5 rfl; have hb6_ := hall 6 rfl; have hb7_ := hall 7 rfl
    have hb8_ := hall 8 rfl; have hb9_ := hall 9 rfl; have hb10_ := hall 10 rfl; have hb11_ := hall 11 rfl; have hb12_ := hall 12 rfl; have hb13_ := hall 13 rfl; have hb14_ := hall 14 rfl; have hb15_ := hall 15 rfl
    have hb16_ := hall 16 rfl; have hb17_ := hall 17 rfl; have hb18_ := hall 18 rfl; have hb19_ := hall 19 rfl; have hb20_ := hall 20 rfl; have hb21_ := hall 21 rfl; have hb22_ := hall 22 rfl; have hb23_ := hall 23 rfl
    have hb24_ := hall 24 rfl; have hb25_ := hall 25 rfl; have hb26_ := hall 26 rfl; have hb27_ := hall 27 rfl; have hb28_ := hall 28 rfl; have hb29_ := hall 29 rfl; have hb30_ := hall 30 rfl; have hb31_ := hall 31 rfl
    have hb32_ := hall 32 rfl; have hb33_ := hall 33 rfl; have hb34_ := hall 34 rfl; have hb35_ := hall 35 rfl; have hb36_ := hall 36 rfl; have hb37_ := hall 37 rfl; have hb38_ := hall 38 rfl; have hb39_ := hall 39 rfl
    subst ha
    simp only [putSel, hb0_, hb1_, hb2_, hb3_, hb4_, hb5_, hb6_, hb7_, hb8_, hb9_, hb10_, hb11_, hb12_, hb13_, hb14_, hb15_, hb16_, hb17_, hb18_, hb19_, hb20_, hb21_, hb22_, hb23_, hb24_, hb25_, hb26_, hb27_, hb28_, hb29_, hb30_, hb31_, hb32_, hb33_, hb34_, hb35_, hb36_, hb37_, hb38_, hb39_, if_true, Act.put, List.setIfInBounds_toArray, List.set_cons_zero, List.set_cons_succ]
    have hB := (below_then (below_drew (Below.refl _ W7)) (Nat.le_refl _) HI : Below W7.heap.size W7 w')
    clear hall HI hb0_ hb1_ hb2_ hb3_ hb4_ hb5_ hb6_ hb7_ hb8_ hb9_ hb10_ hb11_ hb12_ hb13_ hb14_ hb15_ hb16_ hb17_ hb18_ hb19_ hb20_ hb21_ hb22_ hb23_ hb24_ hb25_ hb26_ hb27_ hb28_ hb29_ hb30_ hb31_ hb32_ hb33_ hb34_ hb35_ hb36_ hb37_ hb38_ hb39_
    refine ‹∀ (a : Act) (w : World), Code.wp Try.prog _ _ a w → _› _ _ ?_
    have HN : Side (Pc w gh kind (.slice a6 ms.length c6) ms (-1) w') := ⟨(Pc.mk HS9.out HR9.out).below hB⟩
    clear hB k0 k1 k2 k3 hkl HS9 HR9 HV9
    go_wp2
    go_meet
    case rel => exact ⟨ms, -1, rfl, .inl rfl, by omega, HN⟩
end Go.Proofs.Ytiebpmbongmgkaa.HpU4

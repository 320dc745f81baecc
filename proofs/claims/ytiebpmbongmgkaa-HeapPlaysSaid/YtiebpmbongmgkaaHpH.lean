/- Package heap, eighth text: Put. No condition. -/
import Derived.Test.YtiebpmbongmgkaaHpG
set_option linter.unusedVariables false
set_option linter.unusedSimpArgs false
namespace Go.Proofs.Ytiebpmbongmgkaa.HpH
open Go.RowKit Go.Proofs.Ytiebpmbongmgkaa.Kit Go.Proofs.Ytiebpmbongmgkaa.Kit3 Go.Proofs.Ytiebpmbongmgkaa.Kit4 HpPlain Go.Maps Go.Proofs.Ytiebpmbongmgkaa.HpA Go.Proofs.Ytiebpmbongmgkaa.HpB Go.Proofs.Ytiebpmbongmgkaa.HpC Go.Proofs.Ytiebpmbongmgkaa.HpD Go.Proofs.Ytiebpmbongmgkaa.HpE Go.Proofs.Ytiebpmbongmgkaa.HpF Go.Proofs.Ytiebpmbongmgkaa.HpG
open Go.Proofs.YtiebpmbongmgkaaW.PrintLast
theorem set_n (w : World) (B gh g cap bm n m : Nat) (kind : Int) (l : List It) (D : DD) (hn : l.length = n) (h : Hp w B gh kind (.slice (some ⟨g, 0, none⟩) n cap) bm m l D) (hm : m < 1000000) (i : Nat) (hi : i < n) (hl : n ≤ 1000000) (x : It) (hx : (kv x.1).wf = true) :
    Calls Try.prog 17 #[.pointer (some ⟨gh, 0, none⟩), .int .i64 i, vl x] w fun r w' => r = .returned (.tuple #[]) ∧
      Hp w' B gh kind (.slice (some ⟨g, 0, none⟩) n cap) bm (m + 1) (l.set i x) (D.put (kv x.1) (.lit (.int .i64 i))) ∧ Chg w w' (Foot gh bm (.slice (some ⟨g, 0, none⟩) n cap)) := by
  subst hn; exact set_at w B gh g cap bm m kind l D h hm i hi hl x hx
set_option maxHeartbeats 4000000 in
set_option maxRecDepth 100000 in
theorem Put_old (w : World) (B gh g cap bm n : Nat) (kind : Int) (l : List It) (hn : l.length = n) (h : HS w B gh kind (.slice (some ⟨g, 0, none⟩) n cap) bm l) (ho : Ordered kind (at_ l) n) (hl : n ≤ 100000) (x : It) (hx : 0 ≤ x.1 ∧ x.1 < 65536) (hh : hasS l x.1 = true) :
    Calls Try.prog 10 #[.pointer (some ⟨gh, 0, none⟩), .int .i64 x.1, rv x] w fun r w' => r = .returned (.int .i64 0) ∧ Got w w' B gh kind (.slice (some ⟨g, 0, none⟩) n cap) bm (put l x) := by
  obtain ⟨x0, x1, x2, x3, x4⟩ := x
  obtain ⟨o, hob⟩ : ∃ o : Obj, o = .cells #[.int .i64 x1, .int .i64 x2, .int .i64 x3, .int .i64 x4] 32 := ⟨_, rfl⟩
  have hb0 : Below w.heap.size w (w.alloc o) := (Below.refl _ w).alloc (Nat.le_refl _) _
  have HH := Side.mk (h.below hb0)
  have HB0 := Side.mk hb0
  have hw : (kv x0).wf = true := wf_of (by have := hx.1; simp only at this; omega) (by have := hx.2; simp only at this; omega)
  obtain ⟨c, hrun, hci⟩ := HS.look HH.out x0 hw
  obtain ⟨i, hi, hc, he⟩ := hci hh
  subst hc
  rw [show hasS l x0 = true from hh] at hrun
  have hx0 : ¬ x0 < 0 := by have : 0 ≤ x0 := hx.1; omega
  have hx6 : ¬ 65536 ≤ x0 := by have : x0 < 65536 := hx.2; omega
  have hc2 := HH.out.c2
  have hgl := HH.out.lt
  have b0 : (w.alloc o).cell? ⟨w.heap.size, 0, none⟩ = some (.int .i64 x1) := by rw [hob]; exact (World.cell?_alloc_at _ _ _ _ rfl).trans rfl
  have b1 : (w.alloc o).cell? ⟨w.heap.size, 1, none⟩ = some (.int .i64 x2) := by rw [hob]; exact (World.cell?_alloc_at _ _ _ _ rfl).trans rfl
  have b2 : (w.alloc o).cell? ⟨w.heap.size, 2, none⟩ = some (.int .i64 x3) := by rw [hob]; exact (World.cell?_alloc_at _ _ _ _ rfl).trans rfl
  have b3 : (w.alloc o).cell? ⟨w.heap.size, 3, none⟩ = some (.int .i64 x4) := by rw [hob]; exact (World.cell?_alloc_at _ _ _ _ rfl).trans rfl
  have HX := Side.mk hx
  have HN := Side.mk hn
  have HO := Side.mk ho
  have HE := Side.mk he
  have HL := Side.mk hi
  have HHS := Side.mk hh
  have HW := Side.mk hw
  have HOB := Side.mk hob
  clear hx hn ho he hi hh hw hci hb0 h hob
  go_enter Try.func10, Try.ntmps10
  go_upto_region 1 with (fail)
  rw [← HOB.out]
  obtain ⟨p, hp⟩ : ∃ p, p = w.heap.size := ⟨_, rfl⟩
  have HPp := Side.mk hp
  rw [← hp] at b0 b1 b2 b3 ⊢
  clear hp HOB
  generalize w.alloc o = W1 at *
  go_wp2_with fail
  obtain ⟨D, hp1, hI⟩ := HH.out.hp
  have hi2 : i < n := by rw [← HN.out]; exact HL.out
  have hp1' : Hp W1 B gh kind (.slice (some ⟨g, 0, none⟩) n cap) bm n l D := by have := hp1; rw [HN.out] at this; exact this
  have CS := Side.mk (set_n W1 B gh g cap bm n n kind l D HN.out hp1' (by omega) i hi2 (by omega) (x0, x1, x2, x3, x4) HW.out)
  refine CS.out.mono ?_
  rintro e w2 ⟨rfl, hp2, hc2'⟩
  have hput : put l (x0, x1, x2, x3, x4) = l.set i (x0, x1, x2, x3, x4) := put_at HH.out.nd HL.out _ HE.out
  have hset : (l.set i (x0, x1, x2, x3, x4)).length = n := by rw [List.length_set]; exact HN.out
  have hs2 : HS w2 B gh kind (.slice (some ⟨g, 0, none⟩) n cap) bm (l.set i (x0, x1, x2, x3, x4)) :=
    put_hs hI HH.out.nd HH.out.sl HX.out i (by rw [hset]; exact hi2) (by rw [at_set _ _ _ HL.out, if_pos rfl]) (by rw [hput]) (fun j hj hji => ⟨by rw [List.length_set] at hj; exact hj, by rw [at_set _ _ _ HL.out, if_neg hji]⟩) hp2
  have hnear : Near kind (at_ (l.set i (x0, x1, x2, x3, x4))) n i := near_set HO.out (Nat.le_refl _) (fun j hj _ => by rw [at_set _ _ _ HL.out, if_neg hj])
  have CT := Side.mk (settle_at w2 B gh g cap bm n kind (l.set i (x0, x1, x2, x3, x4)) hset hs2 i hi2 hl hnear)
  have HP := Side.mk hput
  have HC2 := Side.mk (Chg.trans (Chg.of_below HB0.out) hc2' (fun _ _ h => h))
  clear hp1 hI hp1' CS hp2 hc2' hset hs2 hnear hput hrun hi2 hc2 hgl b0 b1 b2 b3
  go_wp2_with fail
  refine CT.out.mono ?_
  rintro e w3 ⟨rfl, l', hm, ho'⟩
  have HM := Side.mk hm
  have HO' := Side.mk ho'
  clear hm ho' CT
  go_wp2
  go_ret
  refine ⟨rfl, _, l', HM.out.hs, by rw [HM.out.len]; exact HO'.out, by rw [HP.out]; exact HM.out.perm, Chg.trans HC2.out HM.out.chg (fun _ _ h => h), .inl rfl⟩
theorem app_set (l : List It) (x y : It) : (l ++ [y]).set l.length x = l ++ [x] := by rw [List.set_append_right _ _ (Nat.le_refl _)]; simp
theorem at_app (l : List It) (x : It) : (∀ j, j < l.length → at_ (l ++ [x]) j = at_ l j) ∧ at_ (l ++ [x]) l.length = x := by
  constructor
  · intro j hj
    unfold at_
    rw [List.getD_eq_getElem?_getD, List.getD_eq_getElem?_getD, List.getElem?_append_left hj]
  · unfold at_
    rw [List.getD_eq_getElem?_getD, List.getElem?_append_right (Nat.le_refl _)]; simp
set_option maxHeartbeats 4000000 in
set_option maxRecDepth 100000 in
theorem Put_new (w : World) (B gh bm n : Nat) (A : Option Addr) (c0 : Nat) (kind : Int) (l : List It) (hn : l.length = n) (h : HS w B gh kind (.slice A n c0) bm l) (hB : B ≤ w.heap.size) (ho : Ordered kind (at_ l) n) (hl : n ≤ 90000) (x : It) (hx : 0 ≤ x.1 ∧ x.1 < 65536) (hh : hasS l x.1 = false) :
    Calls Try.prog 10 #[.pointer (some ⟨gh, 0, none⟩), .int .i64 x.1, rv x] w fun r w' => r = .returned (.int .i64 0) ∧ Got w w' B gh kind (.slice A n c0) bm (put l x) := by
  obtain ⟨x0, x1, x2, x3, x4⟩ := x
  obtain ⟨o, hob⟩ : ∃ o : Obj, o = .cells #[.int .i64 x1, .int .i64 x2, .int .i64 x3, .int .i64 x4] 32 := ⟨_, rfl⟩
  have hb0 : Below w.heap.size w (w.alloc o) := (Below.refl _ w).alloc (Nat.le_refl _) _
  have HH := Side.mk (h.below hb0)
  have HB0 := Side.mk hb0
  have hw : (kv x0).wf = true := wf_of (by have := hx.1; simp only at this; omega) (by have := hx.2; simp only at this; omega)
  obtain ⟨c, hrun, _⟩ := HS.look HH.out x0 hw
  rw [show hasS l x0 = false from hh] at hrun
  have hx0 : ¬ x0 < 0 := by have : 0 ≤ x0 := hx.1; omega
  have hx6 : ¬ 65536 ≤ x0 := by have : x0 < 65536 := hx.2; omega
  have hc1 := HH.out.c1
  have hc2 := HH.out.c2
  have hgl := HH.out.lt
  have hbx : ∀ w', Below (w.alloc o).heap.size (w.alloc o) w' → ∀ r v, ([.int .i64 x1, .int .i64 x2, .int .i64 x3, .int .i64 x4] : List Value)[r]? = some v → w'.cell? ⟨w.heap.size, r, none⟩ = some v := fun w' hb r v hr => by
    refine (hb.cell (p := ⟨w.heap.size, r, none⟩) (by simp)).trans ?_
    rw [hob]
    exact (World.cell?_alloc_at _ _ _ _ rfl).trans (by simpa using hr)
  have HX := Side.mk hx
  have HN := Side.mk hn
  have HO := Side.mk ho
  have HHS := Side.mk hh
  have HW := Side.mk hw
  have HOB := Side.mk hob
  have hpl : w.heap.size < (w.alloc o).heap.size := by simp
  have HPF : Side (∀ k, Foot gh bm (.slice A n c0) k → k < w.heap.size) := ⟨by
    obtain ⟨D, hh1, _⟩ := h.hp
    rintro k (rfl | rfl | hk)
    · exact hh1.lt
    · exact hh1.map.lt
    · exact Row.lt hh1.row k hk.symm⟩
  have hB1 : B ≤ (w.alloc o).heap.size := by simp; omega
  clear hx hn ho hh hw hb0 h hob hB
  go_enter Try.func10, Try.ntmps10
  go_upto_region 1 with (fail)
  rw [← HOB.out]
  obtain ⟨p, hp⟩ : ∃ p, p = w.heap.size := ⟨_, rfl⟩
  have HPp := Side.mk hp
  rw [← hp] at hbx hpl HPF ⊢
  clear hp HOB
  generalize w.alloc o = W1 at *
  have HBX := Side.mk hbx
  clear hbx
  go_upto_region 6 with (fail)
  go_wp2_with (at_builtin; refine wpList_app rfl _ _ rfl B _ l rfl ?c1 ⟨W1.heap.size, 0, none⟩ 1 z rfl ?c2 ?c3 ?c4 ?c5)
  case c1 => exact Row.below HH.out.row (by (repeat (with_reducible first | exact Below.refl _ _ | apply below_drewN | apply below_drew | apply below_alloc)))
  case c2 =>
    intro r u hr
    simpa [cl, HpPlain.z] using hr
  case c3 => have := HN.out; omega
  case c4 => first | omega | (simp; omega)
  case c5 =>
    intro v' w2 hrow hgr hat
    have hc : Chg W1 w2 (fun k => some k = (Value.slice A n c0).ownBlock) := Chg.trans (Chg.of_below (S := fun k => some k = (Value.slice A n c0).ownBlock) (by (repeat (with_reducible first | exact Below.refl _ _ | apply below_alloc)))) (Chg.of_grown hgr) (fun _ _ h => h)
    obtain ⟨D, hp1, hI⟩ := HH.out.hp
    have hnm := hp1.nm
    have hbox : w2.heap[gh]? = some (.cells #[.int .i64 kind, .slice A n c0, .map (some bm)] 53 (0, 0)) := (hc.block gh hgl (fun e => hnm.2.1 e.symm)).trans hp1.box
    obtain ⟨g, cap, rfl⟩ : ∃ g cap, v' = .slice (some ⟨g, 0, none⟩) (n + 1) cap := by
      rcases hrow.read with ⟨_, h0⟩ | ⟨g, cap, rfl, _⟩
      · simp at h0
      · exact ⟨g, cap, by rw [List.length_append, HN.out]; rfl⟩
    have hgne : g ≠ gh := by
      obtain ⟨cur, h1⟩ := Row.cells hrow g rfl
      intro e
      rw [e, hbox] at h1
      simp at h1
    have hmap : w2.ownsMap Try.prog 3 (plainElem Try.prog 3) bm n D := by
      have := map_chg hp1.map hc (fun e => hnm.2.2 e.symm)
      rw [HN.out] at this
      exact this
    have k1 : w2.cell? ⟨gh, 1, none⟩ = some (.slice A n c0) := cell_of_row w2 gh 1 _ _ (0, 0) hbox
    have f1 : w2.frozen? ⟨gh, 1, none⟩ = false := Go.Proofs.YtiebpmbongmgkaaW.PrintWords.blk_frozen hbox 1
    have hset : Chg w2 (w2.setCell ⟨gh, 1, none⟩ (.slice (some ⟨g, 0, none⟩) (n + 1) cap)) (fun k => k = gh) := Chg.set _ _ _ _
    have HP3 : Side (Hp (w2.setCell ⟨gh, 1, none⟩ (.slice (some ⟨g, 0, none⟩) (n + 1) cap)) B gh kind (.slice (some ⟨g, 0, none⟩) (n + 1) cap) bm n (l ++ [HpPlain.z]) D) :=
      ⟨⟨(blk_set hbox 1 _).trans (by simp), Row.chg hrow hset (fun k hk => by simp [Value.ownBlock] at hk; omega), map_chg hmap hset hnm.1, hp1.bh, hp1.bb⟩⟩
    have HC3 : Side (Chg W1 (w2.setCell ⟨gh, 1, none⟩ (.slice (some ⟨g, 0, none⟩) (n + 1) cap)) (Foot gh bm (.slice A n c0))) :=
      ⟨Chg.trans (Chg.trans (Chg.refl _ _) hc (fun k _ h => .inr (.inr h))) hset (fun k _ h => .inl h)⟩
    have hpb : ¬ Foot gh bm (.slice A n c0) p := fun h => Nat.lt_irrefl _ (HPF.out p h)
    have hpc : ∀ r v, ([.int .i64 x1, .int .i64 x2, .int .i64 x3, .int .i64 x4] : List Value)[r]? = some v → (w2.setCell ⟨gh, 1, none⟩ (.slice (some ⟨g, 0, none⟩) (n + 1) cap)).cell? ⟨p, r, none⟩ = some v := fun r v hr => by
      have e := HC3.out.block p hpl hpb
      have := HBX.out W1 (Below.refl _ _) r v hr
      rw [← this]
      unfold World.cell?
      rw [e]
    have b0 := hpc 0 _ rfl
    have b1 := hpc 1 _ rfl
    have b2 := hpc 2 _ rfl
    have b3 := hpc 3 _ rfl
    have HI := Side.mk hI
    have HND := Side.mk (HH.out.nd)
    have HSL := Side.mk (HH.out.sl)
    have HAT : Side ((Value.slice (some ⟨g, 0, none⟩) (n + 1) cap).ownBlock = (Value.slice A n c0).ownBlock ∨ ∃ k, (Value.slice (some ⟨g, 0, none⟩) (n + 1) cap).ownBlock = some k ∧ W1.heap.size ≤ k) := ⟨by
      rcases hat with h | h
      · exact .inl h
      · exact .inr ⟨_, h, by simp⟩⟩
    clear hrow hgr hat hc hp1 hI hnm hbox hgne hmap hset hpb hpc hc1 hc2 HBX
    go_wp2_with fail
    generalize w2.setCell ⟨gh, 1, none⟩ (.slice (some ⟨g, 0, none⟩) (n + 1) cap) = W3 at *
    have hln : (l ++ [HpPlain.z]).length = n + 1 := by rw [List.length_append, HN.out]; rfl
    have CS := Side.mk (set_n W3 B gh g cap bm (n + 1) n kind (l ++ [HpPlain.z]) D hln HP3.out (by omega) n (by omega) (by omega) (x0, x1, x2, x3, x4) HW.out)
    refine CS.out.mono ?_
    rintro e w4 ⟨rfl, hp4, hc4⟩
    have hput : put l (x0, x1, x2, x3, x4) = l ++ [(x0, x1, x2, x3, x4)] := by unfold put; rw [HHS.out]; rfl
    have hl4 : (l ++ [HpPlain.z]).set n (x0, x1, x2, x3, x4) = l ++ [(x0, x1, x2, x3, x4)] := by rw [← HN.out]; exact app_set l _ _
    rw [hl4] at hp4
    have hln4 : (l ++ [(x0, x1, x2, x3, x4)]).length = n + 1 := by rw [List.length_append, HN.out]; rfl
    have hap := at_app l (x0, x1, x2, x3, x4)
    have hs4 : HS w4 B gh kind (.slice (some ⟨g, 0, none⟩) (n + 1) cap) bm (l ++ [(x0, x1, x2, x3, x4)]) :=
      put_hs HI.out HND.out HSL.out HX.out n (by omega) (by rw [← HN.out]; exact hap.2) (by rw [hput]) (fun j hj hji => ⟨by rw [HN.out]; omega, (hap.1 j (by rw [HN.out]; omega)).symm⟩) hp4
    have hnear : Near kind (at_ (l ++ [(x0, x1, x2, x3, x4)])) (n + 1) n := near_new HO.out (fun j hj => hap.1 j (by rw [HN.out]; exact hj))
    have CT := Side.mk (settle_at w4 B gh g cap bm (n + 1) kind _ hln4 hs4 n (by omega) (by omega) hnear)
    have HP := Side.mk hput
    have HC4 : Side (∀ k, k < W1.heap.size → ¬ Foot gh bm (.slice A n c0) k → ¬ Foot gh bm (.slice (some ⟨g, 0, none⟩) (n + 1) cap) k) := ⟨by
      rintro k hk hn' (h | h | h)
      · exact hn' (.inl h)
      · exact hn' (.inr (.inl h))
      · rcases HAT.out with e | ⟨k', e, e2⟩
        · exact hn' (.inr (.inr (h.trans e)))
        · rw [e] at h
          have := Option.some.inj h
          omega⟩
    have HC5 := Side.mk (Chg.trans HC3.out hc4 (fun k hk h => Classical.byContradiction fun hn' => HC4.out k hk hn' h))
    clear hput hl4 hp4 hln4 hap hs4 hnear hc4 hln CS HP3 HC3 b0 b1 b2 b3
    go_wp2_with fail
    refine CT.out.mono ?_
    rintro e w5 ⟨rfl, l', hm, ho'⟩
    have HM := Side.mk hm
    have HO' := Side.mk ho'
    clear hm ho' CT
    go_wp2
    go_ret
    refine ⟨rfl, _, l', HM.out.hs, by rw [HM.out.len]; exact HO'.out, by rw [HP.out]; exact HM.out.perm, Chg.trans (Chg.of_below HB0.out) (Chg.trans HC5.out HM.out.chg (fun k hk h => Classical.byContradiction fun hn' => HC4.out k hk hn' h)) (fun _ _ h => h), ?_⟩
    rcases HAT.out with h | ⟨k, h1, h2⟩
    · exact .inl h
    · exact .inr ⟨k, h1, by have := HB0.out.size; omega⟩
theorem Put_at (w : World) (B gh bm : Nat) (kind : Int) (v : Value) (l : List It) (h : HS w B gh kind v bm l) (hB : B ≤ w.heap.size) (ho : Ordered kind (at_ l) l.length) (hl : l.length ≤ 90000) (x : It) :
    Calls Try.prog 10 #[.pointer (some ⟨gh, 0, none⟩), .int .i64 x.1, rv x] w fun r w' => r = .returned (.int .i64 (if x.1 < 0 ∨ 65536 ≤ x.1 then 2 else 0)) ∧ Got w w' B gh kind v bm (if x.1 < 0 ∨ 65536 ≤ x.1 then l else put l x) := by
  by_cases hx : x.1 < 0 ∨ 65536 ≤ x.1
  · rw [if_pos hx, if_pos hx]; exact Put_bad w B gh bm kind v l h ho x hx
  · rw [if_neg hx, if_neg hx]
    cases hh : hasS l x.1
    · obtain ⟨A, c, rfl⟩ := Row.shape h.row
      exact Put_new w B gh bm _ A c kind l rfl h hB ho hl x (by omega) hh
    · rcases h.row.read with ⟨rfl, rfl⟩ | ⟨g, cap, rfl, _⟩
      · cases hh
      · exact Put_old w B gh g cap bm _ kind l rfl h ho (by omega) x (by omega) hh
end Go.Proofs.Ytiebpmbongmgkaa.HpH

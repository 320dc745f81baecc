/- Package heap, tenth text: Drop, Pop. No condition. -/
import Derived.Test.YtiebpmbongmgkaaHpI
set_option linter.unusedVariables false
set_option linter.unusedSimpArgs false
namespace Go.Proofs.Ytiebpmbongmgkaa.HpJ
open Go.RowKit Go.Proofs.Ytiebpmbongmgkaa.Kit Go.Proofs.Ytiebpmbongmgkaa.Kit3 Go.Proofs.Ytiebpmbongmgkaa.Kit4 HpPlain Go.Maps Go.Proofs.Ytiebpmbongmgkaa.HpA Go.Proofs.Ytiebpmbongmgkaa.HpB Go.Proofs.Ytiebpmbongmgkaa.HpC Go.Proofs.Ytiebpmbongmgkaa.HpD Go.Proofs.Ytiebpmbongmgkaa.HpE Go.Proofs.Ytiebpmbongmgkaa.HpF Go.Proofs.Ytiebpmbongmgkaa.HpG Go.Proofs.Ytiebpmbongmgkaa.HpH Go.Proofs.Ytiebpmbongmgkaa.HpI
open Go.Proofs.YtiebpmbongmgkaaW.PrintLast
open Go.Proofs.YtiebpmbongmgkaaW.PrintWords (run_store_run setCells_row)
theorem at_take (l : List It) (m j : Nat) (hj : j < m) : at_ (l.take m) j = at_ l j := by
  unfold at_
  rw [List.getD_eq_getElem?_getD, List.getD_eq_getElem?_getD, List.getElem?_take, if_pos hj]
/-- The last one is taken out of the map of places. -/
theorem Idx.cut {L : List It} {D : DD} {m : Nat} (h : Idx L D) (hn : (slots L).Nodup) (hl : L.length = m + 1) (hw : (kv (at_ L m).1).wf = true) : Idx (L.take m) (D.del (kv (at_ L m).1)) := by
  have hlm : m < L.length := by omega
  have htl : (L.take m).length = m := by rw [List.length_take]; omega
  have e : L = L.take m ++ [at_ L m] := by
    have h1 := (List.take_append_drop m L).symm
    have h2 : L.drop m = [at_ L m] := by
      rw [List.drop_eq_getElem_cons hlm, List.drop_eq_nil_of_le (by omega)]
      have h3 := at_lt hlm
      rw [List.getElem?_eq_getElem hlm] at h3
      rw [Option.some.inj h3]
    rw [h2] at h1
    exact h1
  have hhas : ∀ s, hasS L s = (hasS (L.take m) s || (at_ L m).1 == s) := fun s => by
    conv => lhs; rw [e]
    unfold hasS
    rw [List.any_append]
    simp
  have hno : hasS (L.take m) (at_ L m).1 = false := by
    cases hh : hasS (L.take m) (at_ L m).1
    · rfl
    · have h1 := hasS_iff.1 hh
      rw [e] at hn
      unfold slots at hn h1
      rw [List.map_append, List.nodup_append] at hn
      exact absurd rfl (hn.2.2 _ h1 (at_ L m).1 (by simp))
  have hD : Maps.has D (kv (at_ L m).1) = true := by rw [h.has _ hw, hhas]; simp
  refine ⟨h.tidy.del _, fun s hs => ?_, fun j hj z => ?_, ?_⟩
  · by_cases he : s = (at_ L m).1
    · rw [he, has_del_same, hno]
    · rw [has_del_other (kv_ne he), h.has s hs, hhas]
      have : ((at_ L m).1 == s) = false := by simpa using fun e => he e.symm
      rw [this, Bool.or_false]
  · rw [htl] at hj
    rw [at_take L m j hj]
    have hne : (at_ L j).1 ≠ (at_ L m).1 := fun e => by have := slot_inj hn (by omega) hlm e; omega
    rw [atKey_del_other (kv_ne hne)]
    exact h.at_ j (by omega) z
  · have := size_del h.tidy (k := kv (at_ L m).1)
    rw [hD, if_pos rfl, h.size, hl] at this
    rw [htl]
    omega
set_option maxHeartbeats 4000000 in
set_option maxRecDepth 100000 in
theorem Drop_no (w : World) (B gh bm : Nat) (kind : Int) (v : Value) (l : List It) (h : HS w B gh kind v bm l) (ho : Ordered kind (at_ l) l.length) (s : Int) (hs : (kv s).wf = true) (hh : hasS l s = false) :
    Calls Try.prog 16 #[.pointer (some ⟨gh, 0, none⟩), .int .i64 s] w fun r w' => r = .returned (.bool false) ∧ Got w w' B gh kind v bm l := by
  obtain ⟨c, hrun, _⟩ := HS.look h s hs
  rw [hh] at hrun
  have hc2 := h.c2
  have hgl := h.lt
  have HH := Side.mk h
  have HO := Side.mk ho
  clear h ho hs hh
  go_enter Try.func16, Try.ntmps16
  go_wp2
  go_ret
  exact ⟨rfl, Got.same HH.out HO.out (List.Perm.refl _) (by (repeat (with_reducible first | exact Below.refl _ _ | apply below_drewN | apply below_drew | apply below_alloc)))⟩
set_option maxHeartbeats 8000000 in
set_option maxRecDepth 100000 in
theorem Drop_yes (w : World) (B gh g cap bm m : Nat) (kind : Int) (l : List It) (hn : l.length = m + 1) (h : HS w B gh kind (.slice (some ⟨g, 0, none⟩) (m + 1) cap) bm l) (ho : Ordered kind (at_ l) (m + 1)) (hl : m + 1 ≤ 100000) (s : Int) (hs : (kv s).wf = true) (hh : hasS l s = true) :
    Calls Try.prog 16 #[.pointer (some ⟨gh, 0, none⟩), .int .i64 s] w fun r w' => r = .returned (.bool true) ∧ Got w w' B gh kind (.slice (some ⟨g, 0, none⟩) (m + 1) cap) bm (drop l s) := by
  obtain ⟨c, hrun, hci⟩ := HS.look h s hs
  obtain ⟨i, hi, hc, he⟩ := hci hh
  subst hc
  rw [hh] at hrun
  have hc1 := h.c1
  have hc2 := h.c2
  have hgl := h.lt
  have hi2 : i < m + 1 := by omega
  have CS := Side.mk (swap_n w B gh g cap bm (m + 1) kind l hn h i m hi2 (by omega) hl)
  have HDP : Side (((sw l i m).take m).Perm (drop l s)) := ⟨by have := drop_at h.nd hi; rw [hn, he] at this; exact this⟩
  have HAM : Side (at_ (sw l i m) m = at_ l i) := ⟨by rw [at_sw l i m hi (by omega)]; unfold swf; rw [if_pos rfl]⟩
  have HAO : Side (∀ j, j ≠ i → j < m → at_ ((sw l i m).take m) j = at_ l j) := ⟨fun j hji hjm => by
    rw [at_take _ _ _ hjm, at_sw l i m hi (by omega)]; unfold swf; rw [if_neg (by omega), if_neg hji]⟩
  have HCAP : Side (m ≤ cap) := ⟨by
    rcases h.row.read with ⟨h0, _⟩ | ⟨g', cap', h0, _, _, h1, _⟩
    · simp at h0
    · simp at h0; omega⟩
  have HGG : Side (g < w.heap.size) := ⟨Row.lt h.row g rfl⟩
  have HH := Side.mk h
  have HO := Side.mk ho
  have HE := Side.mk he
  have HN := Side.mk hn
  have HI2 := Side.mk hi2
  have HSW := Side.mk hs
  have e1 : ((m + 1 : Nat) : Int) - 1 = (m : Int) := by omega
  have hm0 : (0 : Int) ≤ m := by omega
  have hcap : m ≤ cap := HCAP.out
  have hml : (m : Int) ≤ 100000 := by omega
  clear h ho hs hh hci hi he hn hi2
  go_enter Try.func16, Try.ntmps16
  go_wp2_with fail
  refine CS.out.mono ?_
  rintro e w2 ⟨rfl, hs2, hch2⟩
  have hln2 : (sw l i m).length = m + 1 := by rw [sw_len]; exact HN.out
  obtain ⟨D, hp2, hI2⟩ := hs2.hp
  rw [hln2] at hp2
  have hnm := hp2.nm
  have hgb : g < w2.heap.size := Row.lt hp2.row g rfl
  have hgne : ¬ g = gh := fun e => hnm.2.1 (by rw [e]; rfl)
  have k1 : w2.cell? ⟨gh, 1, none⟩ = some (.slice (some ⟨g, 0, none⟩) (m + 1) cap) := hp2.c1
  have k2 : w2.cell? ⟨gh, 2, none⟩ = some (.map (some bm)) := hp2.c2
  have f1 : w2.frozen? ⟨gh, 1, none⟩ = false := Go.Proofs.YtiebpmbongmgkaaW.PrintWords.blk_frozen hp2.box 1
  have hgl2 : gh < w2.heap.size := hp2.lt
  have hset : Chg w2 (w2.setCell ⟨gh, 1, none⟩ (.slice (some ⟨g, 0, none⟩) m cap)) (fun k => k = gh) := Chg.set _ _ _ _
  have HP3 : Side (Hp (w2.setCell ⟨gh, 1, none⟩ (.slice (some ⟨g, 0, none⟩) m cap)) B gh kind (.slice (some ⟨g, 0, none⟩) m cap) bm (m + 1) ((sw l i m).take m) D) :=
    ⟨⟨(blk_set hp2.box 1 _).trans (by simp), Row.chg (Row.cut hp2.row m (by omega)) hset (fun k hk => by simp [Value.ownBlock] at hk; omega), map_chg hp2.map hset hnm.1, hp2.bh, hp2.bb⟩⟩
  have hFs : ∀ (k c' : Nat), Foot gh bm (.slice (some ⟨g, 0, none⟩) c' cap) k ↔ (k = gh ∨ k = bm ∨ k = g) := fun k c' => by unfold Foot; simp [Value.ownBlock]
  have HC3 : Side (Chg w (w2.setCell ⟨gh, 1, none⟩ (.slice (some ⟨g, 0, none⟩) m cap)) (Foot gh bm (.slice (some ⟨g, 0, none⟩) (m + 1) cap))) := ⟨Chg.trans hch2 hset (fun k _ h => .inl h)⟩
  have HF := Side.mk hFs
  have hI3 := Idx.cut hI2 hs2.nd hln2 (by rw [HAM.out, HE.out]; exact HSW.out)
  rw [HAM.out, HE.out] at hI3
  have HI3 := Side.mk hI3
  have HND : Side ((slots ((sw l i m).take m)).Nodup) := ⟨slots_nodup HDP.out (nodup_drop HH.out.nd s)⟩
  have HSL : Side (∀ x ∈ (sw l i m).take m, 0 ≤ x.1 ∧ x.1 < 65536) := ⟨fun x hx => hs2.sl x (List.mem_of_mem_take hx)⟩
  have hkey : keyOf Try.prog 3 (.int .i64 s) = some (kv s) := keyOf_int_mk Try.underlying3 HSW.out
  have HK := Side.mk hkey
  clear hs2 hch2 hp2 hI2 hnm hset hFs hI3 hkey CS hrun hc1 hc2
  go_upto_region 9 with (fail)
  have hown := HP3.out.map
  have HOW := Side.mk hown
  have k3 := HP3.out.c2
  have hgl3 := HP3.out.lt
  have HG3 : Side (∀ w4, w4.ownsMap Try.prog 3 (plainElem (H := Unit) Try.prog 3) bm (m + 1) (D.del (kv s)) → (w2.setCell ⟨gh, 1, none⟩ (.slice (some ⟨g, 0, none⟩) m cap)).mapTurned w4 bm → HS w4 B gh kind (.slice (some ⟨g, 0, none⟩) m cap) bm ((sw l i m).take m) ∧ Chg w w4 (Foot gh bm (.slice (some ⟨g, 0, none⟩) (m + 1) cap))) := ⟨by
    intro w4 h1 h2
    have hg := h2.grown
    have hc : Chg (w2.setCell ⟨gh, 1, none⟩ (.slice (some ⟨g, 0, none⟩) m cap)) w4 (fun k => k = bm) := ⟨hg.os, hg.tape, hg.output, hg.size, fun k hk hn => hg.block k hk (fun e => hn (Option.some.inj e))⟩
    have hnm := HP3.out.nm
    have htl : ((sw l i m).take m).length = m := by rw [List.length_take]; omega
    refine ⟨⟨⟨D.del (kv s), ⟨(hc.block gh HP3.out.lt (fun e => hnm.1 e.symm)).trans HP3.out.box, Row.chg HP3.out.row hc (fun k hk e => hnm.2.2 (by rw [hk, e])), ?_, HP3.out.bh, HP3.out.bb⟩, HI3.out⟩, HND.out, HSL.out⟩, Chg.trans HC3.out hc (fun k _ hk => .inr (.inl hk))⟩
    have := map_tight h1
    rw [HI3.out.size] at this
    exact this⟩
  clear hown k1 k2 f1
  generalize w2.setCell ⟨gh, 1, none⟩ (.slice (some ⟨g, 0, none⟩) m cap) = W3 at *
  go_wp2_with (at_delete; refine wpList_delete_own _ rfl _ _ 50 3 rfl 3 keyed Try.underlying50 _ bm (m + 1) D rfl HOW.out _ _ rfl HK.out ?_; intro w4 hown4 hturn4; have HG4 := Side.mk (HG3.out w4 hown4 hturn4); clear hown4 hturn4)
  · have hlt : i < m := by assumption
    have htl : ((sw l i m).take m).length = m := by rw [List.length_take]; omega
    have hnear : Near kind (at_ ((sw l i m).take m)) m i := near_set HO.out (Nat.le_succ m) (fun j hji hjm => HAO.out j hji hjm)
    have CT := Side.mk (settle_at w4 B gh g cap bm m kind _ htl HG4.out.1 i hlt (by omega) hnear)
    clear htl hnear
    refine CT.out.mono ?_
    rintro e w5 ⟨rfl, l', hm, ho'⟩
    have HM := Side.mk hm
    have HO' := Side.mk ho'
    clear hm ho' CT
    go_wp2
    go_ret
    exact ⟨rfl, _, l', HM.out.hs, by rw [HM.out.len]; exact HO'.out, HM.out.perm.trans HDP.out, Chg.trans HG4.out.2 HM.out.chg (fun k _ h => (HF.out k (m + 1)).2 ((HF.out k m).1 h)), .inl rfl⟩
  · have hlt : ¬ i < m := by assumption
    have him : i = m := by have := HI2.out; omega
    have htl : ((sw l i m).take m).length = m := by rw [List.length_take]; omega
    have HOO : Side (Ordered kind (at_ ((sw l i m).take m)) m) := ⟨fun j hj hjm => by
      rw [HAO.out j (by omega) hjm, HAO.out _ (by omega) (by omega)]
      exact HO.out j hj (by omega)⟩
    go_ret
    exact ⟨rfl, _, _, HG4.out.1, by rw [htl]; exact HOO.out, HDP.out, HG4.out.2, .inl rfl⟩
theorem Drop_at (w : World) (B gh bm : Nat) (kind : Int) (v : Value) (l : List It) (h : HS w B gh kind v bm l) (ho : Ordered kind (at_ l) l.length) (hl : l.length ≤ 100000) (s : Int) (hs : (kv s).wf = true) :
    Calls Try.prog 16 #[.pointer (some ⟨gh, 0, none⟩), .int .i64 s] w fun r w' => r = .returned (.bool (hasS l s)) ∧ Got w w' B gh kind v bm (if hasS l s = true then drop l s else l) := by
  cases hh : hasS l s
  · exact Drop_no w B gh bm kind v l h ho s hs hh
  · rw [if_pos rfl]
    rcases h.row.read with ⟨rfl, rfl⟩ | ⟨g, cap, rfl, _⟩
    · cases hh
    · obtain ⟨m, hm⟩ : ∃ m, l.length = m + 1 := by
        cases l with
        | nil => cases hh
        | cons x r => exact ⟨r.length, rfl⟩
      rw [hm] at h ho hl ⊢
      exact Drop_yes w B gh g cap bm m kind l hm h ho hl s hs hh
/-- The result's box: what is read of it when it is filled. -/
theorem box4 {w : World} {p : Nat} {cur : Array Value} (x1 x2 x3 x4 : Int) (h : w.heap[p]? = some (.cells cur 32 (0, 0))) (hs : cur.size = 4) :
    (Instr.storeAt 32 (.pointer (some ⟨p, 0, none⟩)) (.agg #[.int .i64 x1, .int .i64 x2, .int .i64 x3, .int .i64 x4])).run Try.prog w = .ok () (w.setCells p 0 [.int .i64 x1, .int .i64 x2, .int .i64 x3, .int .i64 x4]) ∧
    (w.setCells p 0 [.int .i64 x1, .int .i64 x2, .int .i64 x3, .int .i64 x4]).cell? ⟨p, 0, none⟩ = some (.int .i64 x1) ∧ (w.setCells p 0 [.int .i64 x1, .int .i64 x2, .int .i64 x3, .int .i64 x4]).cell? ⟨p, 1, none⟩ = some (.int .i64 x2) ∧
    (w.setCells p 0 [.int .i64 x1, .int .i64 x2, .int .i64 x3, .int .i64 x4]).cell? ⟨p, 2, none⟩ = some (.int .i64 x3) ∧ (w.setCells p 0 [.int .i64 x1, .int .i64 x2, .int .i64 x3, .int .i64 x4]).cell? ⟨p, 3, none⟩ = some (.int .i64 x4) ∧
    Chg w (w.setCells p 0 [.int .i64 x1, .int .i64 x2, .int .i64 x3, .int .i64 x4]) (fun k => k = p) := by
  have hst : (w.setCells p 0 [.int .i64 x1, .int .i64 x2, .int .i64 x3, .int .i64 x4]).heap[p]? = some (.cells #[.int .i64 x1, .int .i64 x2, .int .i64 x3, .int .i64 x4] 32 (0, 0)) := by
    obtain ⟨cur', g1, g2, g3⟩ := setCells_row (e := 32) [.int .i64 x1, .int .i64 x2, .int .i64 x3, .int .i64 x4] 0 w _ h (by simp; omega)
    rw [g1]
    have : cur' = #[.int .i64 x1, .int .i64 x2, .int .i64 x3, .int .i64 x4] := by
      apply Array.ext'
      rw [g3, List.take_zero, List.nil_append, List.drop_eq_nil_of_le (by rw [Array.length_toList]; simp; omega)]
      rfl
    rw [this]
  exact ⟨run_store_run (P := Try.prog) (w := w) (g := p) (o := 0) 32 _ [.int .i64 x1, .int .i64 x2, .int .i64 x3, .int .i64 x4] (cur := cur) (e := 32) h rfl (by kernel_rfl) (by simp; omega) (by intro q hq; simp at hq; rcases hq with rfl | rfl | rfl | rfl <;> rfl),
    cell_of_row _ p 0 _ _ (0, 0) hst, cell_of_row _ p 1 _ _ (0, 0) hst, cell_of_row _ p 2 _ _ (0, 0) hst, cell_of_row _ p 3 _ _ (0, 0) hst, chg_cells _ _ _ _⟩
set_option maxHeartbeats 4000000 in
set_option maxRecDepth 100000 in
theorem Pop_none (w : World) (B gh bm : Nat) (kind : Int) (v : Value) (h : HS w B gh kind v bm []) :
    Calls Try.prog 15 #[.pointer (some ⟨gh, 0, none⟩)] w fun r w' => r = .returned (.tuple #[.int .i64 0, rv z, .bool false]) ∧ Got w w' B gh kind v bm [] := by
  have CT := fun w' (hb : Below w.heap.size w w') => Side.mk (Top_at w' B gh bm kind v [] (by simp) (h.below hb))
  have HH := Side.mk h
  clear h
  obtain ⟨x0, hx0⟩ : ∃ x : Int, x = 0 := ⟨_, rfl⟩
  obtain ⟨x1, hx1⟩ : ∃ x : Int, x = 0 := ⟨_, rfl⟩
  obtain ⟨x2, hx2⟩ : ∃ x : Int, x = 0 := ⟨_, rfl⟩
  obtain ⟨x3, hx3⟩ : ∃ x : Int, x = 0 := ⟨_, rfl⟩
  obtain ⟨x4, hx4⟩ : ∃ x : Int, x = 0 := ⟨_, rfl⟩
  have CU : ∀ w', Below w.heap.size w w' → Side (Calls Try.prog 12 #[.pointer (some ⟨gh, 0, none⟩)] w' fun r w'' => r = .returned (.tuple #[.int .i64 x0, .agg #[.int .i64 x1, .int .i64 x2, .int .i64 x3, .int .i64 x4], .bool false]) ∧ Below w'.heap.size w' w'') := fun w' hb => by
    subst hx0 hx1 hx2 hx3 hx4
    exact CT w' hb
  have HXS : Side (x0 = 0 ∧ x1 = 0 ∧ x2 = 0 ∧ x3 = 0 ∧ x4 = 0) := ⟨⟨hx0, hx1, hx2, hx3, hx4⟩⟩
  clear CT hx0 hx1 hx2 hx3 hx4
  go_enter Try.func15, Try.ntmps15
  go_wp2_with fail
  refine (CU _ (by (repeat (with_reducible first | exact Below.refl _ _ | apply below_drewN | apply below_drew | apply below_alloc)))).out.mono ?_
  rintro e w2 ⟨rfl, hb⟩
  have hpl : w.heap.size < w2.heap.size := by have := hb.size; simp at this; omega
  have hbox : w2.heap[w.heap.size]? = some (.cells #[.int .i64 0, .int .i64 0, .int .i64 0, .int .i64 0] 32 (0, 0)) := (hb.block _ (by simp)).trans (heap_alloc_new w _)
  have HB2 : Side (Below w.heap.size w w2) := ⟨below_then (by (repeat (with_reducible first | exact Below.refl _ _ | apply below_drewN | apply below_drew | apply below_alloc))) (by simp) hb⟩
  have HBX := Side.mk hbox
  clear hb hbox CU
  go_upto_region 4 with (fail)
  obtain ⟨p, hp⟩ : ∃ p, p = w.heap.size := ⟨_, rfl⟩
  have HPp := Side.mk hp
  rw [← hp] at hpl HBX ⊢
  clear hp
  obtain ⟨W3, hW3⟩ : ∃ W3, W3 = w2.alloc (.cells #[.int .i64 x1, .int .i64 x2, .int .i64 x3, .int .i64 x4] 32) := ⟨_, rfl⟩
  rw [← hW3]
  have c0 : W3.cell? ⟨w2.heap.size, 0, none⟩ = some (.int .i64 x1) := by rw [hW3]; exact (World.cell?_alloc_at _ _ _ _ rfl).trans rfl
  have c1 : W3.cell? ⟨w2.heap.size, 1, none⟩ = some (.int .i64 x2) := by rw [hW3]; exact (World.cell?_alloc_at _ _ _ _ rfl).trans rfl
  have c2 : W3.cell? ⟨w2.heap.size, 2, none⟩ = some (.int .i64 x3) := by rw [hW3]; exact (World.cell?_alloc_at _ _ _ _ rfl).trans rfl
  have c3 : W3.cell? ⟨w2.heap.size, 3, none⟩ = some (.int .i64 x4) := by rw [hW3]; exact (World.cell?_alloc_at _ _ _ _ rfl).trans rfl
  have hbp : W3.heap[p]? = some (.cells #[.int .i64 0, .int .i64 0, .int .i64 0, .int .i64 0] 32 (0, 0)) := by rw [hW3]; exact (Below.heap_alloc w2 _ p hpl).trans HBX.out
  have HB3 : Side (Below w.heap.size w W3) := ⟨by rw [hW3]; exact HB2.out.alloc HB2.out.size _⟩
  obtain ⟨q, hq⟩ : ∃ q, q = w2.heap.size := ⟨_, rfl⟩
  rw [← hq] at c0 c1 c2 c3 ⊢
  have HQ := Side.mk (box4 (w := W3.drew) x1 x2 x3 x4 hbp rfl)
  have HST := Side.mk HQ.out.1
  clear hW3 hbp hq HBX
  refine start_ (n := 6) (S := fun w' => True) (ds := []) #[false, false, false, false, false, false] (by kernel_rfl) rfl rfl trivial (fun _ => ?_)
  refine inv_at (B := [0, 0, 0, 1, 11, 31]) [0, 1, 2, 3, 4, 5] (fun a0_ b a w' => a = putSel a0_ b [(0, 18, .int .i64 x0), (1, 19, .agg #[.int .i64 x1, .int .i64 x2, .int .i64 x3, .int .i64 x4]), (2, 20, .bool false), (3, 2, .int .i64 x0), (5, 4, .bool false)] ∧ One W3.drew (fun w' => w' = W3.drew.setCells p 0 [.int .i64 x1, .int .i64 x2, .int .i64 x3, .int .i64 x4]) 4 b w') rfl (by kernel_rfl) (by kernel_rfl) (by kernel_rfl) ?_ ?_ ?_
  · exact ⟨by simp only [putSel, Bool.false_eq_true, if_false], One.start⟩
  · refine steps_cons (by rintro b a w' ⟨ha, HI⟩ hb hon hoff; refine ⟨_, rfl, fun K hK => ?_⟩; have e5 := poff ha (t := 5) rfl rfl; exact value_ (v := .int .i64 x0) (by rfl) rfl (by clear HI ha; go_simp) (hK.out _ _ ⟨upk ha 0 hb rfl rfl, HI.low (by decide)⟩)) ?_
    refine steps_cons (by rintro b a w' ⟨ha, HI⟩ hb hon hoff; refine ⟨_, rfl, fun K hK => ?_⟩; have e6 := poff ha (t := 6) rfl rfl; obtain rfl := HI.n (hoff 4 rfl); exact value_ (v := .agg #[.int .i64 x1, .int .i64 x2, .int .i64 x3, .int .i64 x4]) (by rfl) rfl (by clear HI ha; go_simp) (hK.out _ _ ⟨upk ha 1 hb rfl rfl, HI.low (by decide)⟩)) ?_
    refine steps_cons (by rintro b a w' ⟨ha, HI⟩ hb hon hoff; refine ⟨_, rfl, fun K hK => ?_⟩; have e7 := poff ha (t := 7) rfl rfl; exact value_ (v := .bool false) (by rfl) rfl (by clear HI ha; go_simp) (hK.out _ _ ⟨upk ha 2 hb rfl rfl, HI.low (by decide)⟩)) ?_
    refine steps_cons (by rintro b a w' ⟨ha, HI⟩ hb hon hoff; refine ⟨_, rfl, fun K hK => ?_⟩; have e18 := pon ha 0 (hon 0 rfl) rfl rfl rfl; exact value_ (v := .int .i64 x0) (by rfl) rfl (by clear HI ha; go_simp) (hK.out _ _ ⟨upk ha 3 hb rfl rfl, HI.low (by decide)⟩)) ?_
    refine steps_cons (by rintro b a w' ⟨ha, HI⟩ hb hon hoff; refine ⟨_, rfl, fun K hK => ?_⟩; have e3 := poff ha (t := 3) rfl rfl; have e19 := pon ha 1 (hon 1 rfl) rfl rfl rfl; obtain rfl := HI.n hb; exact skip_ (by rfl) rfl (by unfold execOp; simp [Act.eval, e3, e19, HST.out]) (hK.out _ _ ⟨ups ha rfl, One.set rfl⟩)) ?_
    refine steps_cons (by rintro b a w' ⟨ha, HI⟩ hb hon hoff; refine ⟨_, rfl, fun K hK => ?_⟩; have e20 := pon ha 2 (hon 2 rfl) rfl rfl rfl; exact value_ (v := .bool false) (by rfl) rfl (by clear HI ha; go_simp) (hK.out _ _ ⟨upk ha 4 hb rfl rfl, HI.low (by decide)⟩)) ?_
    exact steps_nil
  · rintro b a w' hall ⟨ha, HI⟩
    have hb0_ := hall 0 rfl; have hb1_ := hall 1 rfl; have hb2_ := hall 2 rfl; have hb3_ := hall 3 rfl; have hb4_ := hall 4 rfl; have hb5_ := hall 5 rfl
    subst ha
    simp only [putSel, hb0_, hb1_, hb2_, hb3_, hb5_, if_true, Act.put, List.setIfInBounds_toArray, List.set_cons_zero, List.set_cons_succ]
    obtain rfl := HI.y hb4_
    clear hall HI hb0_ hb1_ hb2_ hb3_ hb4_ hb5_
    refine ‹∀ (a : Act) (w : World), Code.wp Try.prog _ _ a w → _› _ _ ?_
    obtain ⟨-, d0, d1, d2, d3, dc⟩ := HQ.out
    have HC := Side.mk dc
    clear dc
    go_wp2
    refine bodyPost_ret (v := .tuple #[.int .i64 x0, .agg #[.int .i64 x1, .int .i64 x2, .int .i64 x3, .int .i64 x4], .bool false]) (by simp [results, Try.results15, go_sem, d0, d1, d2, d3]) rfl ⟨by obtain ⟨rfl, rfl, rfl, rfl, rfl⟩ := HXS.out; rfl, ?_⟩
    have hbl : Below w.heap.size w (W3.drew.setCells p 0 [.int .i64 x1, .int .i64 x2, .int .i64 x3, .int .i64 x4]) :=
      (below_drew HB3.out).trans (Chg.below HC.out HB3.out.size (fun k hk => by rw [hk, HPp.out]; exact Nat.le_refl _))
    exact Got.same HH.out (fun j hj hjl => absurd hjl (by simp)) (List.Perm.refl _) hbl
set_option maxHeartbeats 4000000 in
set_option maxRecDepth 100000 in
theorem Pop_some (w : World) (B gh bm : Nat) (kind : Int) (v : Value) (l : List It) (h : HS w B gh kind v bm l) (ho : Ordered kind (at_ l) l.length) (hl : l.length ≤ 100000) (h0 : 0 < l.length) (x : It) (hx : at_ l 0 = x) :
    Calls Try.prog 15 #[.pointer (some ⟨gh, 0, none⟩)] w fun r w' => r = .returned (.tuple #[.int .i64 x.1, rv x, .bool true]) ∧ Got w w' B gh kind v bm (drop l x.1) := by
  have hxm : x ∈ l := by rw [← hx]; exact at_mem h0
  have hws := h.wf x hxm
  have hhs : hasS l x.1 = true := hasS_iff.2 (List.mem_map.2 ⟨x, hxm, rfl⟩)
  have CT := fun w' (hb : Below w.heap.size w w') => Side.mk (Top_at w' B gh bm kind v l (by omega) (h.below hb))
  rw [hx, decide_eq_true h0] at CT
  have CD := fun w' (hb : Below w.heap.size w w') => Side.mk (Drop_at w' B gh bm kind v l (h.below hb) ho hl x.1 hws)
  rw [hhs, if_pos rfl] at CD
  obtain ⟨x0, x1, x2, x3, x4⟩ := x
  have HPF : Side (∀ k, Foot gh bm v k → k < w.heap.size) := ⟨by
    obtain ⟨D, hh1, _⟩ := h.hp
    rintro k (rfl | rfl | hk)
    · exact hh1.lt
    · exact hh1.map.lt
    · exact Row.lt hh1.row k hk.symm⟩
  clear h ho hl h0 hx hxm hws hhs
  go_enter Try.func15, Try.ntmps15
  go_wp2_with fail
  refine (CT _ (by (repeat (with_reducible first | exact Below.refl _ _ | apply below_drewN | apply below_drew | apply below_alloc)))).out.mono ?_
  rintro e w2 ⟨rfl, hb⟩
  have hpl : w.heap.size < w2.heap.size := by have := hb.size; simp at this; omega
  have hbox : w2.heap[w.heap.size]? = some (.cells #[.int .i64 0, .int .i64 0, .int .i64 0, .int .i64 0] 32 (0, 0)) := (hb.block _ (by simp)).trans (heap_alloc_new w _)
  have HB2 : Side (Below w.heap.size w w2) := ⟨below_then (by (repeat (with_reducible first | exact Below.refl _ _ | apply below_drewN | apply below_drew | apply below_alloc))) (by simp) hb⟩
  have HBX := Side.mk hbox
  clear hb hbox CT
  go_wp2_with fail
  obtain ⟨p, hp⟩ : ∃ p, p = w.heap.size := ⟨_, rfl⟩
  have HPp := Side.mk hp
  rw [← hp] at hpl HBX ⊢
  clear hp
  obtain ⟨W2, hW2⟩ : ∃ W2, W2 = w2.alloc (.cells #[.int .i64 x1, .int .i64 x2, .int .i64 x3, .int .i64 x4] 32) := ⟨_, rfl⟩
  rw [← hW2]
  have hbp : W2.heap[p]? = some (.cells #[.int .i64 0, .int .i64 0, .int .i64 0, .int .i64 0] 32 (0, 0)) := by rw [hW2]; exact (Below.heap_alloc w2 _ p hpl).trans HBX.out
  have hbq : W2.heap[w2.heap.size]? = some (.cells #[.int .i64 x1, .int .i64 x2, .int .i64 x3, .int .i64 x4] 32 (0, 0)) := by rw [hW2]; exact heap_alloc_new w2 _
  have HB3 : Side (Below w.heap.size w W2) := ⟨by rw [hW2]; exact HB2.out.alloc HB2.out.size _⟩
  obtain ⟨q, hq⟩ : ∃ q, q = w2.heap.size := ⟨_, rfl⟩
  rw [← hq] at hbq ⊢
  have hqw : w.heap.size ≤ q := by rw [hq]; exact HB2.out.size
  have HBP := Side.mk hbp
  have HBQ := Side.mk hbq
  clear hW2 hbp hbq hq HBX
  have CE := CD W2 HB3.out
  clear CD
  refine CE.out.mono ?_
  rintro e W3 ⟨rfl, hgot⟩
  obtain ⟨v', l', g1, g2, g3, g4, g5⟩ := hgot
  have hbp : W3.heap[p]? = some (.cells #[.int .i64 0, .int .i64 0, .int .i64 0, .int .i64 0] 32 (0, 0)) := (g4.block p (Array.getElem?_eq_some_iff.1 HBP.out).1 (fun hf => by have := HPF.out p hf; have := HPp.out; omega)).trans HBP.out
  have hbq : W3.heap[q]? = some (.cells #[.int .i64 x1, .int .i64 x2, .int .i64 x3, .int .i64 x4] 32 (0, 0)) := (g4.block q (Array.getElem?_eq_some_iff.1 HBQ.out).1 (fun hf => by have := HPF.out q hf; omega)).trans HBQ.out
  have c0 := cell_of_row W3 q 0 _ _ (0, 0) hbq
  have c1 := cell_of_row W3 q 1 _ _ (0, 0) hbq
  have c2 := cell_of_row W3 q 2 _ _ (0, 0) hbq
  have c3 := cell_of_row W3 q 3 _ _ (0, 0) hbq
  have HQ := Side.mk (box4 (w := W3.drew) x1 x2 x3 x4 hbp rfl)
  have HST := Side.mk HQ.out.1
  have HG := Side.mk (And.intro g1 (And.intro g2 (And.intro g3 (And.intro g4 g5))))
  have HBW : Side (W2.heap.size ≤ W3.heap.size) := ⟨g4.size⟩
  have HPW : Side (p < W2.heap.size) := ⟨(Array.getElem?_eq_some_iff.1 HBP.out).1⟩
  have hbpe := HBP.out
  have HFP : Side (∀ k, Foot gh bm v' k → k ≠ p) := ⟨fun k hk he => by
    subst he
    rcases hk with h | h | h
    · exact absurd (HPF.out _ (.inl h)) (by have := HPp.out; omega)
    · exact absurd (HPF.out _ (.inr (.inl h))) (by have := HPp.out; omega)
    · rcases g5 with e | ⟨k2, e, e2⟩
      · exact absurd (HPF.out _ (.inr (.inr (h.trans e)))) (by have := HPp.out; omega)
      · rw [e] at h
        have := Option.some.inj h
        have := HPW.out
        omega⟩
  clear hbp hbq g1 g2 g3 g4 g5 CE hbpe
  simp only [List.getElem?_toArray, List.getElem?_cons_zero, List.getElem?_cons_succ] at c0 c1 c2 c3
  go_upto_region 4 with (fail)
  refine start_ (n := 6) (S := fun w' => True) (ds := []) #[false, false, false, false, false, false] (by kernel_rfl) rfl rfl trivial (fun _ => ?_)
  refine inv_at (B := [0, 0, 0, 1, 11, 31]) [0, 1, 2, 3, 4, 5] (fun a0_ b a w' => a = putSel a0_ b [(0, 18, .int .i64 x0), (1, 19, .agg #[.int .i64 x1, .int .i64 x2, .int .i64 x3, .int .i64 x4]), (2, 20, .bool true), (3, 2, .int .i64 x0), (5, 4, .bool true)] ∧ One W3.drew (fun w' => w' = W3.drew.setCells p 0 [.int .i64 x1, .int .i64 x2, .int .i64 x3, .int .i64 x4]) 4 b w') rfl (by kernel_rfl) (by kernel_rfl) (by kernel_rfl) ?_ ?_ ?_
  · exact ⟨by simp only [putSel, Bool.false_eq_true, if_false], One.start⟩
  · refine steps_cons (by rintro b a w' ⟨ha, HI⟩ hb hon hoff; refine ⟨_, rfl, fun K hK => ?_⟩; have e5 := poff ha (t := 5) rfl rfl; exact value_ (v := .int .i64 x0) (by rfl) rfl (by clear HI ha; go_simp) (hK.out _ _ ⟨upk ha 0 hb rfl rfl, HI.low (by decide)⟩)) ?_
    refine steps_cons (by rintro b a w' ⟨ha, HI⟩ hb hon hoff; refine ⟨_, rfl, fun K hK => ?_⟩; have e6 := poff ha (t := 6) rfl rfl; obtain rfl := HI.n (hoff 4 rfl); exact value_ (v := .agg #[.int .i64 x1, .int .i64 x2, .int .i64 x3, .int .i64 x4]) (by rfl) rfl (by clear HI ha; go_simp) (hK.out _ _ ⟨upk ha 1 hb rfl rfl, HI.low (by decide)⟩)) ?_
    refine steps_cons (by rintro b a w' ⟨ha, HI⟩ hb hon hoff; refine ⟨_, rfl, fun K hK => ?_⟩; have e7 := poff ha (t := 7) rfl rfl; exact value_ (v := .bool true) (by rfl) rfl (by clear HI ha; go_simp) (hK.out _ _ ⟨upk ha 2 hb rfl rfl, HI.low (by decide)⟩)) ?_
    refine steps_cons (by rintro b a w' ⟨ha, HI⟩ hb hon hoff; refine ⟨_, rfl, fun K hK => ?_⟩; have e18 := pon ha 0 (hon 0 rfl) rfl rfl rfl; exact value_ (v := .int .i64 x0) (by rfl) rfl (by clear HI ha; go_simp) (hK.out _ _ ⟨upk ha 3 hb rfl rfl, HI.low (by decide)⟩)) ?_
    refine steps_cons (by rintro b a w' ⟨ha, HI⟩ hb hon hoff; refine ⟨_, rfl, fun K hK => ?_⟩; have e3 := poff ha (t := 3) rfl rfl; have e19 := pon ha 1 (hon 1 rfl) rfl rfl rfl; obtain rfl := HI.n hb; exact skip_ (by rfl) rfl (by unfold execOp; simp [Act.eval, e3, e19, HST.out]) (hK.out _ _ ⟨ups ha rfl, One.set rfl⟩)) ?_
    refine steps_cons (by rintro b a w' ⟨ha, HI⟩ hb hon hoff; refine ⟨_, rfl, fun K hK => ?_⟩; have e20 := pon ha 2 (hon 2 rfl) rfl rfl rfl; exact value_ (v := .bool true) (by rfl) rfl (by clear HI ha; go_simp) (hK.out _ _ ⟨upk ha 4 hb rfl rfl, HI.low (by decide)⟩)) ?_
    exact steps_nil
  · rintro b a w' hall ⟨ha, HI⟩
    have hb0_ := hall 0 rfl; have hb1_ := hall 1 rfl; have hb2_ := hall 2 rfl; have hb3_ := hall 3 rfl; have hb4_ := hall 4 rfl; have hb5_ := hall 5 rfl
    subst ha
    simp only [putSel, hb0_, hb1_, hb2_, hb3_, hb5_, if_true, Act.put, List.setIfInBounds_toArray, List.set_cons_zero, List.set_cons_succ]
    obtain rfl := HI.y hb4_
    clear hall HI hb0_ hb1_ hb2_ hb3_ hb4_ hb5_
    refine ‹∀ (a : Act) (w : World), Code.wp Try.prog _ _ a w → _› _ _ ?_
    obtain ⟨-, d0, d1, d2, d3, dc⟩ := HQ.out
    have HC := Side.mk dc
    clear dc
    go_wp2
    refine bodyPost_ret (v := .tuple #[.int .i64 x0, .agg #[.int .i64 x1, .int .i64 x2, .int .i64 x3, .int .i64 x4], .bool true]) (by simp [results, Try.results15, go_sem, d0, d1, d2, d3]) rfl ⟨rfl, ?_⟩
    obtain ⟨g1, g2, g3, g4, g5⟩ := HG.out
    have hc : Chg W3 (W3.drew.setCells p 0 [.int .i64 x1, .int .i64 x2, .int .i64 x3, .int .i64 x4]) (fun k => k = p) := ⟨HC.out.os, HC.out.tape, HC.out.output, HC.out.size, HC.out.block⟩
    refine ⟨v', l', ⟨?_, g1.nd, g1.sl⟩, g2, g3, ?_, ?_⟩
    · obtain ⟨D, e1, e2⟩ := g1.hp
      exact ⟨D, e1.chg hc (fun k hk he => HFP.out k hk he), e2⟩
    · refine Chg.trans (Chg.trans (Chg.of_below HB3.out) g4 (fun _ _ h => h)) hc (fun k hk he => ?_)
      have := HPp.out
      omega
    · rcases g5 with e | ⟨k2, e, e2⟩
      · exact .inl e
      · exact .inr ⟨k2, e, by have := HB3.out.size; omega⟩
theorem Pop_at (w : World) (B gh bm : Nat) (kind : Int) (v : Value) (l : List It) (h : HS w B gh kind v bm l) (ho : Ordered kind (at_ l) l.length) (hl : l.length ≤ 100000) :
    Calls Try.prog 15 #[.pointer (some ⟨gh, 0, none⟩)] w fun r w' => r = .returned (.tuple #[.int .i64 (at_ l 0).1, rv (at_ l 0), .bool (decide (0 < l.length))]) ∧ Got w w' B gh kind v bm (drop l (at_ l 0).1) := by
  cases l with
  | nil => exact Pop_none w B gh bm kind v h
  | cons x r => exact Pop_some w B gh bm kind v _ h ho hl (by simp) _ rfl
end Go.Proofs.Ytiebpmbongmgkaa.HpJ

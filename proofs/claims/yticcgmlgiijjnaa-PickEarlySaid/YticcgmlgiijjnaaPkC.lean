/- Package pick, third text: Best, walked by hand. No condition but that the row has 1000 tasks at most, with numbers of 64 bits and releases within 2^40. -/
import Derived.Test.YticcgmlgiijjnaaPkB
set_option linter.unusedVariables false
set_option linter.unusedSimpArgs false
namespace Go.Proofs.Yticcgmlgiijjnaa.PkC
open Go.RowKit Go.Proofs.Yticcgmlgiijjnaa.Kit Go.Proofs.Yticcgmlgiijjnaa.Kit3 Go.Proofs.Yticcgmlgiijjnaa.Kit4 Go.Proofs.Yticcgmlgiijjnaa.Kit5 HpPlain Go.Maps EvPlain Go.Proofs.Yticcgmlgiijjnaa.HpA Go.Proofs.Yticcgmlgiijjnaa.HpB Go.Proofs.Yticcgmlgiijjnaa.HpE Go.Proofs.Yticcgmlgiijjnaa.HpI Go.Proofs.Yticcgmlgiijjnaa.HpK Go.Proofs.Yticcgmlgiijjnaa.Win Go.Proofs.Yticcgmlgiijjnaa.Rank Go.Proofs.Yticcgmlgiijjnaa.Cmp Go.Proofs.Yticcgmlgiijjnaa.PkPlain Go.Proofs.Yticcgmlgiijjnaa.PkA Go.Proofs.Yticcgmlgiijjnaa.PkB
open Go.Proofs.YticcgmlgiijjnaaW.PrintLast
set_option maxHeartbeats 8000000 in
set_option maxRecDepth 100000 in
theorem Best_at (a : Option Addr) (n cap : Nat) (ts : List Tk) (c K : Int) (y : Bool) (w : World) (hrow : TRow w 0 (.slice a n cap) ts) (hl : ts.length ≤ 1000) (hfit : ∀ i, i < ts.length → Fit (PkB.at_ ts i)) (hid : ∀ i, i < ts.length → (kv (PkB.at_ ts i).id).wf = true) :
    Calls Try.prog 15 #[.slice a n cap, .int .i64 c, .int .i64 K, .bool y] w fun r w' => ∃ v, r = .returned v ∧ IRow w' w.heap.size v (ids (PkB.at_ ts) ts.length c K.toNat y) ∧ Below w.heap.size w w' := by
  obtain ⟨a', c', hsh, -, -⟩ := hrow.shape E11
  simp at hsh
  obtain ⟨rfl, rfl, rfl⟩ := hsh
  have HROW := Side.mk hrow
  have HFIT := Side.mk hfit
  have HID := Side.mk hid
  clear hrow hfit hid
  have hmm := @run_makeMap Try.prog
  go_enter Try.func15, Try.ntmps15
  go_wp2_with fail
  refine (New_at _ 1).mono ?_
  rintro e w1 ⟨rfl, rfl⟩
  have S0 := Side.mk (St.start (Below.refl w.heap.size w) 1)
  generalize w.heap.size + 1 = gh at *
  generalize (w.alloc (.map #[] 0)).alloc (.cells #[.int .i64 1, .slice none 0 0, .map (some w.heap.size)] 68) = w1 at *
  go_upto_region 3 with (fail)
  have LA0 : Side (La w gh w1.heap.size ts c y 0 (w1.alloc (.map #[] 0))) := ⟨⟨St.sub (St.more S0.out ((Below.refl _ _).alloc (Nat.le_refl _) _)) (fun k hk => .inr (by simp; omega)), by rw [sn_zero]; exact Seen.made w1, S0.out.below.size⟩⟩
  clear S0
  generalize w1.heap.size = bm at *
  generalize w1.alloc (.map #[] 0) = w2 at *
  go_wp2_with fail
  go_loopw [21] (fun v21 wr => ∃ i : Nat, v21 = .int .i64 (i : Int) ∧ i ≤ ts.length ∧ Side (La w gh bm ts c y i wr)) (fun v21 _ => (ts.length - intOf v21).toNat)
  case atStart => exact ⟨0, rfl, Nat.zero_le _, LA0⟩
  case round =>
    clear LA0
    obtain ⟨i, rfl, hi, HA⟩ := hrel
    have hi0 : (0 : Int) ≤ i := by omega
    obtain ⟨wp, hwp⟩ : ∃ wp : World, wp = wr := ⟨_, rfl⟩
    rw [← hwp] at HA ⊢
    clear hwp
    by_cases hlt : i < ts.length
    · have hii : (i : Int) < ts.length := by omega
      have hi1 : (i : Int) + 1 ≤ 9223372036854775807 := by omega
      obtain ⟨g, rfl, hgl, -, hc⟩ := TRow.get (GRow.below HROW.out HA.out.st.below) i hlt
      have HF := Side.mk (HFIT.out i hlt)
      have HI := Side.mk (HID.out i hlt)
      have HFR := Side.mk (sn_fresh ts i)
      have HON : Side (on0 (PkB.at_ ts) c y i = (fresh (PkB.at_ ts) i && can (PkB.at_ ts i) c y)) := ⟨rfl⟩
      have HSN := Side.mk (sn_succ ts i)
      obtain ⟨t, ht⟩ : ∃ t, t = PkB.at_ ts i := ⟨_, rfl⟩
      have HT := Side.mk ht
      rw [← ht] at hc HF HI HFR HON HSN
      clear ht
      have CAN := fun w => Side.mk (Can_at t HF.out c y w)
      have RNK := fun w => Side.mk (Rank_at t HF.out w)
      obtain ⟨v, hv⟩ : ∃ v, v = tcl t := ⟨_, rfl⟩
      have u0 : wp.cell? ⟨g, i * 11, none⟩ = some (.int .i64 t.id) := hc 0 _ rfl
      have u1 : wp.cell? ⟨g, i * 11 + 1, none⟩ = some (.int .i64 t.e) := hc 1 _ rfl
      have u2 : wp.cell? ⟨g, i * 11 + 2, none⟩ = some (.int .i64 t.p) := hc 2 _ rfl
      have u3 : wp.cell? ⟨g, i * 11 + 3, none⟩ = some (.bool t.s) := hc 3 _ rfl
      have u4 : wp.cell? ⟨g, i * 11 + 4, none⟩ = some (.bool t.l) := hc 4 _ rfl
      have u5 : wp.cell? ⟨g, i * 11 + 5, none⟩ = some (.bool t.wt) := hc 5 _ rfl
      have u6 : wp.cell? ⟨g, i * 11 + 6, none⟩ = some (.bool t.a) := hc 6 _ rfl
      have u7 : wp.cell? ⟨g, i * 11 + 7, none⟩ = some (.int .i64 t.r) := hc 7 _ rfl
      have u8 : wp.cell? ⟨g, i * 11 + 8, none⟩ = some (.int .i64 t.g) := hc 8 _ rfl
      have u9 : wp.cell? ⟨g, i * 11 + 9, none⟩ = some (.bool t.d) := hc 9 _ rfl
      have u10 : wp.cell? ⟨g, i * 11 + 10, none⟩ = some (.int .i64 t.c) := hc 10 _ rfl
      clear hc hv
      go_upto_region 6 with (fail)
      obtain ⟨p, hp⟩ : ∃ p, p = wp.heap.size := ⟨_, rfl⟩
      obtain ⟨W5, hW5⟩ : ∃ W5, W5 = wp.alloc (.cells #[.int .i64 t.id, .int .i64 t.e, .int .i64 t.p, .bool t.s, .bool t.l, .bool t.wt, .bool t.a, .int .i64 t.r, .int .i64 t.g, .bool t.d, .int .i64 t.c] 27) := ⟨_, rfl⟩
      rw [← hW5, ← hp]
      have A5 : Side (La w gh bm ts c y i W5) := ⟨HA.out.below (by rw [hW5]; exact (Below.refl _ _).alloc (Nat.le_refl _) _)⟩
      have V5 : Side (Val W5 27 p (tcl t)) := ⟨⟨_, rfl, by rw [hW5, hp]; exact heap_alloc_new wp _⟩⟩
      clear hW5 hp HA u0 u1 u2 u3 u4 u5 u6 u7 u8 u9 u10 hgl
      obtain ⟨bb, hbb⟩ : ∃ bb, bb = on0 (PkB.at_ ts) c y i := ⟨_, rfl⟩
      have HBB := Side.mk hbb
      clear hbb
      have hpl := V5.out.lt
      have c0 := V5.out.cell 0 _ rfl
      go_cut [36] (fun v we => v = .bool bb ∧ Side (Below W5.heap.size W5 we))
      case first =>
        have H2 := HBB.out.trans HON.out
        rw [HFR.out] at H2
        cases hs : sn ts i t.id
        · rw [hs] at H2
          have hlook := A5.out.seen.look t.id HI.out false hs
          have c1 := V5.out.cell 1 _ rfl
          have c2 := V5.out.cell 2 _ rfl
          have c3 := V5.out.cell 3 _ rfl
          have c4 := V5.out.cell 4 _ rfl
          have c5 := V5.out.cell 5 _ rfl
          have c6 := V5.out.cell 6 _ rfl
          have c7 := V5.out.cell 7 _ rfl
          have c8 := V5.out.cell 8 _ rfl
          have c9 := V5.out.cell 9 _ rfl
          have c10 := V5.out.cell 10 _ rfl
          have H2' : bb = can t c y := H2
          rw [← H2'] at CAN
          clear H2 H2' hs RNK
          go_wp2_with fail
          refine (CAN _).out.mono ?_
          rintro e w6 ⟨rfl, hb6⟩
          have HB6 := Side.mk hb6
          clear hb6
          go_wp2
          go_meet
          case rel => exact ⟨rfl, HB6⟩
        · rw [hs] at H2
          have hlook := A5.out.seen.look t.id HI.out true hs
          obtain rfl : bb = false := H2
          clear hs RNK CAN
          go_wp2
          go_meet
          case rel => exact ⟨rfl, ⟨Below.refl _ _⟩⟩
      case rest =>
      obtain ⟨rfl, HB⟩ := hcut
      have A6 := Side.mk (A5.out.below HB.out)
      have V6 := Side.mk (V5.out.below HB.out)
      clear A5 V5 HB c0 hpl CAN HON HFR
      obtain ⟨wq, hwq⟩ : ∃ wq : World, wq = wc := ⟨_, rfl⟩
      rw [← hwq] at A6 V6 ⊢
      clear hwq
      go_step
      go_cut [36] (fun v wf => v = .bool bb ∧ Side (Lm w gh bm p ts c y i wf))
      case first =>
        cases bb
        · have HM : Side (Lm w gh bm p ts c y i wq) := ⟨⟨by rw [alv_skip _ _ _ HBB.out.symm]; exact A6.out.st, A6.out.seen, A6.out.bb, by rw [← HT.out]; exact V6.out⟩⟩
          go_wp2
          go_meet
          case rel => exact ⟨rfl, HM⟩
        · have hpl := V6.out.lt
          have c0 := V6.out.cell 0 _ rfl
          have c1 := V6.out.cell 1 _ rfl
          have c2 := V6.out.cell 2 _ rfl
          have c3 := V6.out.cell 3 _ rfl
          have c4 := V6.out.cell 4 _ rfl
          have c5 := V6.out.cell 5 _ rfl
          have c6 := V6.out.cell 6 _ rfl
          have c7 := V6.out.cell 7 _ rfl
          have c8 := V6.out.cell 8 _ rfl
          have c9 := V6.out.cell 9 _ rfl
          have c10 := V6.out.cell 10 _ rfl
          go_wp2_with fail
          refine (RNK _).out.mono ?_
          rintro e w6 ⟨rfl, hb6⟩
          have A7 := Side.mk (A6.out.below hb6)
          have V7 := Side.mk (V6.out.below hb6)
          clear hb6 A6 V6 hpl c0 c1 c2 c3 c4 c5 c6 c7 c8 c9 c10
          have CP := Put_st A7.out.st (by have := alv_len (PkB.at_ ts) i (on0 (PkB.at_ ts) c y); omega) (itm (PkB.at_ ts) i) ⟨by simp [itm], by simp only [itm]; omega⟩ _ (alv_put (PkB.at_ ts) i _ HBB.out.symm)
          rw [show HpG.rv (itm (PkB.at_ ts) i) = (rk t).v by rw [HT.out]; rfl, show (itm (PkB.at_ ts) i).1 = (i : Int) from rfl] at CP
          go_wp2_with fail
          refine CP.mono ?_
          rintro e w8 ⟨rfl, s8, f8⟩
          have HM : Side (Lm w gh bm p ts c y i w8) := ⟨⟨s8, A7.out.seen.move ((f8.block bm _ (Array.getElem?_eq_getElem A7.out.seen.lt) (.inl rfl)).trans (Array.getElem?_eq_getElem A7.out.seen.lt).symm), A7.out.bb, by rw [← HT.out]; exact Val.fr V7.out f8 (by decide) (by decide)⟩⟩
          clear s8 f8 CP A7 V7
          go_wp2
          go_meet
          case rel => exact ⟨rfl, HM⟩
      case rest =>
      obtain ⟨rfl, HM⟩ := hcut
      clear A6 V6 RNK HBB
      obtain ⟨wq, hwq⟩ : ∃ wq : World, wq = wc := ⟨_, rfl⟩
      rw [← hwq] at HM ⊢
      clear hwq
      have c0 := HM.out.vl.cell 0 _ rfl
      rw [← HT.out] at c0
      have hpl := HM.out.vl.lt
      have hnx := HM.out.next (by omega) (by rw [← HT.out]; exact HI.out)
      rw [← HT.out] at hnx
      obtain ⟨w9, hrun, h9⟩ := hnx
      have H9 := Side.mk h9
      clear h9 HM
      go_step
      go_wp2
      go_roundw
      case rel => exact ⟨i + 1, by simp, by omega, H9⟩
      case measure => simp [intOf]; omega
    · have hii : ¬ (i : Int) < ts.length := by omega
      obtain rfl : i = ts.length := by omega
      obtain ⟨on, hon⟩ : ∃ on, on = on0 (PkB.at_ ts) c y := ⟨_, rfl⟩
      have HPK : Side (picks (PkB.at_ ts) ts.length K.toNat (on0 (PkB.at_ ts) c y) = [] ++ picks (PkB.at_ ts) ts.length (K.toNat - 0) on) := ⟨by rw [hon]; rfl⟩
      have L0 : Side (Lb w gh ts on (.slice none 0 0) (([] : List Nat).map fun q => (PkB.at_ ts q).id) wp) := ⟨⟨by rw [hon]; exact St.sub HA.out.st (fun _ h => h.elim), GRow.nil _ _⟩⟩
      clear hon hlt hi HA
      go_wp2_with fail
      go_loopg [13] ((alv (PkB.at_ ts) ts.length on).length) (fun gn v13 wr2 => ∃ (on2 : Nat → Bool) (o : List Nat), (alv (PkB.at_ ts) ts.length on2).length = gn ∧ o.length ≤ K.toNat ∧ o.length + gn ≤ ts.length ∧ Side (picks (PkB.at_ ts) ts.length K.toNat (on0 (PkB.at_ ts) c y) = o ++ picks (PkB.at_ ts) ts.length (K.toNat - o.length) on2) ∧ Side (Lb w gh ts on2 v13 (o.map fun q => (PkB.at_ ts q).id) wr2))
      case atStart => exact ⟨on, [], rfl, by simp, by simpa using alv_len _ _ _, HPK, L0⟩
      case round =>
        clear L0 HPK on
        obtain ⟨on, o, hgn, hoK, hol, HPK, HL⟩ := hrel
        obtain ⟨wq, hwq⟩ : ∃ wq : World, wq = wr := ⟨_, rfl⟩
        rw [← hwq] at HL ⊢
        clear hwq
        have HGN := Side.mk hgn
        clear hgn
        obtain ⟨a3, c3, rfl, -, -⟩ := HL.out.row.shape E1
        rw [List.length_map] at *
        have ho0 : (0 : Int) ≤ o.length := by omega
        by_cases hjk : (o.length : Int) < K
        · have hmK : K.toNat - o.length = (K.toNat - (o.length + 1)) + 1 := by omega
          have HMK := Side.mk hmK
          clear hmK
          rcases bst_tops (PkB.at_ ts) ts.length on with ⟨hb1, hnil⟩ | ⟨q, hq, hb1, hoq, hfirst⟩
          · have CP := Pop_st HL.out.st (by have := alv_len (PkB.at_ ts) ts.length on; omega) HpPlain.z false (.inl ⟨hnil, rfl, rfl⟩) _ rfl
            have HR : Side (ids (PkB.at_ ts) ts.length c K.toNat y = o.map fun q => (PkB.at_ ts q).id) := ⟨by unfold ids; rw [HPK.out, picks_none hb1, List.append_nil]⟩
            clear hb1 hnil HPK HMK
            go_wp2_with fail
            refine CP.mono ?_
            rintro e w2 ⟨rfl, s2, f2⟩
            have R2 : Side (IRow w2 w.heap.size _ _) := ⟨GRow.fr HL.out.row f2 (by decide) (by decide)⟩
            have S2 := Side.mk s2
            clear s2 f2 CP HL
            go_wp2
            go_ret
            refine ⟨_, rfl, ?_, ?_⟩
            · rw [HR.out]
              exact GRow.below R2.out ((Below.refl _ _).alloc (Nat.le_refl _) _)
            · exact S2.out.below.trans (((Below.refl _ _).alloc (Nat.le_refl _) _).mono S2.out.below.size)
          · have CP := Pop_st HL.out.st (by have := alv_len (PkB.at_ ts) ts.length on; omega) (itm (PkB.at_ ts) q) true (.inr ⟨hfirst, rfl⟩) _ rfl
            have HPK2 : Side (picks (PkB.at_ ts) ts.length K.toNat (on0 (PkB.at_ ts) c y) = (o ++ [q]) ++ picks (PkB.at_ ts) ts.length (K.toNat - (o ++ [q]).length) (upd on q false)) := ⟨by
              rw [HPK.out, HMK.out, picks_some hb1, List.length_append, List.length_singleton, List.append_assoc, List.singleton_append]⟩
            have HDL := Side.mk (alv_dlen (PkB.at_ ts) ts.length on q hq hoq)
            have HDP := Side.mk (alv_drop (PkB.at_ ts) ts.length on q)
            have hq0 : (0 : Int) ≤ q := by omega
            have hqi : (q : Int) < ts.length := by omega
            clear hb1 hfirst hoq HPK
            go_wp2_with fail
            refine CP.mono ?_
            rintro e w2 ⟨rfl, s2, f2⟩
            have R2 : Side (IRow w2 w.heap.size _ _) := ⟨GRow.fr HL.out.row f2 (by decide) (by decide)⟩
            have S2 : Side (St w w2 (fun _ => False) gh 1 (alv (PkB.at_ ts) ts.length (upd on q false))) := ⟨St.perm s2 HDP.out⟩
            clear s2 f2 CP HL
            go_upto_region 14 with (fail)
            rw [show (itm (PkB.at_ ts) q).fst = (q : Int) from rfl]
            obtain ⟨W7, hW7⟩ : ∃ W7, W7 = w2.alloc (.cells #[.int .i64 (itm (PkB.at_ ts) q).snd.fst, .int .i64 (itm (PkB.at_ ts) q).snd.snd.fst, .int .i64 (itm (PkB.at_ ts) q).snd.snd.snd.fst, .int .i64 (itm (PkB.at_ ts) q).snd.snd.snd.snd] 32) := ⟨_, rfl⟩
            rw [← hW7]
            have hb7 : Below w2.heap.size w2 W7 := by rw [hW7]; exact (Below.refl _ _).alloc (Nat.le_refl _) _
            have S7 := Side.mk (S2.out.below' hb7)
            have R7 : Side (IRow W7 w.heap.size _ _) := ⟨GRow.below R2.out hb7⟩
            clear hW7 hb7 S2 R2
            obtain ⟨g, rfl, hgl, -, hc⟩ := TRow.get (GRow.below HROW.out S7.out.below) q hq
            have u0 : W7.cell? ⟨g, q * 11, none⟩ = some (.int .i64 (PkB.at_ ts q).id) := hc 0 _ rfl
            clear hc
            go_wp2_with (at_builtin; refine wpList_gapp E1 Try.underlying37 infoI rfl (by decide) rfl _ _ rfl w.heap.size _ (o.map fun q => (PkB.at_ ts q).id) rfl ?c1 ⟨W7.heap.size, 0, none⟩ 1 [(PkB.at_ ts q).id] rfl ?c2 ?c3 ?c4 ?c5)
            case c1 => exact GRow.below R7.out (by (repeat (with_reducible first | exact Below.refl _ _ | apply below_drewN | apply below_drew | apply below_alloc)))
            case c2 =>
              intro r x hx k u hu
              rcases r with _ | r
              · simp at hx
                subst hx
                rw [show (⟨W7.heap.size, 0, none⟩ : Addr).add (0 * 1 + k) = ⟨W7.heap.size, k, none⟩ by simp [Addr.add]; omega]
                refine (World.cell?_alloc_at _ _ _ _ rfl).trans ?_
                simpa [icl] using hu
              · simp at hx
            case c3 => simp; omega
            case c4 => have := S7.out.below.size; simp; omega
            case c5 =>
              intro v' w3 hrow hgr hat
              have HN : Side (Lb w gh ts (upd on q false) v' ((o ++ [q]).map fun q => (PkB.at_ ts q).id) w3) := ⟨by
                rw [List.map_append]
                exact Lb.app (S7.out.below' (by (repeat (with_reducible first | exact Below.refl _ _ | apply below_drewN | apply below_drew | apply below_alloc)))) (GRow.below R7.out (by (repeat (with_reducible first | exact Below.refl _ _ | apply below_drewN | apply below_drew | apply below_alloc)))) hrow hgr⟩
              clear hrow hgr hat R7 S7 u0 hgl
              go_wp2
              go_roundg ((alv (PkB.at_ ts) ts.length (upd on q false)).length)
              case measure => have := HDL.out; have := HGN.out; omega
              case rel => exact ⟨upd on q false, o ++ [q], rfl, by simp; omega, by have := HDL.out; have := HGN.out; simp; omega, HPK2, HN⟩
        · have hK : K.toNat - o.length = 0 := by omega
          have HR : Side (ids (PkB.at_ ts) ts.length c K.toNat y = o.map fun q => (PkB.at_ ts q).id) := ⟨by unfold ids; rw [HPK.out, hK]; simp [picks]⟩
          have R2 : Side (IRow wq w.heap.size _ _) := ⟨HL.out.row⟩
          have HB := Side.mk HL.out.st.below
          clear HL HPK hK
          go_wp2
          go_ret
          refine ⟨_, rfl, ?_, HB.out⟩
          rw [HR.out]
          exact R2.out
end Go.Proofs.Yticcgmlgiijjnaa.PkC

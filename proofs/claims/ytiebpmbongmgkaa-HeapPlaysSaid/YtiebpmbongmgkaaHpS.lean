/- Package heap: the walk of HeapDrops. No condition. -/
import Derived.Test.YtiebpmbongmgkaaHpQ
set_option linter.unusedVariables false
set_option linter.unusedSimpArgs false
namespace Go.Proofs.Ytiebpmbongmgkaa.HpS
open Go.RowKit Go.Proofs.Ytiebpmbongmgkaa.Kit Go.Proofs.Ytiebpmbongmgkaa.Kit2 Go.Proofs.Ytiebpmbongmgkaa.Kit3 Go.Proofs.Ytiebpmbongmgkaa.Kit4 HpPlain Go.Maps Go.Proofs.Ytiebpmbongmgkaa.HpA Go.Proofs.Ytiebpmbongmgkaa.HpB Go.Proofs.Ytiebpmbongmgkaa.HpE Go.Proofs.Ytiebpmbongmgkaa.HpG Go.Proofs.Ytiebpmbongmgkaa.HpI Go.Proofs.Ytiebpmbongmgkaa.HpK Go.Proofs.Ytiebpmbongmgkaa.HpL Go.Proofs.Ytiebpmbongmgkaa.HpN Go.Proofs.Ytiebpmbongmgkaa.HpO Go.Proofs.Ytiebpmbongmgkaa.HpP Go.Proofs.Ytiebpmbongmgkaa.HpQ
open Go.Proofs.YtiebpmbongmgkaaW.PrintLast
theorem info_bool : ∃ i, Try.prog.info? 4 = some i ∧ i.zero = some (.bool false) ∧ i.size = 1 ∧ i.bytes = 1 := by
  have h : (Try.prog.info? 4).map (fun i => (i.zero, i.size, i.bytes)) = some (some (.bool false), 1, 1) := by kernel_rfl
  obtain ⟨i, hi, he⟩ := Option.map_eq_some_iff.1 h
  simp only [Prod.mk.injEq] at he
  exact ⟨i, hi, he.1, he.2.1, he.2.2⟩
theorem made_val {w : World} {B n g : Nat} (h : w.ownsRow B 4 1 (.slice (some ⟨g, 0, none⟩) n n) n (madeCells (Value.bool false).cells (n * 1)).toList) : Val w 4 g (fl n (fun _ => .bool false)) := by
  obtain ⟨hl, ⟨h0, _⟩ | ⟨g', cap, cur, hv, hB, hg, hn, hm, hs, ht⟩⟩ := h
  · simp at h0
  · simp at hv
    obtain ⟨rfl, rfl⟩ := hv
    refine ⟨cur, ?_, hg⟩
    rw [Nat.mul_one] at ht hs
    rw [List.take_of_length_le (by rw [Array.length_toList]; omega)] at ht
    rw [ht]
    have e : (Value.bool false).cells = #[.bool false] := rfl
    rw [e, toList_madeCells_one]
    apply List.ext_getElem?
    intro j
    by_cases hj : j < n
    · rw [fl_at _ hj]; simp [hj]
    · rw [List.getElem?_eq_none (by simp; omega), List.getElem?_eq_none (by rw [fl_len]; omega)]
/-- What stands between the rounds. -/
structure Dr (W : World) (gh r n : Nat) (L : Nat → Int) (on : Nat → Bool) (w : World) : Prop where
  st : St W w (fun _ => False) gh 2 (alive L 5 n on)
  on_ : Val w 4 r (fl n (fun j => .bool (on j)))
  rb : W.heap.size ≤ r
theorem Dr.below {W w w' : World} {gh r n : Nat} {L : Nat → Int} {on : Nat → Bool} (h : Dr W gh r n L on w) (hb : Below w.heap.size w w') : Dr W gh r n L on w' := ⟨h.st.below' hb, h.on_.below hb, h.rb⟩
theorem Dr.o {W w : World} {gh r n : Nat} {L : Nat → Int} {on : Nat → Bool} (h : Dr W gh r n L on w) (j : Nat) (hj : j < n) : w.cell? ⟨r, j, none⟩ = some (.bool (on j)) := h.on_.cell j _ (fl_at _ hj)
/-- One cell is written; the heap has turned already. -/
theorem Dr.set {W w : World} {gh r n : Nat} {L : Nat → Int} {on : Nat → Bool} (k : Nat) (v : Bool) (hs : St W w (fun _ => False) gh 2 (alive L 5 n (upd on k v))) (hv : Val w 4 r (fl n (fun j => .bool (on j)))) (hr : W.heap.size ≤ r) :
    Dr W gh r n L (upd on k v) (w.setCell ⟨r, k, none⟩ (.bool v)) := by
  refine ⟨St.setCell hs hv hr (by decide) (by decide) k _, ?_, hr⟩
  have h := Val.set hv k (.bool v)
  rw [fl_set] at h
  have e : fl n (upd (fun j => Value.bool (on j)) k (.bool v)) = fl n (fun j => .bool (upd on k v j)) := fl_congr fun j _ => by unfold upd; split <;> rfl
  rw [e] at h
  exact h
theorem alive_first (L : Nat → Int) (n i : Nat) (hi : i < n) : (put (alive L 5 n (fun j => decide (j < i))) ((i : Int), L i, 0, 0, 5)).Perm (alive L 5 n (upd (fun j => decide (j < i)) i true)) := by
  have h := alive_put L 5 (L i) n (fun j => decide (j < i)) i hi
  have e : upd L i (L i) = L := by funext j; unfold upd; split <;> simp_all
  rw [e] at h
  exact h
theorem upd_first (i : Nat) : upd (fun j => decide (j < i)) i true = fun j => decide (j < i + 1) := by
  funext j
  unfold upd
  split
  · rename_i e; subst e; simp
  · rw [decide_eq_decide]; omega
set_option maxHeartbeats 8000000 in
set_option maxRecDepth 100000 in
theorem big (a c : Option Addr) (len cap len2 cap2 : Nat) (w : World) (hl : len ≤ maxLen) (hl2 : len2 ≤ maxLen) (h : 200 < len ∨ 200 < len2) :
    Calls Try.prog 7 #[.slice a len cap, .slice c len2 cap2] w fun r w' => r = .returned (.bool true) ∧ Below w.heap.size w w' := by
  have h1 : (len : Int) ≤ 9223372036854775807 := by unfold maxLen at hl; omega
  have h2 : (len2 : Int) ≤ 9223372036854775807 := by unfold maxLen at hl2; omega
  have hc : ((200 : Int) < len) ∨ (¬ (200 : Int) < len ∧ (200 : Int) < len2) := by omega
  clear hl hl2 h
  rcases hc with b1 | ⟨b1, b2⟩
  all_goals
    go_enter Try.func7, Try.ntmps7
    go_wp2_with fail
    refine (awake_at _).mono ?_
    rintro e w1 ⟨rfl, hb⟩
    have HB := Side.mk hb
    clear hb
    go_wp2
    go_ret
    exact ⟨rfl, HB.out⟩
set_option maxHeartbeats 8000000 in
set_option maxRecDepth 100000 in
theorem walk (a : Option Addr) (len cap : Nat) (V : Nat → Nat → Value) (c : Option Addr) (len2 cap2 : Nat) (U : Nat → Nat → Value) (w : World) (hrow : InRow [.i .i16] w a len V) (hlen : len ≤ maxLen) (hrow2 : InRow [.i .u8] w c len2 U) (hlen2 : len2 ≤ maxLen) :
    Calls Try.prog 7 #[.slice a len cap, .slice c len2 cap2] w fun r w' => r = .returned (.bool true) ∧ Below w.heap.size w w' := by
  by_cases hbig : 200 < len ∨ 200 < len2
  · exact big a c len cap len2 cap2 w hlen hlen2 hbig
  have HROW := Side.mk hrow
  have HROW2 := Side.mk hrow2
  have h1 : (len : Int) ≤ 200 := by omega
  have h2 : (len2 : Int) ≤ 200 := by omega
  have b1 : ¬ (200 : Int) < len := by omega
  have b2 : ¬ (200 : Int) < len2 := by omega
  have h200 : len ≤ 200 := by omega
  have hl0 : (0 : Int) ≤ len := by omega
  obtain ⟨L, hL⟩ : ∃ L : Nat → Int, L = fun j => intOf (V j 0) := ⟨_, rfl⟩
  have HLL : Side (∀ w', Below w.heap.size w w' → ∀ j, j < len → ∃ b off, a = some ⟨b, off, none⟩ ∧ b < w'.heap.size ∧ w'.cell? ⟨b, off + j, none⟩ = some (.int .i16 (L j)) ∧ -32768 ≤ L j ∧ L j ≤ 32767) := ⟨fun w' hb j hj => by
    obtain ⟨b, off, e1, _, e3, e4, e5⟩ := row1 hrow hb j hj
    rw [hL]
    exact ⟨b, off, e1, e3, e4, isi16 e5⟩⟩
  clear hrow hrow2 hlen hlen2 hbig hL HROW
  obtain ⟨ib, hi1, hi2, hi3, hi4⟩ := info_bool
  have HI1 := Side.mk hi1
  clear hi1
  go_enter Try.func7, Try.ntmps7
  go_wp2_with fail
  refine (awake_at _).mono ?_
  rintro e wa ⟨rfl, hb⟩
  have HB := Side.mk hb
  clear hb
  go_wp2_with fail
  refine (New_at _ 2).mono ?_
  rintro e w1 ⟨rfl, rfl⟩
  have S0 := Side.mk (St.start HB.out 2)
  generalize wa.heap.size + 1 = gh at *
  generalize (wa.alloc (.map #[] 0)).alloc (.cells #[.int .i64 2, .slice none 0 0, .map (some wa.heap.size)] 53) = w1 at *
  clear HB
  go_wp2_with (at_make; refine wpList_make_full _ rfl _ _ 48 rfl w1.heap.size 4 ib (.bool false) 1 Try.underlying48 HI1.out hi2 hi3 .i64 .i64 _ _ len rfl rfl rfl rfl (by rw [hi4]; omega) (by unfold maxLen; omega) (Nat.le_refl _) ?_; intro w2 hown hgr; have D0 : Side (Dr w gh w1.heap.size len L (fun j => decide (j < 0)) w2) := ⟨⟨by
    have e : alive L 5 len (fun j => decide (j < 0)) = [] := by
      refine List.eq_nil_iff_forall_not_mem.2 fun x hx => ?_
      obtain ⟨j, _, j2, _⟩ := alive_mem.1 hx
      simp at j2
    rw [e]
    exact S0.out.below' ⟨hgr.os, hgr.tape, hgr.output, hgr.size, fun k hk => hgr.block k hk (by simp)⟩, by
    have h := made_val hown
    have e : fl len (fun _ => Value.bool false) = fl len (fun j => .bool (decide (j < 0))) := fl_congr fun j _ => by simp
    rw [e] at h
    exact h, S0.out.below.size⟩⟩; clear hown hgr S0)
  generalize w1.heap.size = r at *
  go_loopw [7] (fun v7 wr => ∃ i : Nat, v7 = .int .i64 (i : Int) ∧ i ≤ len ∧ Side (Dr w gh r len L (fun j => decide (j < i)) wr)) (fun v7 _ => (len - intOf v7).toNat)
  case atStart => exact ⟨0, rfl, Nat.zero_le _, D0⟩
  case round =>
    clear D0
    obtain ⟨i, rfl, hi, HA⟩ := hrel
    have hi0 : (0 : Int) ≤ i := by omega
    by_cases hlt : i < len
    · have hii : (i : Int) < len := by omega
      have hi1 : (i : Int) + 1 ≤ 9223372036854775807 := by omega
      obtain ⟨ga, oa, rfl, hgl, c0, y0, y1⟩ := HLL.out wr HA.out.st.below i hlt
      have HM : Side (∀ n, n = upd (fun j => decide (j < i)) i true → n = fun j => decide (j < i + 1)) := ⟨fun n hn => hn.trans (upd_first i)⟩
      have HP := Side.mk (alive_first L len i hlt)
      generalize hd : L i = d at *
      have HD := Side.mk hd
      clear hd
      go_wp2_with fail
      refine (MadeS _ _ _ _ _).out.mono ?_
      rintro e w2 ⟨rfl, hb⟩
      have A2 := Side.mk (HA.out.below hb)
      clear hb c0 hgl
      go_wp2_with fail
      refine (Put_st A2.out.st (by have := alive_len L 5 len (fun j => decide (j < i)); omega) ((i : Int), d, 0, 0, 5) ⟨hi0, by simp only; omega⟩ _ rfl).mono ?_
      rintro e w3 ⟨rfl, s3, f3⟩
      have S3 := Side.mk (St.perm s3 HP.out)
      have VO := Side.mk (Val.fr A2.out.on_ f3 (by decide) (by decide))
      have HRB := Side.mk A2.out.rb
      clear s3 f3 A2 HA HP
      have k1 := VO.out.cell i _ (fl_at _ hlt)
      have k2 := Val.froz VO.out i
      have k3 := VO.out.lt
      have HN : Side (Dr w gh r len L (fun j => decide (j < i + 1)) (w3.setCell ⟨r, i, none⟩ (.bool true))) := ⟨by
        have h := Dr.set i true S3.out VO.out HRB.out
        rw [upd_first] at h
        exact h⟩
      clear HM S3 VO HRB
      go_wp2
      go_roundw
      case rel => exact ⟨i + 1, by simp, by omega, HN⟩
      case measure => simp [intOf]; omega
    · have hii : ¬ (i : Int) < len := by omega
      obtain rfl : i = len := by omega
      clear hlt hi hii
      rename_i wr0
      obtain ⟨w0, hw0⟩ : ∃ w0 : World, w0 = wr := ⟨_, rfl⟩
      rw [← hw0] at HA ⊢
      clear hw0
      go_wp2_with fail
      go_loopw [8] (fun v8 wr => ∃ (j : Nat) (on : Nat → Bool), v8 = .int .i64 (j : Int) ∧ j ≤ len2 ∧ Side (Dr w gh r i L on wr)) (fun v8 _ => (len2 - intOf v8).toNat)
      case atStart => exact ⟨0, _, rfl, Nat.zero_le _, HA⟩
      case round =>
        clear HA
        obtain ⟨j, on, rfl, hj, HA⟩ := hrel
        obtain ⟨wp, hwp⟩ : ∃ wp : World, wp = wr := ⟨_, rfl⟩
        rw [← hwp] at HA ⊢
        clear hwp
        have hj0 : (0 : Int) ≤ j := by omega
        by_cases hlt : j < len2 ∧ 0 < i
        · obtain ⟨hlt, hpos⟩ := hlt
          have hjj : (j : Int) < len2 := by omega
          have hj1 : (j : Int) + 1 ≤ 9223372036854775807 := by omega
          have hip : (0 : Int) < i := by omega
          have hin : ¬ (i : Int) = 0 := by omega
          obtain ⟨gc, oc, rfl, hgc, hgcl, d0, hw1⟩ := row1 HROW2.out HA.out.st.below j hlt
          obtain ⟨x0, x1⟩ := isu8 hw1
          generalize intOf (U j 0) = x at *
          obtain ⟨q, hq⟩ : ∃ q : Nat, q = (x % (i : Int)).toNat := ⟨_, rfl⟩
          have hm1 := Int.emod_nonneg x hin
          have hm2 := Int.emod_lt_of_pos x hip
          have E : x % (i : Int) = (q : Int) := by omega
          have hq8 : q < i := by omega
          have hqi : (q : Int) < i := by omega
          have hq0 : (0 : Int) ≤ q := by omega
          clear hq hm1 hm2
          go_upto_region 19 with (fail)
          rw [E]
          clear E d0 hw1 x0 x1
          have ho := HA.out.o q hq8
          have hrl := HA.out.on_.lt
          obtain ⟨oq, hoq⟩ : ∃ oq, oq = on q := ⟨_, rfl⟩
          have HOQ := Side.mk hoq
          rw [← hoq] at ho
          have hh : hasS (alive L 5 i on) (q : Int) = oq := by rw [alive_has L 5 i on q hq8]; exact hoq.symm
          have CD := Drop_st HA.out.st (by have := alive_len L 5 i on; omega) (q : Int) (wf_nat q (by omega)) oq hh _ rfl
          clear hoq hh
          obtain ⟨Wp, hWp⟩ : ∃ Wp, Wp = wp.drew := ⟨_, rfl⟩
          have CD2 := Drop_st (HA.out.st.below' (below_drew (Below.refl _ wp))) (by have := alive_len L 5 i on; omega) (q : Int) (wf_nat q (by omega)) oq (by rw [alive_has L 5 i on q hq8]; exact HOQ.out.symm) _ rfl
          have C1 : Side (wp.drew.cell? ⟨r, q, none⟩ = some (.bool oq) ∧ r < wp.drew.heap.size) := ⟨ho, hrl⟩
          have C2 : Side (∀ w', (St w w' (fun _ => False) gh 2 (if oq = true then drop (alive L 5 i on) q else alive L 5 i on) ∧ Fr (fun _ => False) wp.drew w') → w'.cell? ⟨r, q, none⟩ = some (.bool oq) ∧ r < w'.heap.size) := ⟨fun w' h => by
            have hv := Val.fr (w := wp.drew) HA.out.on_ h.2 (by decide) (by decide)
            have := hv.cell q _ (fl_at _ hq8)
            rw [← HOQ.out] at this
            exact ⟨this, hv.lt⟩⟩
          clear CD hWp ho hrl
          refine start_ (n := 8) (S := fun w' => True) (ds := []) #[false, false, false, false, false, false, false, false] (by kernel_rfl) rfl rfl trivial (fun _ => ?_)
          refine inv_at (B := [0, 0, 3, 0, 0, 24, 56, 127]) [0, 1, 2, 3, 4, 5, 6, 7] (fun a0_ b a w' => a = putSel a0_ b [(0, 70, .pointer (some ⟨gh, 0, none⟩)), (1, 71, .int .i64 q), (2, 72, .bool oq), (3, 73, .slice (some ⟨r, 0, none⟩) i i), (4, 74, .int .i64 q), (5, 75, .pointer (some ⟨r, q, none⟩)), (6, 76, .bool oq), (7, 77, .bool false)] ∧ One wp.drew (fun w' => St w w' (fun _ => False) gh 2 (if oq = true then drop (alive L 5 i on) q else alive L 5 i on) ∧ Fr (fun _ => False) wp.drew w') 2 b w') rfl (by kernel_rfl) (by kernel_rfl) (by kernel_rfl) ?_ ?_ ?_
          · exact ⟨by simp only [putSel, Bool.false_eq_true, if_false], One.start⟩
          · refine steps_cons (by rintro b a w' ⟨ha, HI⟩ hb hon hoff; refine ⟨_, rfl, fun K hK => ?_⟩; have e5 := poff ha (t := 5) rfl rfl; exact value_ (v := .pointer (some ⟨gh, 0, none⟩)) (by rfl) rfl (by clear HI ha; go_simp) (hK.out _ _ ⟨upk ha 0 hb rfl rfl, HI.low (by decide)⟩)) ?_
            refine steps_cons (by rintro b a w' ⟨ha, HI⟩ hb hon hoff; refine ⟨_, rfl, fun K hK => ?_⟩; have e9 := poff ha (t := 9) rfl rfl; exact value_ (v := .int .i64 q) (by rfl) rfl (by clear HI ha; go_simp) (hK.out _ _ ⟨upk ha 1 hb rfl rfl, HI.low (by decide)⟩)) ?_
            refine steps_cons (by rintro b a w' ⟨ha, HI⟩ hb hon hoff; refine ⟨_, rfl, fun K hK => ?_⟩; have e70 := pon ha 0 (hon 0 rfl) rfl rfl rfl; have e71 := pon ha 1 (hon 1 rfl) rfl rfl rfl; obtain rfl := HI.n hb; refine goes_ Try.func16 (by kernel_rfl) rfl #[.pointer (some ⟨gh, 0, none⟩), .int .i64 q] (by rfl) rfl rfl (by simp [Act.eval, e70, e71]) (CD2.mono ?_); rintro e_ w'' ⟨rfl, hs_, hf_⟩; exact ⟨_, rfl, hK.out _ _ ⟨upk ha 2 hb rfl rfl, One.set ⟨hs_, hf_⟩⟩⟩) ?_
            refine steps_cons (by rintro b a w' ⟨ha, HI⟩ hb hon hoff; refine ⟨_, rfl, fun K hK => ?_⟩; have e6 := poff ha (t := 6) rfl rfl; exact value_ (v := .slice (some ⟨r, 0, none⟩) i i) (by rfl) rfl (by clear HI ha; go_simp) (hK.out _ _ ⟨upk ha 3 hb rfl rfl, HI.low (by decide)⟩)) ?_
            refine steps_cons (by rintro b a w' ⟨ha, HI⟩ hb hon hoff; refine ⟨_, rfl, fun K hK => ?_⟩; have e9 := poff ha (t := 9) rfl rfl; exact value_ (v := .int .i64 q) (by rfl) rfl (by clear HI ha; go_simp) (hK.out _ _ ⟨upk ha 4 hb rfl rfl, HI.low (by decide)⟩)) ?_
            refine steps_cons (by rintro b a w' ⟨ha, HI⟩ hb hon hoff; refine ⟨_, rfl, fun K hK => ?_⟩; have e73 := pon ha 3 (hon 3 rfl) rfl rfl rfl; have e74 := pon ha 4 (hon 4 rfl) rfl rfl rfl; exact value_ (v := .pointer (some ⟨r, q, none⟩)) (by rfl) rfl (by clear HI ha; go_simp) (hK.out _ _ ⟨upk ha 5 hb rfl rfl, HI.low (by decide)⟩)) ?_
            refine steps_cons (by rintro b a w' ⟨ha, HI⟩ hb hon hoff; refine ⟨_, rfl, fun K hK => ?_⟩; have e75 := pon ha 5 (hon 5 rfl) rfl rfl rfl; obtain ⟨k0_, k1_⟩ : w'.cell? ⟨r, q, none⟩ = some (.bool oq) ∧ r < w'.heap.size := (by cases hq_ : b 2; exact (by rw [HI.n hq_]; exact C1.out); exact C2.out _ (HI.y hq_)); exact value_ (v := .bool oq) (by rfl) rfl (by clear HI ha; go_simp) (hK.out _ _ ⟨upk ha 6 hb rfl rfl, HI.low (by decide)⟩)) ?_
            refine steps_cons (by rintro b a w' ⟨ha, HI⟩ hb hon hoff; refine ⟨_, rfl, fun K hK => ?_⟩; have e72 := pon ha 2 (hon 2 rfl) rfl rfl rfl; have e76 := pon ha 6 (hon 6 rfl) rfl rfl rfl; exact value_ (v := .bool false) (by rfl) rfl (by clear HI ha; go_simp) (hK.out _ _ ⟨upk ha 7 hb rfl rfl, HI.low (by decide)⟩)) ?_
            exact steps_nil
          · rintro b a w' hall ⟨ha, HI⟩
            have hb0_ := hall 0 rfl; have hb1_ := hall 1 rfl; have hb2_ := hall 2 rfl; have hb3_ := hall 3 rfl; have hb4_ := hall 4 rfl; have hb5_ := hall 5 rfl; have hb6_ := hall 6 rfl; have hb7_ := hall 7 rfl
            subst ha
            simp only [putSel, hb0_, hb1_, hb2_, hb3_, hb4_, hb5_, hb6_, hb7_, if_true, Act.put, List.setIfInBounds_toArray, List.set_cons_zero, List.set_cons_succ]
            obtain ⟨hs, hf⟩ := HI.y hb2_
            clear hall HI hb0_ hb1_ hb2_ hb3_ hb4_ hb5_ hb6_ hb7_
            refine ‹∀ (a : Act) (w : World), Code.wp Try.prog _ _ a w → _› _ _ ?_
            have VO := Side.mk (Val.fr (w := wp.drew) HA.out.on_ hf (by decide) (by decide))
            have S3 : Side (St w w' (fun _ => False) gh 2 (alive L 5 i (upd on q false))) := ⟨by
              cases oq
              · rw [alive_off L 5 i on q HOQ.out.symm]; exact hs
              · exact St.perm hs (alive_drop L 5 i on q)⟩
            have HRB := Side.mk HA.out.rb
            clear hs hf C1 C2 CD2 HA
            have k1 := VO.out.cell q _ (fl_at _ hq8)
            have k2 := Val.froz VO.out q
            have k3 := VO.out.lt
            have HN := Side.mk (Dr.set q false S3.out VO.out HRB.out)
            clear S3 VO HRB
            go_wp2
            go_roundw
            case rel => exact ⟨j + 1, _, by simp, by omega, HN⟩
            case measure => simp [intOf]; omega
        · have hK : ∀ {P : Prop}, ((¬ (j : Int) < len2) → P) → ((j : Int) < len2 → ¬ (0 : Int) < i → P) → P := fun h1 h2 => by
            by_cases h : (j : Int) < len2
            · exact h2 h (by omega)
            · exact h1 h
          have hcond : (¬ (j : Int) < len2) ∨ ((j : Int) < len2 ∧ ¬ (0 : Int) < i) := by omega
          clear hK
          go_upto_region 16 with (fail)
          go_cut [59] (fun v wc => v = .bool false ∧ wc = wp)
          case first =>
            rcases hcond with h1 | ⟨h1, h2⟩
            · go_wp2
              go_meet
              case rel => exact ⟨by first | rfl | (simp [h1]; done) | (simp [h1]; omega), rfl⟩
            · go_wp2
              go_meet
              case rel => exact ⟨by first | rfl | (simp [h1]; done) | (simp [h1]; omega), rfl⟩
          case rest =>
          obtain ⟨rfl, rfl⟩ := hcut
          clear hcond hlt hj hj0
          go_step
          go_wp2_with fail
          go_loopg [10] ((alive L 5 i on).length) (fun gn v10 wr => ∃ on2 : Nat → Bool, (alive L 5 i on2).length = gn ∧ Side (Dr w gh r i L on2 wr))
          case atStart => exact ⟨on, rfl, HA⟩
          case round =>
            clear HA
            clear on
            obtain ⟨on, hgn, HA⟩ := hrel
            obtain ⟨wp, hwp⟩ : ∃ wp : World, wp = wr := ⟨_, rfl⟩
            rw [← hwp] at HA ⊢
            clear hwp
            have HGN := Side.mk hgn
            clear hgn
            go_wp2_with fail
            go_loopw [10, 11] (fun v10 v11 wr2 => ∃ k : Nat, v11 = .int .i64 (k : Int) ∧ k ≤ i ∧ v10 = .int .i64 (best on L k) ∧ Side (Dr w gh r i L on wr2)) (fun _ v11 _ => (i - intOf v11).toNat)
            case atStart => exact ⟨0, rfl, by omega, rfl, HA⟩
            case round =>
              clear HA
              obtain ⟨k, rfl, hk, rfl, HA⟩ := hrel
              obtain ⟨wq, hwq⟩ : ∃ wq : World, wq = wr := ⟨_, rfl⟩
              rw [← hwq] at HA ⊢
              clear hwq
              have hk0 : (0 : Int) ≤ k := by omega
              by_cases hk8 : k < i
              · have hk8i : (k : Int) < i := by omega
                have hk1 : (k : Int) + 1 ≤ 9223372036854775807 := by omega
                have HB1 : Side (best on L (k + 1) = if tst on L k (best on L k) = true then (k : Int) else best on L k) := ⟨rfl⟩
                have HSP := Side.mk (best_spec on L k)
                have HT : Side (tst on L k (best on L k) = (on k && (decide (best on L k < 0) || decide (L k < L (best on L k).toNat)))) := ⟨rfl⟩
                generalize tst on L k (best on L k) = tt at *
                obtain ⟨bj, hbj⟩ : ∃ bj, bj = best on L k := ⟨_, rfl⟩
                rw [← hbj] at HB1 HSP HT ⊢
                clear hbj
                have ho := HA.out.o k hk8
                have hrl := HA.out.on_.lt
                obtain ⟨ga, oa, rfl, hgl, hck, -, -⟩ := HLL.out wq HA.out.st.below k hk8
                go_upto_region 26 with (fail)
                go_cut [105] (fun v we => v = .bool tt ∧ Side (Below wq.heap.size wq we))
                case first =>
                  have hto := HT.out
                  clear HT HB1
                  cases hok : on k
                  · rw [hok, Bool.false_and] at hto
                    rw [hok] at ho
                    subst hto
                    clear hok
                    refine start_ (n := 19) (S := fun w' => True) (ds := []) #[false, false, false, false, false, false, false, false, false, false, false, false, false, false, false, false, false, false, false] (by kernel_rfl) rfl rfl trivial (fun _ => ?_)
                    refine inv_at (B := [0, 0, 3, 7, 15, 31, 63, 127, 255, 255, 1023, 2047, 255, 255, 12543, 28927, 65535, 131071, 262143]) [0, 1, 2, 3, 4, 5, 6, 7, 8, 9, 10, 11, 12, 13, 14, 15, 16, 17, 18] (fun a0_ b a w' => a = putSel a0_ b [(0, 87, .slice (some ⟨r, 0, none⟩) i i), (1, 88, .int .i64 k), (2, 89, .pointer (some ⟨r, k, none⟩)), (3, 90, .bool false), (4, 91, .bool false), (5, 92, undef), (6, 93, undef), (7, 94, undef), (8, 95, undef), (9, 96, undef), (10, 97, undef), (11, 98, undef), (12, 99, undef), (13, 100, undef), (14, 101, undef), (15, 102, undef), (16, 103, undef), (17, 104, undef), (18, 105, .bool false)] ∧ Below wq.drew.heap.size wq.drew w') rfl (by kernel_rfl) (by kernel_rfl) (by kernel_rfl) ?_ ?_ ?_
                    · exact ⟨by simp only [putSel, Bool.false_eq_true, if_false], Below.refl _ _⟩
                    · refine steps_cons (by rintro b a w' ⟨ha, HI⟩ hb hon hoff; refine ⟨_, rfl, fun K hK => ?_⟩; have e6 := poff ha (t := 6) rfl rfl; exact value_ (v := .slice (some ⟨r, 0, none⟩) i i) (by rfl) rfl (by clear HI ha; go_simp) (hK.out _ _ ⟨upk ha 0 hb rfl rfl, HI⟩)) ?_
                      refine steps_cons (by rintro b a w' ⟨ha, HI⟩ hb hon hoff; refine ⟨_, rfl, fun K hK => ?_⟩; have e11 := poff ha (t := 11) rfl rfl; exact value_ (v := .int .i64 k) (by rfl) rfl (by clear HI ha; go_simp) (hK.out _ _ ⟨upk ha 1 hb rfl rfl, HI⟩)) ?_
                      refine steps_cons (by rintro b a w' ⟨ha, HI⟩ hb hon hoff; refine ⟨_, rfl, fun K hK => ?_⟩; have e87 := pon ha 0 (hon 0 rfl) rfl rfl rfl; have e88 := pon ha 1 (hon 1 rfl) rfl rfl rfl; exact value_ (v := .pointer (some ⟨r, k, none⟩)) (by rfl) rfl (by clear HI ha; go_simp) (hK.out _ _ ⟨upk ha 2 hb rfl rfl, HI⟩)) ?_
                      refine steps_cons (by rintro b a w' ⟨ha, HI⟩ hb hon hoff; refine ⟨_, rfl, fun K hK => ?_⟩; have e89 := pon ha 2 (hon 2 rfl) rfl rfl rfl; have k0_ := bc HI hrl ho; have kz_ := bz HI hrl; exact value_ (v := .bool false) (by rfl) rfl (by clear HI ha; go_simp) (hK.out _ _ ⟨upk ha 3 hb rfl rfl, HI⟩)) ?_
                      refine steps_cons (by rintro b a w' ⟨ha, HI⟩ hb hon hoff; refine ⟨_, rfl, fun K hK => ?_⟩; have e90 := pon ha 3 (hon 3 rfl) rfl rfl rfl; exact value_ (v := .bool false) (by rfl) rfl (by clear HI ha; go_simp) (hK.out _ _ ⟨upk ha 4 hb rfl rfl, HI⟩)) ?_
                      refine steps_cons (by rintro b a w' ⟨ha, HI⟩ hb hon hoff; refine ⟨_, rfl, fun K hK => ?_⟩; have e10 := poff ha (t := 10) rfl rfl; have e91 := pon ha 4 (hon 4 rfl) rfl rfl rfl; exact off_ (wanted_off (t := 91) (u := true) rfl rfl rfl e91) (hK.out _ _ ⟨upk ha 5 hb rfl rfl, HI⟩)) ?_
                      refine steps_cons (by rintro b a w' ⟨ha, HI⟩ hb hon hoff; refine ⟨_, rfl, fun K hK => ?_⟩; have e92 := pon ha 5 (hon 5 rfl) rfl rfl rfl; have e91 := pon ha 4 (hon 4 rfl) rfl rfl rfl; exact off_ (wanted_off (t := 91) (u := true) rfl rfl rfl e91) (hK.out _ _ ⟨upk ha 6 hb rfl rfl, HI⟩)) ?_
                      refine steps_cons (by rintro b a w' ⟨ha, HI⟩ hb hon hoff; refine ⟨_, rfl, fun K hK => ?_⟩; have e93 := pon ha 6 (hon 6 rfl) rfl rfl rfl; have e91 := pon ha 4 (hon 4 rfl) rfl rfl rfl; exact off_ (wanted_off (t := 91) (u := true) rfl rfl rfl e91) (hK.out _ _ ⟨upk ha 7 hb rfl rfl, HI⟩)) ?_
                      refine steps_cons (by rintro b a w' ⟨ha, HI⟩ hb hon hoff; refine ⟨_, rfl, fun K hK => ?_⟩; have e0 := poff ha (t := 0) rfl rfl; have e94 := pon ha 7 (hon 7 rfl) rfl rfl rfl; exact off_ (wanted_none (t := 94) (u := false) rfl rfl rfl e94) (hK.out _ _ ⟨upk ha 8 hb rfl rfl, HI⟩)) ?_
                      refine steps_cons (by rintro b a w' ⟨ha, HI⟩ hb hon hoff; refine ⟨_, rfl, fun K hK => ?_⟩; have e11 := poff ha (t := 11) rfl rfl; have e94 := pon ha 7 (hon 7 rfl) rfl rfl rfl; exact off_ (wanted_none (t := 94) (u := false) rfl rfl rfl e94) (hK.out _ _ ⟨upk ha 9 hb rfl rfl, HI⟩)) ?_
                      refine steps_cons (by rintro b a w' ⟨ha, HI⟩ hb hon hoff; refine ⟨_, rfl, fun K hK => ?_⟩; have e95 := pon ha 8 (hon 8 rfl) rfl rfl rfl; have e96 := pon ha 9 (hon 9 rfl) rfl rfl rfl; have e94 := pon ha 7 (hon 7 rfl) rfl rfl rfl; exact off_ (wanted_none (t := 94) (u := false) rfl rfl rfl e94) (hK.out _ _ ⟨upk ha 10 hb rfl rfl, HI⟩)) ?_
                      refine steps_cons (by rintro b a w' ⟨ha, HI⟩ hb hon hoff; refine ⟨_, rfl, fun K hK => ?_⟩; have e97 := pon ha 10 (hon 10 rfl) rfl rfl rfl; have e94 := pon ha 7 (hon 7 rfl) rfl rfl rfl; exact off_ (wanted_none (t := 94) (u := false) rfl rfl rfl e94) (hK.out _ _ ⟨upk ha 11 hb rfl rfl, HI⟩)) ?_
                      refine steps_cons (by rintro b a w' ⟨ha, HI⟩ hb hon hoff; refine ⟨_, rfl, fun K hK => ?_⟩; have e0 := poff ha (t := 0) rfl rfl; have e94 := pon ha 7 (hon 7 rfl) rfl rfl rfl; exact off_ (wanted_none (t := 94) (u := false) rfl rfl rfl e94) (hK.out _ _ ⟨upk ha 12 hb rfl rfl, HI⟩)) ?_
                      refine steps_cons (by rintro b a w' ⟨ha, HI⟩ hb hon hoff; refine ⟨_, rfl, fun K hK => ?_⟩; have e10 := poff ha (t := 10) rfl rfl; have e94 := pon ha 7 (hon 7 rfl) rfl rfl rfl; exact off_ (wanted_none (t := 94) (u := false) rfl rfl rfl e94) (hK.out _ _ ⟨upk ha 13 hb rfl rfl, HI⟩)) ?_
                      refine steps_cons (by rintro b a w' ⟨ha, HI⟩ hb hon hoff; refine ⟨_, rfl, fun K hK => ?_⟩; have e99 := pon ha 12 (hon 12 rfl) rfl rfl rfl; have e100 := pon ha 13 (hon 13 rfl) rfl rfl rfl; have e94 := pon ha 7 (hon 7 rfl) rfl rfl rfl; exact off_ (wanted_none (t := 94) (u := false) rfl rfl rfl e94) (hK.out _ _ ⟨upk ha 14 hb rfl rfl, HI⟩)) ?_
                      refine steps_cons (by rintro b a w' ⟨ha, HI⟩ hb hon hoff; refine ⟨_, rfl, fun K hK => ?_⟩; have e101 := pon ha 14 (hon 14 rfl) rfl rfl rfl; have e94 := pon ha 7 (hon 7 rfl) rfl rfl rfl; exact off_ (wanted_none (t := 94) (u := false) rfl rfl rfl e94) (hK.out _ _ ⟨upk ha 15 hb rfl rfl, HI⟩)) ?_
                      refine steps_cons (by rintro b a w' ⟨ha, HI⟩ hb hon hoff; refine ⟨_, rfl, fun K hK => ?_⟩; have e98 := pon ha 11 (hon 11 rfl) rfl rfl rfl; have e102 := pon ha 15 (hon 15 rfl) rfl rfl rfl; have e94 := pon ha 7 (hon 7 rfl) rfl rfl rfl; exact off_ (wanted_none (t := 94) (u := false) rfl rfl rfl e94) (hK.out _ _ ⟨upk ha 16 hb rfl rfl, HI⟩)) ?_
                      refine steps_cons (by rintro b a w' ⟨ha, HI⟩ hb hon hoff; refine ⟨_, rfl, fun K hK => ?_⟩; have e94 := pon ha 7 (hon 7 rfl) rfl rfl rfl; have e103 := pon ha 16 (hon 16 rfl) rfl rfl rfl; have e91 := pon ha 4 (hon 4 rfl) rfl rfl rfl; exact off_ (wanted_off (t := 91) (u := true) rfl rfl rfl e91) (hK.out _ _ ⟨upk ha 17 hb rfl rfl, HI⟩)) ?_
                      refine steps_cons (by rintro b a w' ⟨ha, HI⟩ hb hon hoff; refine ⟨_, rfl, fun K hK => ?_⟩; have e91 := pon ha 4 (hon 4 rfl) rfl rfl rfl; have e104 := pon ha 17 (hon 17 rfl) rfl rfl rfl; exact value_ (v := .bool false) (by rfl) rfl (by clear HI ha; go_simp) (hK.out _ _ ⟨upk ha 18 hb rfl rfl, HI⟩)) ?_
                      exact steps_nil
                    · rintro b a w' hall ⟨ha, HI⟩
                      have hb0_ := hall 0 rfl; have hb1_ := hall 1 rfl; have hb2_ := hall 2 rfl; have hb3_ := hall 3 rfl; have hb4_ := hall 4 rfl; have hb5_ := hall 5 rfl; have hb6_ := hall 6 rfl; have hb7_ := hall 7 rfl
                      have hb8_ := hall 8 rfl; have hb9_ := hall 9 rfl; have hb10_ := hall 10 rfl; have hb11_ := hall 11 rfl; have hb12_ := hall 12 rfl; have hb13_ := hall 13 rfl; have hb14_ := hall 14 rfl; have hb15_ := hall 15 rfl
                      have hb16_ := hall 16 rfl; have hb17_ := hall 17 rfl; have hb18_ := hall 18 rfl
                      subst ha
                      simp only [putSel, hb0_, hb1_, hb2_, hb3_, hb4_, hb5_, hb6_, hb7_, hb8_, hb9_, hb10_, hb11_, hb12_, hb13_, hb14_, hb15_, hb16_, hb17_, hb18_, if_true, Act.put, List.setIfInBounds_toArray, List.set_cons_zero, List.set_cons_succ]
                      have hB := (below_then (below_drew (Below.refl _ wq)) (Nat.le_refl _) HI : Below wq.heap.size wq w')
                      clear hall HI hb0_ hb1_ hb2_ hb3_ hb4_ hb5_ hb6_ hb7_ hb8_ hb9_ hb10_ hb11_ hb12_ hb13_ hb14_ hb15_ hb16_ hb17_ hb18_
                      refine ‹∀ (a' : Act) (w' : World), Met _ a' w' → _› _ _ ?_
                      go_meet
                      case rel => exact ⟨rfl, ⟨hB⟩⟩
                  · rw [hok, Bool.true_and] at hto
                    rw [hok] at ho
                    clear hok
                    rcases HSP.out with ⟨h1, -⟩ | ⟨q2, hq2, h1, -, -⟩
                    · subst h1
                      rw [decide_eq_true (by decide), Bool.true_or] at hto
                      subst hto
                      refine start_ (n := 19) (S := fun w' => True) (ds := []) #[false, false, false, false, false, false, false, false, false, false, false, false, false, false, false, false, false, false, false] (by kernel_rfl) rfl rfl trivial (fun _ => ?_)
                      refine inv_at (B := [0, 0, 3, 7, 15, 31, 63, 127, 255, 255, 1023, 2047, 255, 255, 12543, 28927, 65535, 131071, 262143]) [0, 1, 2, 3, 4, 5, 6, 7, 8, 9, 10, 11, 12, 13, 14, 15, 16, 17, 18] (fun a0_ b a w' => a = putSel a0_ b [(0, 87, .slice (some ⟨r, 0, none⟩) i i), (1, 88, .int .i64 k), (2, 89, .pointer (some ⟨r, k, none⟩)), (3, 90, .bool true), (4, 91, .bool true), (5, 92, .int .i64 (-1)), (6, 93, .bool true), (7, 94, .bool true), (8, 95, undef), (9, 96, undef), (10, 97, undef), (11, 98, undef), (12, 99, undef), (13, 100, undef), (14, 101, undef), (15, 102, undef), (16, 103, undef), (17, 104, .bool true), (18, 105, .bool true)] ∧ Below wq.drew.heap.size wq.drew w') rfl (by kernel_rfl) (by kernel_rfl) (by kernel_rfl) ?_ ?_ ?_
                      · exact ⟨by simp only [putSel, Bool.false_eq_true, if_false], Below.refl _ _⟩
                      · refine steps_cons (by rintro b a w' ⟨ha, HI⟩ hb hon hoff; refine ⟨_, rfl, fun K hK => ?_⟩; have e6 := poff ha (t := 6) rfl rfl; exact value_ (v := .slice (some ⟨r, 0, none⟩) i i) (by rfl) rfl (by clear HI ha; go_simp) (hK.out _ _ ⟨upk ha 0 hb rfl rfl, HI⟩)) ?_
                        refine steps_cons (by rintro b a w' ⟨ha, HI⟩ hb hon hoff; refine ⟨_, rfl, fun K hK => ?_⟩; have e11 := poff ha (t := 11) rfl rfl; exact value_ (v := .int .i64 k) (by rfl) rfl (by clear HI ha; go_simp) (hK.out _ _ ⟨upk ha 1 hb rfl rfl, HI⟩)) ?_
                        refine steps_cons (by rintro b a w' ⟨ha, HI⟩ hb hon hoff; refine ⟨_, rfl, fun K hK => ?_⟩; have e87 := pon ha 0 (hon 0 rfl) rfl rfl rfl; have e88 := pon ha 1 (hon 1 rfl) rfl rfl rfl; exact value_ (v := .pointer (some ⟨r, k, none⟩)) (by rfl) rfl (by clear HI ha; go_simp) (hK.out _ _ ⟨upk ha 2 hb rfl rfl, HI⟩)) ?_
                        refine steps_cons (by rintro b a w' ⟨ha, HI⟩ hb hon hoff; refine ⟨_, rfl, fun K hK => ?_⟩; have e89 := pon ha 2 (hon 2 rfl) rfl rfl rfl; have k0_ := bc HI hrl ho; have kz_ := bz HI hrl; exact value_ (v := .bool true) (by rfl) rfl (by clear HI ha; go_simp) (hK.out _ _ ⟨upk ha 3 hb rfl rfl, HI⟩)) ?_
                        refine steps_cons (by rintro b a w' ⟨ha, HI⟩ hb hon hoff; refine ⟨_, rfl, fun K hK => ?_⟩; have e90 := pon ha 3 (hon 3 rfl) rfl rfl rfl; exact value_ (v := .bool true) (by rfl) rfl (by clear HI ha; go_simp) (hK.out _ _ ⟨upk ha 4 hb rfl rfl, HI⟩)) ?_
                        refine steps_cons (by rintro b a w' ⟨ha, HI⟩ hb hon hoff; refine ⟨_, rfl, fun K hK => ?_⟩; have e10 := poff ha (t := 10) rfl rfl; have e91 := pon ha 4 (hon 4 rfl) rfl rfl rfl; exact value_ (v := .int .i64 (-1)) (wanted_on (t := 91) (u := true) rfl rfl rfl e91) rfl (by clear HI ha; go_simp) (hK.out _ _ ⟨upk ha 5 hb rfl rfl, HI⟩)) ?_
                        refine steps_cons (by rintro b a w' ⟨ha, HI⟩ hb hon hoff; refine ⟨_, rfl, fun K hK => ?_⟩; have e92 := pon ha 5 (hon 5 rfl) rfl rfl rfl; have e91 := pon ha 4 (hon 4 rfl) rfl rfl rfl; exact value_ (v := .bool true) (wanted_on (t := 91) (u := true) rfl rfl rfl e91) rfl (by clear HI ha; go_simp) (hK.out _ _ ⟨upk ha 6 hb rfl rfl, HI⟩)) ?_
                        refine steps_cons (by rintro b a w' ⟨ha, HI⟩ hb hon hoff; refine ⟨_, rfl, fun K hK => ?_⟩; have e93 := pon ha 6 (hon 6 rfl) rfl rfl rfl; have e91 := pon ha 4 (hon 4 rfl) rfl rfl rfl; exact value_ (v := .bool true) (wanted_on (t := 91) (u := true) rfl rfl rfl e91) rfl (by clear HI ha; go_simp) (hK.out _ _ ⟨upk ha 7 hb rfl rfl, HI⟩)) ?_
                        refine steps_cons (by rintro b a w' ⟨ha, HI⟩ hb hon hoff; refine ⟨_, rfl, fun K hK => ?_⟩; have e0 := poff ha (t := 0) rfl rfl; have e94 := pon ha 7 (hon 7 rfl) rfl rfl rfl; exact off_ (wanted_off (t := 94) (u := false) rfl rfl rfl e94) (hK.out _ _ ⟨upk ha 8 hb rfl rfl, HI⟩)) ?_
                        refine steps_cons (by rintro b a w' ⟨ha, HI⟩ hb hon hoff; refine ⟨_, rfl, fun K hK => ?_⟩; have e11 := poff ha (t := 11) rfl rfl; have e94 := pon ha 7 (hon 7 rfl) rfl rfl rfl; exact off_ (wanted_off (t := 94) (u := false) rfl rfl rfl e94) (hK.out _ _ ⟨upk ha 9 hb rfl rfl, HI⟩)) ?_
                        refine steps_cons (by rintro b a w' ⟨ha, HI⟩ hb hon hoff; refine ⟨_, rfl, fun K hK => ?_⟩; have e95 := pon ha 8 (hon 8 rfl) rfl rfl rfl; have e96 := pon ha 9 (hon 9 rfl) rfl rfl rfl; have e94 := pon ha 7 (hon 7 rfl) rfl rfl rfl; exact off_ (wanted_off (t := 94) (u := false) rfl rfl rfl e94) (hK.out _ _ ⟨upk ha 10 hb rfl rfl, HI⟩)) ?_
                        refine steps_cons (by rintro b a w' ⟨ha, HI⟩ hb hon hoff; refine ⟨_, rfl, fun K hK => ?_⟩; have e97 := pon ha 10 (hon 10 rfl) rfl rfl rfl; have e94 := pon ha 7 (hon 7 rfl) rfl rfl rfl; exact off_ (wanted_off (t := 94) (u := false) rfl rfl rfl e94) (hK.out _ _ ⟨upk ha 11 hb rfl rfl, HI⟩)) ?_
                        refine steps_cons (by rintro b a w' ⟨ha, HI⟩ hb hon hoff; refine ⟨_, rfl, fun K hK => ?_⟩; have e0 := poff ha (t := 0) rfl rfl; have e94 := pon ha 7 (hon 7 rfl) rfl rfl rfl; exact off_ (wanted_off (t := 94) (u := false) rfl rfl rfl e94) (hK.out _ _ ⟨upk ha 12 hb rfl rfl, HI⟩)) ?_
                        refine steps_cons (by rintro b a w' ⟨ha, HI⟩ hb hon hoff; refine ⟨_, rfl, fun K hK => ?_⟩; have e10 := poff ha (t := 10) rfl rfl; have e94 := pon ha 7 (hon 7 rfl) rfl rfl rfl; exact off_ (wanted_off (t := 94) (u := false) rfl rfl rfl e94) (hK.out _ _ ⟨upk ha 13 hb rfl rfl, HI⟩)) ?_
                        refine steps_cons (by rintro b a w' ⟨ha, HI⟩ hb hon hoff; refine ⟨_, rfl, fun K hK => ?_⟩; have e99 := pon ha 12 (hon 12 rfl) rfl rfl rfl; have e100 := pon ha 13 (hon 13 rfl) rfl rfl rfl; have e94 := pon ha 7 (hon 7 rfl) rfl rfl rfl; exact off_ (wanted_off (t := 94) (u := false) rfl rfl rfl e94) (hK.out _ _ ⟨upk ha 14 hb rfl rfl, HI⟩)) ?_
                        refine steps_cons (by rintro b a w' ⟨ha, HI⟩ hb hon hoff; refine ⟨_, rfl, fun K hK => ?_⟩; have e101 := pon ha 14 (hon 14 rfl) rfl rfl rfl; have e94 := pon ha 7 (hon 7 rfl) rfl rfl rfl; exact off_ (wanted_off (t := 94) (u := false) rfl rfl rfl e94) (hK.out _ _ ⟨upk ha 15 hb rfl rfl, HI⟩)) ?_
                        refine steps_cons (by rintro b a w' ⟨ha, HI⟩ hb hon hoff; refine ⟨_, rfl, fun K hK => ?_⟩; have e98 := pon ha 11 (hon 11 rfl) rfl rfl rfl; have e102 := pon ha 15 (hon 15 rfl) rfl rfl rfl; have e94 := pon ha 7 (hon 7 rfl) rfl rfl rfl; exact off_ (wanted_off (t := 94) (u := false) rfl rfl rfl e94) (hK.out _ _ ⟨upk ha 16 hb rfl rfl, HI⟩)) ?_
                        refine steps_cons (by rintro b a w' ⟨ha, HI⟩ hb hon hoff; refine ⟨_, rfl, fun K hK => ?_⟩; have e94 := pon ha 7 (hon 7 rfl) rfl rfl rfl; have e103 := pon ha 16 (hon 16 rfl) rfl rfl rfl; have e91 := pon ha 4 (hon 4 rfl) rfl rfl rfl; exact value_ (v := .bool true) (wanted_on (t := 91) (u := true) rfl rfl rfl e91) rfl (by clear HI ha; go_simp) (hK.out _ _ ⟨upk ha 17 hb rfl rfl, HI⟩)) ?_
                        refine steps_cons (by rintro b a w' ⟨ha, HI⟩ hb hon hoff; refine ⟨_, rfl, fun K hK => ?_⟩; have e91 := pon ha 4 (hon 4 rfl) rfl rfl rfl; have e104 := pon ha 17 (hon 17 rfl) rfl rfl rfl; exact value_ (v := .bool true) (by rfl) rfl (by clear HI ha; go_simp) (hK.out _ _ ⟨upk ha 18 hb rfl rfl, HI⟩)) ?_
                        exact steps_nil
                      · rintro b a w' hall ⟨ha, HI⟩
                        have hb0_ := hall 0 rfl; have hb1_ := hall 1 rfl; have hb2_ := hall 2 rfl; have hb3_ := hall 3 rfl; have hb4_ := hall 4 rfl; have hb5_ := hall 5 rfl; have hb6_ := hall 6 rfl; have hb7_ := hall 7 rfl
                        have hb8_ := hall 8 rfl; have hb9_ := hall 9 rfl; have hb10_ := hall 10 rfl; have hb11_ := hall 11 rfl; have hb12_ := hall 12 rfl; have hb13_ := hall 13 rfl; have hb14_ := hall 14 rfl; have hb15_ := hall 15 rfl
                        have hb16_ := hall 16 rfl; have hb17_ := hall 17 rfl; have hb18_ := hall 18 rfl
                        subst ha
                        simp only [putSel, hb0_, hb1_, hb2_, hb3_, hb4_, hb5_, hb6_, hb7_, hb8_, hb9_, hb10_, hb11_, hb12_, hb13_, hb14_, hb15_, hb16_, hb17_, hb18_, if_true, Act.put, List.setIfInBounds_toArray, List.set_cons_zero, List.set_cons_succ]
                        have hB := (below_then (below_drew (Below.refl _ wq)) (Nat.le_refl _) HI : Below wq.heap.size wq w')
                        clear hall HI hb0_ hb1_ hb2_ hb3_ hb4_ hb5_ hb6_ hb7_ hb8_ hb9_ hb10_ hb11_ hb12_ hb13_ hb14_ hb15_ hb16_ hb17_ hb18_
                        refine ‹∀ (a' : Act) (w' : World), Met _ a' w' → _› _ _ ?_
                        go_meet
                        case rel => exact ⟨rfl, ⟨hB⟩⟩
                    · subst h1
                      rw [decide_eq_false (by omega), Bool.false_or, Int.toNat_natCast] at hto
                      subst hto
                      obtain ⟨ga2, oa2, hgo, hgl2, hc2, -, -⟩ := HLL.out wq HA.out.st.below q2 (by omega)
                      obtain ⟨rfl, rfl⟩ : ga = ga2 ∧ oa = oa2 := by simpa using hgo
                      have hq2n : (0 : Int) ≤ q2 := by omega
                      have hq28 : (q2 : Int) < i := by omega
                      clear HSP hgo hgl2
                      refine start_ (n := 19) (S := fun w' => True) (ds := []) #[false, false, false, false, false, false, false, false, false, false, false, false, false, false, false, false, false, false, false] (by kernel_rfl) rfl rfl trivial (fun _ => ?_)
                      refine inv_at (B := [0, 0, 3, 7, 15, 31, 63, 127, 255, 255, 1023, 2047, 255, 255, 12543, 28927, 65535, 131071, 262143]) [0, 1, 2, 3, 4, 5, 6, 7, 8, 9, 10, 11, 12, 13, 14, 15, 16, 17, 18] (fun a0_ b a w' => a = putSel a0_ b [(0, 87, .slice (some ⟨r, 0, none⟩) i i), (1, 88, .int .i64 k), (2, 89, .pointer (some ⟨r, k, none⟩)), (3, 90, .bool true), (4, 91, .bool true), (5, 92, .int .i64 q2), (6, 93, .bool false), (7, 94, .bool false), (8, 95, .slice (some ⟨ga, oa, none⟩) i cap), (9, 96, .int .i64 k), (10, 97, .pointer (some ⟨ga, oa + k, none⟩)), (11, 98, .int .i16 (L k)), (12, 99, .slice (some ⟨ga, oa, none⟩) i cap), (13, 100, .int .i64 q2), (14, 101, .pointer (some ⟨ga, oa + q2, none⟩)), (15, 102, .int .i16 (L q2)), (16, 103, .bool (decide (L k < L q2))), (17, 104, .bool (decide (L k < L q2))), (18, 105, .bool (decide (L k < L q2)))] ∧ Below wq.drew.heap.size wq.drew w') rfl (by kernel_rfl) (by kernel_rfl) (by kernel_rfl) ?_ ?_ ?_
                      · exact ⟨by simp only [putSel, Bool.false_eq_true, if_false], Below.refl _ _⟩
                      · refine steps_cons (by rintro b a w' ⟨ha, HI⟩ hb hon hoff; refine ⟨_, rfl, fun K hK => ?_⟩; have e6 := poff ha (t := 6) rfl rfl; exact value_ (v := .slice (some ⟨r, 0, none⟩) i i) (by rfl) rfl (by clear HI ha; go_simp) (hK.out _ _ ⟨upk ha 0 hb rfl rfl, HI⟩)) ?_
                        refine steps_cons (by rintro b a w' ⟨ha, HI⟩ hb hon hoff; refine ⟨_, rfl, fun K hK => ?_⟩; have e11 := poff ha (t := 11) rfl rfl; exact value_ (v := .int .i64 k) (by rfl) rfl (by clear HI ha; go_simp) (hK.out _ _ ⟨upk ha 1 hb rfl rfl, HI⟩)) ?_
                        refine steps_cons (by rintro b a w' ⟨ha, HI⟩ hb hon hoff; refine ⟨_, rfl, fun K hK => ?_⟩; have e87 := pon ha 0 (hon 0 rfl) rfl rfl rfl; have e88 := pon ha 1 (hon 1 rfl) rfl rfl rfl; exact value_ (v := .pointer (some ⟨r, k, none⟩)) (by rfl) rfl (by clear HI ha; go_simp) (hK.out _ _ ⟨upk ha 2 hb rfl rfl, HI⟩)) ?_
                        refine steps_cons (by rintro b a w' ⟨ha, HI⟩ hb hon hoff; refine ⟨_, rfl, fun K hK => ?_⟩; have e89 := pon ha 2 (hon 2 rfl) rfl rfl rfl; have k0_ := bc HI hrl ho; have kz_ := bz HI hrl; exact value_ (v := .bool true) (by rfl) rfl (by clear HI ha; go_simp) (hK.out _ _ ⟨upk ha 3 hb rfl rfl, HI⟩)) ?_
                        refine steps_cons (by rintro b a w' ⟨ha, HI⟩ hb hon hoff; refine ⟨_, rfl, fun K hK => ?_⟩; have e90 := pon ha 3 (hon 3 rfl) rfl rfl rfl; exact value_ (v := .bool true) (by rfl) rfl (by clear HI ha; go_simp) (hK.out _ _ ⟨upk ha 4 hb rfl rfl, HI⟩)) ?_
                        refine steps_cons (by rintro b a w' ⟨ha, HI⟩ hb hon hoff; refine ⟨_, rfl, fun K hK => ?_⟩; have e10 := poff ha (t := 10) rfl rfl; have e91 := pon ha 4 (hon 4 rfl) rfl rfl rfl; exact value_ (v := .int .i64 q2) (wanted_on (t := 91) (u := true) rfl rfl rfl e91) rfl (by clear HI ha; go_simp) (hK.out _ _ ⟨upk ha 5 hb rfl rfl, HI⟩)) ?_
                        refine steps_cons (by rintro b a w' ⟨ha, HI⟩ hb hon hoff; refine ⟨_, rfl, fun K hK => ?_⟩; have e92 := pon ha 5 (hon 5 rfl) rfl rfl rfl; have e91 := pon ha 4 (hon 4 rfl) rfl rfl rfl; exact value_ (v := .bool false) (wanted_on (t := 91) (u := true) rfl rfl rfl e91) rfl (by clear HI ha; go_simp) (hK.out _ _ ⟨upk ha 6 hb rfl rfl, HI⟩)) ?_
                        refine steps_cons (by rintro b a w' ⟨ha, HI⟩ hb hon hoff; refine ⟨_, rfl, fun K hK => ?_⟩; have e93 := pon ha 6 (hon 6 rfl) rfl rfl rfl; have e91 := pon ha 4 (hon 4 rfl) rfl rfl rfl; exact value_ (v := .bool false) (wanted_on (t := 91) (u := true) rfl rfl rfl e91) rfl (by clear HI ha; go_simp) (hK.out _ _ ⟨upk ha 7 hb rfl rfl, HI⟩)) ?_
                        refine steps_cons (by rintro b a w' ⟨ha, HI⟩ hb hon hoff; refine ⟨_, rfl, fun K hK => ?_⟩; have e0 := poff ha (t := 0) rfl rfl; have e94 := pon ha 7 (hon 7 rfl) rfl rfl rfl; exact value_ (v := .slice (some ⟨ga, oa, none⟩) i cap) (wanted_on (t := 94) (u := false) rfl rfl rfl e94) rfl (by clear HI ha; go_simp) (hK.out _ _ ⟨upk ha 8 hb rfl rfl, HI⟩)) ?_
                        refine steps_cons (by rintro b a w' ⟨ha, HI⟩ hb hon hoff; refine ⟨_, rfl, fun K hK => ?_⟩; have e11 := poff ha (t := 11) rfl rfl; have e94 := pon ha 7 (hon 7 rfl) rfl rfl rfl; exact value_ (v := .int .i64 k) (wanted_on (t := 94) (u := false) rfl rfl rfl e94) rfl (by clear HI ha; go_simp) (hK.out _ _ ⟨upk ha 9 hb rfl rfl, HI⟩)) ?_
                        refine steps_cons (by rintro b a w' ⟨ha, HI⟩ hb hon hoff; refine ⟨_, rfl, fun K hK => ?_⟩; have e95 := pon ha 8 (hon 8 rfl) rfl rfl rfl; have e96 := pon ha 9 (hon 9 rfl) rfl rfl rfl; have e94 := pon ha 7 (hon 7 rfl) rfl rfl rfl; exact value_ (v := .pointer (some ⟨ga, oa + k, none⟩)) (wanted_on (t := 94) (u := false) rfl rfl rfl e94) rfl (by clear HI ha; go_simp) (hK.out _ _ ⟨upk ha 10 hb rfl rfl, HI⟩)) ?_
                        refine steps_cons (by rintro b a w' ⟨ha, HI⟩ hb hon hoff; refine ⟨_, rfl, fun K hK => ?_⟩; have e97 := pon ha 10 (hon 10 rfl) rfl rfl rfl; have e94 := pon ha 7 (hon 7 rfl) rfl rfl rfl; have k0_ := bc HI hgl hck; have kz_ := bz HI hgl; exact value_ (v := .int .i16 (L k)) (wanted_on (t := 94) (u := false) rfl rfl rfl e94) rfl (by clear HI ha; go_simp) (hK.out _ _ ⟨upk ha 11 hb rfl rfl, HI⟩)) ?_
                        refine steps_cons (by rintro b a w' ⟨ha, HI⟩ hb hon hoff; refine ⟨_, rfl, fun K hK => ?_⟩; have e0 := poff ha (t := 0) rfl rfl; have e94 := pon ha 7 (hon 7 rfl) rfl rfl rfl; exact value_ (v := .slice (some ⟨ga, oa, none⟩) i cap) (wanted_on (t := 94) (u := false) rfl rfl rfl e94) rfl (by clear HI ha; go_simp) (hK.out _ _ ⟨upk ha 12 hb rfl rfl, HI⟩)) ?_
                        refine steps_cons (by rintro b a w' ⟨ha, HI⟩ hb hon hoff; refine ⟨_, rfl, fun K hK => ?_⟩; have e10 := poff ha (t := 10) rfl rfl; have e94 := pon ha 7 (hon 7 rfl) rfl rfl rfl; exact value_ (v := .int .i64 q2) (wanted_on (t := 94) (u := false) rfl rfl rfl e94) rfl (by clear HI ha; go_simp) (hK.out _ _ ⟨upk ha 13 hb rfl rfl, HI⟩)) ?_
                        refine steps_cons (by rintro b a w' ⟨ha, HI⟩ hb hon hoff; refine ⟨_, rfl, fun K hK => ?_⟩; have e99 := pon ha 12 (hon 12 rfl) rfl rfl rfl; have e100 := pon ha 13 (hon 13 rfl) rfl rfl rfl; have e94 := pon ha 7 (hon 7 rfl) rfl rfl rfl; exact value_ (v := .pointer (some ⟨ga, oa + q2, none⟩)) (wanted_on (t := 94) (u := false) rfl rfl rfl e94) rfl (by clear HI ha; go_simp) (hK.out _ _ ⟨upk ha 14 hb rfl rfl, HI⟩)) ?_
                        refine steps_cons (by rintro b a w' ⟨ha, HI⟩ hb hon hoff; refine ⟨_, rfl, fun K hK => ?_⟩; have e101 := pon ha 14 (hon 14 rfl) rfl rfl rfl; have e94 := pon ha 7 (hon 7 rfl) rfl rfl rfl; have k0_ := bc HI hgl hc2; have kz_ := bz HI hgl; exact value_ (v := .int .i16 (L q2)) (wanted_on (t := 94) (u := false) rfl rfl rfl e94) rfl (by clear HI ha; go_simp) (hK.out _ _ ⟨upk ha 15 hb rfl rfl, HI⟩)) ?_
                        refine steps_cons (by rintro b a w' ⟨ha, HI⟩ hb hon hoff; refine ⟨_, rfl, fun K hK => ?_⟩; have e98 := pon ha 11 (hon 11 rfl) rfl rfl rfl; have e102 := pon ha 15 (hon 15 rfl) rfl rfl rfl; have e94 := pon ha 7 (hon 7 rfl) rfl rfl rfl; exact value_ (v := .bool (decide (L k < L q2))) (wanted_on (t := 94) (u := false) rfl rfl rfl e94) rfl (by clear HI ha; go_simp) (hK.out _ _ ⟨upk ha 16 hb rfl rfl, HI⟩)) ?_
                        refine steps_cons (by rintro b a w' ⟨ha, HI⟩ hb hon hoff; refine ⟨_, rfl, fun K hK => ?_⟩; have e94 := pon ha 7 (hon 7 rfl) rfl rfl rfl; have e103 := pon ha 16 (hon 16 rfl) rfl rfl rfl; have e91 := pon ha 4 (hon 4 rfl) rfl rfl rfl; exact value_ (v := .bool (decide (L k < L q2))) (wanted_on (t := 91) (u := true) rfl rfl rfl e91) rfl (by clear HI ha; go_simp) (hK.out _ _ ⟨upk ha 17 hb rfl rfl, HI⟩)) ?_
                        refine steps_cons (by rintro b a w' ⟨ha, HI⟩ hb hon hoff; refine ⟨_, rfl, fun K hK => ?_⟩; have e91 := pon ha 4 (hon 4 rfl) rfl rfl rfl; have e104 := pon ha 17 (hon 17 rfl) rfl rfl rfl; exact value_ (v := .bool (decide (L k < L q2))) (by rfl) rfl (by clear HI ha; go_simp) (hK.out _ _ ⟨upk ha 18 hb rfl rfl, HI⟩)) ?_
                        exact steps_nil
                      · rintro b a w' hall ⟨ha, HI⟩
                        have hb0_ := hall 0 rfl; have hb1_ := hall 1 rfl; have hb2_ := hall 2 rfl; have hb3_ := hall 3 rfl; have hb4_ := hall 4 rfl; have hb5_ := hall 5 rfl; have hb6_ := hall 6 rfl; have hb7_ := hall 7 rfl
                        have hb8_ := hall 8 rfl; have hb9_ := hall 9 rfl; have hb10_ := hall 10 rfl; have hb11_ := hall 11 rfl; have hb12_ := hall 12 rfl; have hb13_ := hall 13 rfl; have hb14_ := hall 14 rfl; have hb15_ := hall 15 rfl
                        have hb16_ := hall 16 rfl; have hb17_ := hall 17 rfl; have hb18_ := hall 18 rfl
                        subst ha
                        simp only [putSel, hb0_, hb1_, hb2_, hb3_, hb4_, hb5_, hb6_, hb7_, hb8_, hb9_, hb10_, hb11_, hb12_, hb13_, hb14_, hb15_, hb16_, hb17_, hb18_, if_true, Act.put, List.setIfInBounds_toArray, List.set_cons_zero, List.set_cons_succ]
                        have hB := (below_then (below_drew (Below.refl _ wq)) (Nat.le_refl _) HI : Below wq.heap.size wq w')
                        clear hall HI hb0_ hb1_ hb2_ hb3_ hb4_ hb5_ hb6_ hb7_ hb8_ hb9_ hb10_ hb11_ hb12_ hb13_ hb14_ hb15_ hb16_ hb17_ hb18_
                        refine ‹∀ (a' : Act) (w' : World), Met _ a' w' → _› _ _ ?_
                        go_meet
                        case rel => exact ⟨rfl, ⟨hB⟩⟩
                case rest =>
                  obtain ⟨rfl, HB⟩ := hcut
                  have HA2 := Side.mk (HA.out.below HB.out)
                  clear HA HB ho hrl hgl hck
                  have h1 := HB1.out
                  clear HB1 HT
                  go_step
                  cases tt
                  · have HE : Side (best on L (k + 1) = bj) := ⟨h1⟩
                    clear h1
                    go_wp2
                    go_roundw
                    case rel => exact ⟨k + 1, by simp, by omega, by rw [HE.out], HA2⟩
                    case measure => simp [intOf]; omega
                  · have HE : Side (best on L (k + 1) = (k : Int)) := ⟨h1⟩
                    clear h1
                    go_wp2
                    go_roundw
                    case rel => exact ⟨k + 1, by simp, by omega, by rw [HE.out], HA2⟩
                    case measure => simp [intOf]; omega
              · have hk8i : ¬ (k : Int) < i := by omega
                obtain rfl : k = i := by omega
                clear hk hk8
                rcases best_tops L 5 k on with ⟨hb1, hnil⟩ | ⟨q, hq, hb1, hoq, hfirst⟩
                · rw [hb1]
                  have CP := Pop_st HA.out.st (by have := alive_len L 5 k on; omega) HpPlain.z false (.inl ⟨hnil, rfl, rfl⟩) _ rfl
                  clear hb1 hnil
                  go_wp2_with fail
                  refine CP.mono ?_
                  rintro e w2 ⟨rfl, s2, f2⟩
                  have S2 := Side.mk s2
                  clear s2 f2 CP
                  go_wp2
                  go_ret
                  exact ⟨rfl, (S2.out.below' (by (repeat (with_reducible first | exact Below.refl _ _ | apply below_drewN | apply below_drew | apply below_alloc)))).below⟩
                · rw [hb1]
                  have CP := Pop_st HA.out.st (by have := alive_len L 5 k on; omega) (item L 5 q) true (.inr ⟨hfirst, rfl⟩) _ rfl
                  have HCNT : Side ((alive L 5 k (upd on q false)).length < gk) := ⟨by
                    rw [← HGN.out]
                    have h1 := drop_len (alive_slots L 5 k on) hfirst.1
                    have h2 := (alive_drop L 5 k on q).length_eq
                    have e : drop (alive L 5 k on) (item L 5 q).1 = drop (alive L 5 k on) (q : Int) := rfl
                    rw [e] at h1
                    omega⟩
                  have hq0 : (0 : Int) ≤ q := by omega
                  have hqi : (q : Int) < k := by omega
                  clear hb1 hfirst hoq
                  go_wp2_with fail
                  refine CP.mono ?_
                  rintro e w2 ⟨rfl, s2, f2⟩
                  have S2 := Side.mk (St.perm s2 (alive_drop L 5 k on q))
                  have VO := Side.mk (Val.fr HA.out.on_ f2 (by decide) (by decide))
                  have HRB := Side.mk HA.out.rb
                  clear s2 f2 CP HA
                  go_upto_region 33 with (fail)
                  obtain ⟨y, hy⟩ : ∃ y, y = w2.heap.size := ⟨_, rfl⟩
                  obtain ⟨W7, hW7⟩ : ∃ W7, W7 = w2.alloc (.cells #[.int .i64 (L q), .int .i64 0, .int .i64 0, .int .i64 5] 32) := ⟨_, rfl⟩
                  rw [show w2.alloc (.cells #[.int .i64 (item L 5 q).2.1, .int .i64 (item L 5 q).2.2.1, .int .i64 (item L 5 q).2.2.2.1, .int .i64 (item L 5 q).2.2.2.2] 32) = W7 from hW7.symm, ← hy, show (item L 5 q).1 = (q : Int) from rfl]
                  have hb7 : Below w2.heap.size w2 W7 := by rw [hW7]; exact (Below.refl _ _).alloc (Nat.le_refl _) _
                  have S7 := Side.mk (S2.out.below' hb7)
                  have VO7 := Side.mk (VO.out.below hb7)
                  have y0' : W7.cell? ⟨y, 0, none⟩ = some (.int .i64 (L q)) := by rw [hW7, hy]; exact (World.cell?_alloc_at _ _ _ _ rfl).trans rfl
                  have hyl : y < W7.heap.size := by rw [hW7, hy]; simp
                  obtain ⟨ga, oa, rfl, hgl, hcq, hy0, hy1⟩ := HLL.out W7 S7.out.below q hq
                  have HW := Side.mk (Go.IntWalk.i64_in (L q) (by omega))
                  clear hW7 hy hb7 S2 VO
                  refine start_ (n := 13) (S := fun w' => True) (ds := []) #[false, false, false, false, false, false, false, false, false, false, false, false, false] (by kernel_rfl) rfl rfl trivial (fun _ => ?_)
                  refine inv_at (B := [0, 0, 3, 7, 15, 31, 15, 15, 207, 463, 975, 2047, 4095]) [0, 1, 2, 3, 4, 5, 6, 7, 8, 9, 10, 11, 12] (fun a0_ b a w' => a = putSel a0_ b [(0, 119, .int .i64 q), (1, 120, .int .i64 q), (2, 121, .bool false), (3, 122, .bool false), (4, 123, .pointer (some ⟨y, 0, none⟩)), (5, 124, .int .i64 (L q)), (6, 125, .slice (some ⟨ga, oa, none⟩) k cap), (7, 126, .int .i64 q), (8, 127, .pointer (some ⟨ga, oa + q, none⟩)), (9, 128, .int .i16 (L q)), (10, 129, .int .i64 (L q)), (11, 130, .bool false), (12, 131, .bool false)] ∧ Below W7.drew.heap.size W7.drew w') rfl (by kernel_rfl) (by kernel_rfl) (by kernel_rfl) ?_ ?_ ?_
                  · exact ⟨by simp only [putSel, Bool.false_eq_true, if_false], Below.refl _ _⟩
                  · refine steps_cons (by rintro b a w' ⟨ha, HI⟩ hb hon hoff; refine ⟨_, rfl, fun K hK => ?_⟩; have e12 := poff ha (t := 12) rfl rfl; exact value_ (v := .int .i64 q) (by rfl) rfl (by clear HI ha; go_simp) (hK.out _ _ ⟨upk ha 0 hb rfl rfl, HI⟩)) ?_
                    refine steps_cons (by rintro b a w' ⟨ha, HI⟩ hb hon hoff; refine ⟨_, rfl, fun K hK => ?_⟩; have e10 := poff ha (t := 10) rfl rfl; exact value_ (v := .int .i64 q) (by rfl) rfl (by clear HI ha; go_simp) (hK.out _ _ ⟨upk ha 1 hb rfl rfl, HI⟩)) ?_
                    refine steps_cons (by rintro b a w' ⟨ha, HI⟩ hb hon hoff; refine ⟨_, rfl, fun K hK => ?_⟩; have e119 := pon ha 0 (hon 0 rfl) rfl rfl rfl; have e120 := pon ha 1 (hon 1 rfl) rfl rfl rfl; exact value_ (v := .bool false) (by rfl) rfl (by clear HI ha; go_simp) (hK.out _ _ ⟨upk ha 2 hb rfl rfl, HI⟩)) ?_
                    refine steps_cons (by rintro b a w' ⟨ha, HI⟩ hb hon hoff; refine ⟨_, rfl, fun K hK => ?_⟩; have e121 := pon ha 2 (hon 2 rfl) rfl rfl rfl; exact value_ (v := .bool false) (by rfl) rfl (by clear HI ha; go_simp) (hK.out _ _ ⟨upk ha 3 hb rfl rfl, HI⟩)) ?_
                    refine steps_cons (by rintro b a w' ⟨ha, HI⟩ hb hon hoff; refine ⟨_, rfl, fun K hK => ?_⟩; have e13 := poff ha (t := 13) rfl rfl; have e122 := pon ha 3 (hon 3 rfl) rfl rfl rfl; exact value_ (v := .pointer (some ⟨y, 0, none⟩)) (wanted_on (t := 122) (u := false) rfl rfl rfl e122) rfl (by clear HI ha; go_simp) (hK.out _ _ ⟨upk ha 4 hb rfl rfl, HI⟩)) ?_
                    refine steps_cons (by rintro b a w' ⟨ha, HI⟩ hb hon hoff; refine ⟨_, rfl, fun K hK => ?_⟩; have e123 := pon ha 4 (hon 4 rfl) rfl rfl rfl; have e122 := pon ha 3 (hon 3 rfl) rfl rfl rfl; have k0_ := bc HI hyl y0'; have kz_ := bz HI hyl; exact value_ (v := .int .i64 (L q)) (wanted_on (t := 122) (u := false) rfl rfl rfl e122) rfl (by clear HI ha; go_simp) (hK.out _ _ ⟨upk ha 5 hb rfl rfl, HI⟩)) ?_
                    refine steps_cons (by rintro b a w' ⟨ha, HI⟩ hb hon hoff; refine ⟨_, rfl, fun K hK => ?_⟩; have e0 := poff ha (t := 0) rfl rfl; have e122 := pon ha 3 (hon 3 rfl) rfl rfl rfl; exact value_ (v := .slice (some ⟨ga, oa, none⟩) k cap) (wanted_on (t := 122) (u := false) rfl rfl rfl e122) rfl (by clear HI ha; go_simp) (hK.out _ _ ⟨upk ha 6 hb rfl rfl, HI⟩)) ?_
                    refine steps_cons (by rintro b a w' ⟨ha, HI⟩ hb hon hoff; refine ⟨_, rfl, fun K hK => ?_⟩; have e10 := poff ha (t := 10) rfl rfl; have e122 := pon ha 3 (hon 3 rfl) rfl rfl rfl; exact value_ (v := .int .i64 q) (wanted_on (t := 122) (u := false) rfl rfl rfl e122) rfl (by clear HI ha; go_simp) (hK.out _ _ ⟨upk ha 7 hb rfl rfl, HI⟩)) ?_
                    refine steps_cons (by rintro b a w' ⟨ha, HI⟩ hb hon hoff; refine ⟨_, rfl, fun K hK => ?_⟩; have e125 := pon ha 6 (hon 6 rfl) rfl rfl rfl; have e126 := pon ha 7 (hon 7 rfl) rfl rfl rfl; have e122 := pon ha 3 (hon 3 rfl) rfl rfl rfl; exact value_ (v := .pointer (some ⟨ga, oa + q, none⟩)) (wanted_on (t := 122) (u := false) rfl rfl rfl e122) rfl (by clear HI ha; go_simp) (hK.out _ _ ⟨upk ha 8 hb rfl rfl, HI⟩)) ?_
                    refine steps_cons (by rintro b a w' ⟨ha, HI⟩ hb hon hoff; refine ⟨_, rfl, fun K hK => ?_⟩; have e127 := pon ha 8 (hon 8 rfl) rfl rfl rfl; have e122 := pon ha 3 (hon 3 rfl) rfl rfl rfl; have k0_ := bc HI hgl hcq; have kz_ := bz HI hgl; exact value_ (v := .int .i16 (L q)) (wanted_on (t := 122) (u := false) rfl rfl rfl e122) rfl (by clear HI ha; go_simp) (hK.out _ _ ⟨upk ha 9 hb rfl rfl, HI⟩)) ?_
                    refine steps_cons (by rintro b a w' ⟨ha, HI⟩ hb hon hoff; refine ⟨_, rfl, fun K hK => ?_⟩; have e128 := pon ha 9 (hon 9 rfl) rfl rfl rfl; have e122 := pon ha 3 (hon 3 rfl) rfl rfl rfl; exact value_ (v := .int .i64 (L q)) (wanted_on (t := 122) (u := false) rfl rfl rfl e122) rfl (by clear HI ha; go_simp; try exact HW.out) (hK.out _ _ ⟨upk ha 10 hb rfl rfl, HI⟩)) ?_
                    refine steps_cons (by rintro b a w' ⟨ha, HI⟩ hb hon hoff; refine ⟨_, rfl, fun K hK => ?_⟩; have e124 := pon ha 5 (hon 5 rfl) rfl rfl rfl; have e129 := pon ha 10 (hon 10 rfl) rfl rfl rfl; have e122 := pon ha 3 (hon 3 rfl) rfl rfl rfl; exact value_ (v := .bool false) (wanted_on (t := 122) (u := false) rfl rfl rfl e122) rfl (by clear HI ha; go_simp) (hK.out _ _ ⟨upk ha 11 hb rfl rfl, HI⟩)) ?_
                    refine steps_cons (by rintro b a w' ⟨ha, HI⟩ hb hon hoff; refine ⟨_, rfl, fun K hK => ?_⟩; have e122 := pon ha 3 (hon 3 rfl) rfl rfl rfl; have e130 := pon ha 11 (hon 11 rfl) rfl rfl rfl; exact value_ (v := .bool false) (by rfl) rfl (by clear HI ha; go_simp) (hK.out _ _ ⟨upk ha 12 hb rfl rfl, HI⟩)) ?_
                    exact steps_nil
                  · rintro b a w' hall ⟨ha, HI⟩
                    have hb0_ := hall 0 rfl; have hb1_ := hall 1 rfl; have hb2_ := hall 2 rfl; have hb3_ := hall 3 rfl; have hb4_ := hall 4 rfl; have hb5_ := hall 5 rfl; have hb6_ := hall 6 rfl; have hb7_ := hall 7 rfl
                    have hb8_ := hall 8 rfl; have hb9_ := hall 9 rfl; have hb10_ := hall 10 rfl; have hb11_ := hall 11 rfl; have hb12_ := hall 12 rfl
                    subst ha
                    simp only [putSel, hb0_, hb1_, hb2_, hb3_, hb4_, hb5_, hb6_, hb7_, hb8_, hb9_, hb10_, hb11_, hb12_, if_true, Act.put, List.setIfInBounds_toArray, List.set_cons_zero, List.set_cons_succ]
                    have hB := (below_then (below_drew (Below.refl _ W7)) (Nat.le_refl _) HI : Below W7.heap.size W7 w')
                    clear hall HI hb0_ hb1_ hb2_ hb3_ hb4_ hb5_ hb6_ hb7_ hb8_ hb9_ hb10_ hb11_ hb12_
                    refine ‹∀ (a : Act) (w : World), Code.wp Try.prog _ _ a w → _› _ _ ?_
                    have S8 := Side.mk (S7.out.below' hB)
                    have VO8 := Side.mk (VO7.out.below hB)
                    clear hB S7 VO7 y0' hyl hcq hgl
                    have k1 := VO8.out.cell q _ (fl_at _ hq)
                    have k2 := Val.froz VO8.out q
                    have k3 := VO8.out.lt
                    have HN := Side.mk (Dr.set q false S8.out VO8.out HRB.out)
                    clear S8 VO8
                    go_wp2
                    go_roundg ((alive L 5 k (upd on q false)).length)
                    case measure => exact HCNT.out
                    case rel => exact ⟨_, rfl, HN⟩
end Go.Proofs.Ytiebpmbongmgkaa.HpS

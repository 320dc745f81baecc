/- Package pick: the reference's twice and Best, walked by hand. No condition but that the row has 60 tasks at most, with numbers of 64 bits, releases within 2^40, and the clock too. -/
import Derived.Test.YticcgmlgiijjnaaPkH
import Derived.Test.YticcgmlgiijjnaaPkG
set_option linter.unusedVariables false
set_option linter.unusedSimpArgs false
namespace Go.Proofs.Yticcgmlgiijjnaa.PkK
open Go.RowKit Go.Proofs.Yticcgmlgiijjnaa.Kit Go.Proofs.Yticcgmlgiijjnaa.Kit2 Go.Proofs.Yticcgmlgiijjnaa.Kit3 Go.Proofs.Yticcgmlgiijjnaa.Kit4 Go.Proofs.Yticcgmlgiijjnaa.Kit5 HpPlain Go.Maps EvPlain Go.Proofs.Yticcgmlgiijjnaa.HpA Go.Proofs.Yticcgmlgiijjnaa.HpB Go.Proofs.Yticcgmlgiijjnaa.HpK Go.Proofs.Yticcgmlgiijjnaa.Win Go.Proofs.Yticcgmlgiijjnaa.Rank Go.Proofs.Yticcgmlgiijjnaa.Cmp Go.Proofs.Yticcgmlgiijjnaa.PkPlain Go.Proofs.Yticcgmlgiijjnaa.PkA Go.Proofs.Yticcgmlgiijjnaa.PkB Go.Proofs.Yticcgmlgiijjnaa.PkC Go.Proofs.Yticcgmlgiijjnaa.PkD Go.Proofs.Yticcgmlgiijjnaa.PkF Go.Proofs.Yticcgmlgiijjnaa.PkH
open Go.Proofs.YticcgmlgiijjnaaW.PrintLast
def fl (n : Nat) (f : Nat → Value) : List Value := (List.range n).map f
theorem fl_at {n i : Nat} (f : Nat → Value) (h : i < n) : (fl n f)[i]? = some (f i) := by simp [fl, h]
theorem fl_len (n : Nat) (f : Nat → Value) : (fl n f).length = n := by simp [fl]
theorem fl_set (n i : Nat) (f : Nat → Value) (v : Value) : (fl n f).set i v = fl n (upd f i v) := by
  apply List.ext_getElem?
  intro j
  rw [List.getElem?_set, fl_len]
  by_cases hj : j < n
  · rw [fl_at _ hj, fl_at _ hj]
    unfold upd
    by_cases e : i = j
    · subst e; rw [if_pos rfl, if_pos hj, if_pos rfl]
    · rw [if_neg e, if_neg (fun h => e h.symm)]
  · have e1 : (fl n f)[j]? = none := List.getElem?_eq_none (by rw [fl_len]; omega)
    have e2 : (fl n (upd f i v))[j]? = none := List.getElem?_eq_none (by rw [fl_len]; omega)
    rw [e1, e2]
    by_cases e : i = j
    · subst e; rw [if_pos rfl, if_neg hj]
    · rw [if_neg e]
theorem fl_congr {n : Nat} {f g : Nat → Value} (h : ∀ i, i < n → f i = g i) : fl n f = fl n g := by
  unfold fl
  exact List.map_congr_left fun i hi => h i (List.mem_range.1 hi)
theorem info_bool : ∃ i, Try.prog.info? 4 = some i ∧ i.zero = some (.bool false) ∧ i.size = 1 ∧ i.bytes = 1 := by
  have h : (Try.prog.info? 4).map (fun i => (i.zero, i.size, i.bytes)) = some (some (.bool false), 1, 1) := by kernel_rfl
  obtain ⟨i, hi, he⟩ := Option.map_eq_some_iff.1 h
  simp only [Prod.mk.injEq] at he
  exact ⟨i, hi, he.1, he.2.1, he.2.2⟩
theorem made_val {w : World} {B n g : Nat} (h : w.ownsRow B 4 1 (.slice (some ⟨g, 0, none⟩) n n) n (madeCells (Value.bool false).cells (n * 1)).toList) : Val w 4 g (fl n (fun _ => .bool false)) := by
  obtain ⟨hl, ⟨h0, _⟩ | ⟨g', cap, cur, hv, hB, hg, hn, hm, hs, ht⟩⟩ := h
  · simp at h0
  · simp at hv
    obtain ⟨rfl, rfl⟩ := hv
    refine ⟨cur, ?_, hg⟩
    rw [Nat.mul_one] at ht hs
    rw [List.take_of_length_le (by rw [Array.length_toList]; omega)] at ht
    rw [ht]
    have e : (Value.bool false).cells = #[.bool false] := rfl
    rw [e, toList_madeCells_one]
    apply List.ext_getElem?
    intro j
    by_cases hj : j < n
    · rw [fl_at _ hj]; simp [hj]
    · rw [List.getElem?_eq_none (by simp; omega), List.getElem?_eq_none (by rw [fl_len]; omega)]

set_option maxHeartbeats 4000000 in
set_option maxRecDepth 100000 in
theorem twice_at (a : Option Addr) (n cap : Nat) (ts : List Tk) (i : Nat) (w : World) (hrow : QRow w a ts) (hn : ts.length = n) (hi : i < n) (hl : n ≤ 1000) :
    Calls Try.prog 27 #[.slice a n cap, .int .i64 i] w fun r w' => r = .returned (.bool (!fresh (PkB.at_ ts) i)) ∧ Below w.heap.size w w' := by
  have HQ := Side.mk hrow
  have HLN := Side.mk hn
  clear hrow hn
  have hi0 : (0 : Int) ≤ i := by omega
  have hii : (i : Int) < n := by omega
  go_enter Try.func27, Try.ntmps27
  go_wp2_with fail
  go_loopw [5] (fun v5 wr => ∃ k : Nat, v5 = .int .i64 (k : Int) ∧ k ≤ i ∧ Side (∀ j, j < k → (PkB.at_ ts j).id ≠ (PkB.at_ ts i).id) ∧ Side (Below w.heap.size w wr)) (fun v5 _ => (i - intOf v5).toNat)
  case atStart => exact ⟨0, rfl, Nat.zero_le _, ⟨fun j hj => absurd hj (by omega)⟩, ⟨Below.refl _ _⟩⟩
  case round =>
    obtain ⟨k, rfl, hk, HN, HB⟩ := hrel
    have hk0 : (0 : Int) ≤ k := by omega
    obtain ⟨wq, hwq⟩ : ∃ wq : World, wq = wr := ⟨_, rfl⟩
    rw [← hwq] at HB ⊢
    clear hwq
    by_cases hklt : k < i
    · have hkk : (k : Int) < i := by omega
      have hkl : (k : Int) < n := by omega
      have hk1 : (k : Int) + 1 ≤ 9223372036854775807 := by omega
      obtain ⟨g, off, rfl, hgl, hcs⟩ := (HQ.out.below HB.out).get i (by rw [HLN.out]; exact hi)
      obtain ⟨g', off', hgo2, -, hcs2⟩ := (HQ.out.below HB.out).get k (by rw [HLN.out]; omega)
      obtain ⟨rfl, rfl⟩ : g = g' ∧ off = off' := by simpa using hgo2
      obtain ⟨t, ht⟩ : ∃ t, t = PkB.at_ ts i := ⟨_, rfl⟩
      have HT := Side.mk ht
      rw [← ht] at hcs
      clear ht
      obtain ⟨u, hu⟩ : ∃ u, u = PkB.at_ ts k := ⟨_, rfl⟩
      have HU := Side.mk hu
      rw [← hu] at hcs2
      clear hu
      have x0 : wq.cell? ⟨g, off + i * 11, none⟩ = some (.int .i64 t.id) := hcs 0 _ rfl
      have y0 : wq.cell? ⟨g, off + k * 11, none⟩ = some (.int .i64 u.id) := hcs2 0 _ rfl
      clear hcs hcs2 hgo2
      by_cases he : u.id = t.id
      · have he2 : (u.id == t.id) = true := by simp [he]
        have he3 : decide (u.id = t.id) = true := decide_eq_true he
        have HR : Side (true = !fresh (PkB.at_ ts) i) := ⟨by
          have : fresh (PkB.at_ ts) i = false := by
            unfold fresh
            rw [Bool.not_eq_false']
            exact List.any_eq_true.2 ⟨k, List.mem_range.2 hklt, by rw [← HT.out, ← HU.out]; simpa using he⟩
          rw [this]; rfl⟩
        go_upto_region 4 with (fail)
        go_quiet (fail)
        go_wp2
        go_ret
        exact ⟨ret_bool HR.out, (by (repeat (with_reducible first | exact HB.out | apply below_drewN | apply below_drew)))⟩
      · have he2 : (u.id == t.id) = false := by simp [he]
        have he3 : decide (u.id = t.id) = false := decide_eq_false he
        have HN2 : Side (∀ j, j < k + 1 → (PkB.at_ ts j).id ≠ (PkB.at_ ts i).id) := ⟨fun j hj => by
          by_cases e : j = k
          · rw [e, ← HU.out, ← HT.out]; exact he
          · exact HN.out j (by omega)⟩
        go_upto_region 4 with (fail)
        go_quiet (fail)
        clear x0 y0 HU HN HT he he2 he3 hgl
        go_wp2
        go_roundw
        case rel => exact ⟨k + 1, by simp, by omega, HN2, ⟨(by (repeat (with_reducible first | exact HB.out | apply below_drewN | apply below_drew)))⟩⟩
        case measure => simp [intOf]; omega
    · have hkk : ¬ (k : Int) < i := by omega
      obtain rfl : k = i := by omega
      have HR : Side (false = !fresh (PkB.at_ ts) k) := ⟨by rw [fresh_of _ _ HN.out]; rfl⟩
      go_wp2
      go_ret
      exact ⟨ret_bool HR.out, HB.out⟩
/-! ### Best -/
def on2 (f : Nat → Tk) (c : Int) (y : Bool) (u : Nat → Bool) (j : Nat) : Bool := !u j && on0 f c y j
theorem on2_upd (f : Nat → Tk) (c : Int) (y : Bool) (u : Nat → Bool) (q : Nat) : on2 f c y (upd u q true) = upd (on2 f c y u) q false := by
  funext j
  unfold on2 upd
  split <;> simp
theorem on2_start (f : Nat → Tk) (c : Int) (y : Bool) : on2 f c y (fun _ => false) = on0 f c y := by
  funext j
  unfold on2
  simp
/-- Between the rounds. -/
structure Rb (W : World) (b n : Nat) (u : Nat → Bool) (v : Value) (xs : List Int) (w : World) : Prop where
  below : Below W.heap.size W w
  us : Val w 4 b (fl n (fun j => .bool (u j)))
  ub : W.heap.size ≤ b
  row : IRow w W.heap.size v xs
theorem Rb.step {W w w' : World} {b n : Nat} {u : Nat → Bool} {v : Value} {xs : List Int} (h : Rb W b n u v xs w) (hb : Below w.heap.size w w') : Rb W b n u v xs w' := ⟨below_then h.below h.below.size hb, h.us.below hb, h.ub, GRow.below h.row hb⟩
theorem Rb.o {W w : World} {b n : Nat} {u : Nat → Bool} {v : Value} {xs : List Int} (h : Rb W b n u v xs w) (j : Nat) (hj : j < n) : w.cell? ⟨b, j, none⟩ = some (.bool (u j)) := h.us.cell j _ (fl_at _ hj)
theorem Rb.set {W w : World} {b n : Nat} {u : Nat → Bool} {v : Value} {xs : List Int} (h : Rb W b n u v xs w) (k : Nat) : Rb W b n (upd u k true) v xs (w.setCell ⟨b, k, none⟩ (.bool true)) := by
  refine ⟨Below.setCell h.below h.ub _, ?_, h.ub, ?_⟩
  · have h1 := PkG.Val.set h.us k (.bool true)
    rw [fl_set] at h1
    have e : fl n (upd (fun j => Value.bool (u j)) k (.bool true)) = fl n (fun j => .bool (upd u k true j)) := fl_congr fun j _ => by unfold upd; split <;> rfl
    rw [e] at h1
    exact h1
  · refine GRow.move h.row fun j hj => blk_far _ (fun e => ?_) _
    obtain ⟨cs, _, h2⟩ := h.us
    obtain ⟨cur, h3⟩ := GRow.cells h.row j hj
    have e : j = b := e
    rw [e, h2] at h3
    simp at h3
theorem Rb.app {W w w' : World} {b n : Nat} {u : Nat → Bool} {v v' : Value} {xs ys : List Int} (h : Rb W b n u v xs w) (hr' : IRow w' W.heap.size v' ys) (hg : w.grownBy w' v.ownBlock) : Rb W b n u v' ys w' := by
  have hc := Kit5.Chg.of_grown hg
  refine ⟨h.below.trans (Chg.below hc h.below.size (fun k hk => GRow.base h.row k hk.symm)), ?_, h.ub, hr'⟩
  refine h.us.move (hc.block b h.us.lt fun e => ?_)
  obtain ⟨cs, _, h2⟩ := h.us
  obtain ⟨cur, h3⟩ := GRow.cells h.row b e.symm
  rw [h2] at h3
  simp at h3
theorem RankLessS (x1 x2 x3 x4 y1 y2 y3 y4 : Int) (w : World) : Side (Calls Try.prog 28 #[.agg #[.int .i64 x1, .int .i64 x2, .int .i64 x3, .int .i64 x4], .agg #[.int .i64 y1, .int .i64 y2, .int .i64 y3, .int .i64 y4]] w fun r w' => r = .returned (.bool (rless ⟨x1, x2, x3, x4⟩ ⟨y1, y2, y3, y4⟩)) ∧ Below w.heap.size w w') := ⟨RankLess_at ⟨x1, x2, x3, x4⟩ ⟨y1, y2, y3, y4⟩ w⟩
theorem can_ge {t : Tk} {c : Int} {y : Bool} (h : can t c y = true) : t.g < t.e := by
  unfold can at h
  simp only [Bool.and_eq_true, decide_eq_true_eq] at h
  exact h.1.2.1
set_option maxHeartbeats 16000000 in
set_option maxRecDepth 100000 in
theorem RBest_at (a : Option Addr) (n cap : Nat) (ts : List Tk) (c K : Int) (y : Bool) (w : World) (hrow : QRow w a ts) (hn : ts.length = n) (hl : n ≤ 60) (hc0 : -1099511627776 ≤ c) (hc1 : c ≤ 1099511627776) (hK : K ≤ 9223372036854775807) (hfit : ∀ i, i < n → Fit (PkB.at_ ts i)) :
    Calls Try.prog 17 #[.slice a n cap, .int .i64 c, .int .i64 K, .bool y] w fun r w' => ∃ v, r = .returned v ∧ IRow w' w.heap.size v (ids (PkB.at_ ts) n c K.toNat y) ∧ Below w.heap.size w w' := by
  have HQ := Side.mk hrow
  have HLN := Side.mk hn
  have HFI := Side.mk hfit
  clear hrow hn hfit
  have hn0 : (0 : Int) ≤ n := by omega
  obtain ⟨ib, hi1, hi2, hi3, hi4⟩ := info_bool
  have HI1 := Side.mk hi1
  clear hi1
  go_enter Try.func17, Try.ntmps17
  go_wp2_with (at_make; refine wpList_make_full _ rfl _ _ 61 rfl w.heap.size 4 ib (.bool false) 1 Try.underlying61 HI1.out hi2 hi3 .i64 .i64 _ _ n rfl rfl rfl rfl (by rw [hi4]; omega) (by unfold maxLen; omega) (Nat.le_refl _) ?_; intro w2 hown hgr; have D0 : Side (Rb w w.heap.size n (fun _ => false) (.slice none 0 0) (([] : List Nat).map fun q => (PkB.at_ ts q).id) w2) := ⟨⟨⟨hgr.os, hgr.tape, hgr.output, hgr.size, fun k hk => hgr.block k hk (by simp)⟩, made_val hown, Nat.le_refl _, GRow.nil _ _⟩⟩; clear hown hgr)
  go_loopw [9, 11] (fun v9 v11 wr => ∃ (k : Nat) (u : Nat → Bool) (o : List Nat), v11 = .int .i64 (k : Int) ∧ o.length = k ∧ k ≤ K.toNat ∧ Side (picks (PkB.at_ ts) n K.toNat (on0 (PkB.at_ ts) c y) = o ++ picks (PkB.at_ ts) n (K.toNat - k) (on2 (PkB.at_ ts) c y u)) ∧ Side (Rb w w.heap.size n u v9 (o.map fun q => (PkB.at_ ts q).id) wr)) (fun _ v11 _ => (K - intOf v11).toNat)
  case atStart => exact ⟨0, fun _ => false, [], rfl, rfl, Nat.zero_le _, ⟨by rw [on2_start]; rfl⟩, D0⟩
  case round =>
    clear D0
    obtain ⟨k, u, o, rfl, hok, hkK, HPK, HL⟩ := hrel
    have hk0 : (0 : Int) ≤ k := by omega
    obtain ⟨wp, hwp⟩ : ∃ wp : World, wp = wr := ⟨_, rfl⟩
    rw [← hwp] at HL ⊢
    clear hwp
    obtain ⟨a9, c9, rfl, -, -⟩ := HL.out.row.shape E1
    have HOK := Side.mk hok
    rw [List.length_map, hok] at HL ⊢
    by_cases hjk : (k : Int) < K
    · have hk1 : (k : Int) + 1 ≤ 9223372036854775807 := by omega
      have hoff : K.toNat - k = (K.toNat - (k + 1)) + 1 := by omega
      have HOF := Side.mk hoff
      have hon : o.length ≤ n := by
        have h1 := congrArg List.length HPK.out
        rw [picks_len, List.length_append] at h1
        have := alv_len (PkB.at_ ts) n (on0 (PkB.at_ ts) c y)
        omega
      clear hoff
      go_wp2_with fail
      go_loopw [12, 13] (fun v12 v13 wr2 => ∃ i : Nat, v13 = .int .i64 (i : Int) ∧ i ≤ n ∧ v12 = .int .i64 (bst (on2 (PkB.at_ ts) c y u) (PkB.at_ ts) i) ∧ Side (Rb w w.heap.size n u (.slice a9 k c9) (o.map fun q => (PkB.at_ ts q).id) wr2)) (fun _ v13 _ => (n - intOf v13).toNat)
      case atStart => exact ⟨0, rfl, Nat.zero_le _, rfl, HL⟩
      case round =>
        clear HL
        obtain ⟨i, rfl, hi, rfl, HL⟩ := hrel
        have hi0 : (0 : Int) ≤ i := by omega
        obtain ⟨wq, hwq⟩ : ∃ wq : World, wq = wr := ⟨_, rfl⟩
        rw [← hwq] at HL ⊢
        clear hwq
        have HSP := Side.mk (bst_spec (on2 (PkB.at_ ts) c y u) (PkB.at_ ts) i)
        by_cases hlt : i < n
        · have hii : (i : Int) < n := by omega
          have hi1 : (i : Int) + 1 ≤ 9223372036854775807 := by omega
          obtain ⟨nb, hnb⟩ : ∃ nb, bst (on2 (PkB.at_ ts) c y u) (PkB.at_ ts) (i + 1) = nb := ⟨_, rfl⟩
          obtain ⟨bj, hbj⟩ : ∃ bj, bst (on2 (PkB.at_ ts) c y u) (PkB.at_ ts) i = bj := ⟨_, rfl⟩
          have HNX : Side (nb = if (!u i && (fresh (PkB.at_ ts) i && can (PkB.at_ ts i) c y)) && (decide (bj < 0) || rless (rk (PkB.at_ ts i)) (rk (PkB.at_ ts bj.toNat))) then (i : Int) else bj) := ⟨by rw [← hnb, ← hbj]; rfl⟩
          rw [hbj] at HSP ⊢
          have HNB := Side.mk hnb
          clear hnb hbj
          obtain ⟨g, off, rfl, hgl, hcs⟩ := (HQ.out.below HL.out.below).get i (by rw [HLN.out]; exact hlt)
          have hui := HL.out.o i hlt
          have hul := HL.out.us.lt
          have TWI := fun w' (h : QRow w' (some ⟨g, off, none⟩) ts) => twice_at (some ⟨g, off, none⟩) n cap ts i w' h HLN.out hlt (by omega)
          have CAN := fun w => Side.mk (RCan_at (PkB.at_ ts i) (HFI.out i hlt) c hc0 hc1 y w)
          have RNK := fun hge w => Side.mk (RRank_at (PkB.at_ ts i) (HFI.out i hlt) hge w)
          have CGE := Side.mk (fun h => can_ge (t := PkB.at_ ts i) (c := c) (y := y) h)
          obtain ⟨t, ht⟩ : ∃ t, t = PkB.at_ ts i := ⟨_, rfl⟩
          have HT := Side.mk ht
          rw [← ht] at hcs CAN RNK CGE HNX
          clear ht
          have u0 : wq.cell? ⟨g, off + i * 11, none⟩ = some (.int .i64 t.id) := hcs 0 _ rfl
          have u1 : wq.cell? ⟨g, off + i * 11 + 1, none⟩ = some (.int .i64 t.e) := hcs 1 _ rfl
          have u2 : wq.cell? ⟨g, off + i * 11 + 2, none⟩ = some (.int .i64 t.p) := hcs 2 _ rfl
          have u3 : wq.cell? ⟨g, off + i * 11 + 3, none⟩ = some (.bool t.s) := hcs 3 _ rfl
          have u4 : wq.cell? ⟨g, off + i * 11 + 4, none⟩ = some (.bool t.l) := hcs 4 _ rfl
          have u5 : wq.cell? ⟨g, off + i * 11 + 5, none⟩ = some (.bool t.wt) := hcs 5 _ rfl
          have u6 : wq.cell? ⟨g, off + i * 11 + 6, none⟩ = some (.bool t.a) := hcs 6 _ rfl
          have u7 : wq.cell? ⟨g, off + i * 11 + 7, none⟩ = some (.int .i64 t.r) := hcs 7 _ rfl
          have u8 : wq.cell? ⟨g, off + i * 11 + 8, none⟩ = some (.int .i64 t.g) := hcs 8 _ rfl
          have u9 : wq.cell? ⟨g, off + i * 11 + 9, none⟩ = some (.bool t.d) := hcs 9 _ rfl
          have u10 : wq.cell? ⟨g, off + i * 11 + 10, none⟩ = some (.int .i64 t.c) := hcs 10 _ rfl
          clear hcs
          generalize hu : u i = ui at *
          have HU := Side.mk hu
          clear hu
          go_upto_block 3 with (fail)
          go_cut [12] (fun v we => v = .int .i64 nb ∧ Side (Rb w w.heap.size n u (.slice a9 k c9) (o.map fun q => (PkB.at_ ts q).id) we))
          case first =>
            cases ui
            case true =>
              obtain rfl : nb = bj := HNX.out
              clear HNX CAN RNK TWI
              go_wp2
              go_meet
              case rel => exact ⟨rfl, HL⟩
            go_wp2_with fail
            refine (CAN _).out.mono ?_
            rintro e w6 ⟨rfl, hb6⟩
            have HL6 := Side.mk (HL.out.step hb6)
            clear HL hb6 CAN hui hul u0 u1 u2 u3 u4 u5 u6 u7 u8 u9 u10
            cases hcan : can t c y
            · have hnx := HNX.out
              rw [hcan] at hnx
              obtain rfl : nb = bj := by rw [hnx]; simp
              clear HNX RNK TWI hnx hcan
              go_wp2
              go_meet
              case rel => exact ⟨rfl, HL6⟩
            have HGE := Side.mk (CGE.out hcan)
            go_wp2_with fail
            refine (TWI _ (HQ.out.below HL6.out.below)).mono ?_
            rintro e w7 ⟨rfl, hb7⟩
            have HL7 := Side.mk (HL6.out.step hb7)
            clear HL6 hb7 TWI
            cases hfr : fresh (PkB.at_ ts) i
            · have hnx := HNX.out
              rw [hfr] at hnx
              obtain rfl : nb = bj := by rw [hnx]; simp
              clear HNX RNK hnx hfr hcan
              go_wp2
              go_meet
              case rel => exact ⟨rfl, HL7⟩
            have hnx := HNX.out
            rw [hfr, hcan, Bool.not_false, Bool.true_and, Bool.true_and, Bool.true_and] at hnx
            have HNX2 := Side.mk hnx
            clear hnx HNX hfr hcan
            go_upto_region 11 with (fail)
            obtain ⟨tt, htt⟩ : ∃ tt, tt = (decide (bj < 0) || rless (rk t) (rk (PkB.at_ ts bj.toNat))) := ⟨_, rfl⟩
            have HTT := Side.mk htt
            rw [← htt] at HNX2
            clear htt
            go_cut [61] (fun v we => v = .bool tt ∧ Side (Below w7.heap.size w7 we))
            case first =>
              have hto := HTT.out
              clear HNX2 HTT
              rcases HSP.out with ⟨h1, -⟩ | ⟨q, hq, h1, hoq, -⟩
              · subst h1
                rw [decide_eq_true (by decide), Bool.true_or] at hto
                subst hto
                clear HSP
                refine start_ (n := 15) (S := fun w' => True) (ds := []) #[false, false, false, false, false, false, false, false, false, false, false, false, false, false, false] (by kernel_rfl) rfl rfl trivial (fun _ => ?_)
                refine inv_at (B := [0, 1, 3, 7, 7, 31, 63, 127, 7, 7, 775, 1799, 4095, 8191, 16383]) [0, 1, 2, 3, 4, 5, 6, 7, 8, 9, 10, 11, 12, 13, 14] (fun a0_ b a w' => a = putSel a0_ b [(0, 47, .int .i64 (-1)), (1, 48, .bool true), (2, 49, .bool true), (3, 50, undef), (4, 51, undef), (5, 52, undef), (6, 53, undef), (7, 54, undef), (8, 55, undef), (9, 56, undef), (10, 57, undef), (11, 58, undef), (12, 59, undef), (13, 60, undef), (14, 61, .bool true)] ∧ Below w7.drew.heap.size w7.drew w') rfl (by kernel_rfl) (by kernel_rfl) (by kernel_rfl) ?_ ?_ ?_
                · exact ⟨by simp only [putSel, Bool.false_eq_true, if_false], Below.refl _ _⟩
                · refine steps_cons (by rintro b a w' ⟨ha, HI⟩ hb hon hoff; refine ⟨_, rfl, fun K hK => ?_⟩; have e12 := poff ha (t := 12) rfl rfl; exact value_ (v := .int .i64 (-1)) (by rfl) rfl (by clear HI ha; go_simp) (hK.out _ _ ⟨upk ha 0 hb rfl rfl, HI⟩)) ?_
                  refine steps_cons (by rintro b a w' ⟨ha, HI⟩ hb hon hoff; refine ⟨_, rfl, fun K hK => ?_⟩; have e47 := pon ha 0 (hon 0 rfl) rfl rfl rfl; exact value_ (v := .bool true) (by rfl) rfl (by clear HI ha; go_simp) (hK.out _ _ ⟨upk ha 1 hb rfl rfl, HI⟩)) ?_
                  refine steps_cons (by rintro b a w' ⟨ha, HI⟩ hb hon hoff; refine ⟨_, rfl, fun K hK => ?_⟩; have e48 := pon ha 1 (hon 1 rfl) rfl rfl rfl; exact value_ (v := .bool true) (by rfl) rfl (by clear HI ha; go_simp) (hK.out _ _ ⟨upk ha 2 hb rfl rfl, HI⟩)) ?_
                  refine steps_cons (by rintro b a w' ⟨ha, HI⟩ hb hon hoff; refine ⟨_, rfl, fun K hK => ?_⟩; have e0 := poff ha (t := 0) rfl rfl; have e49 := pon ha 2 (hon 2 rfl) rfl rfl rfl; exact off_ (wanted_off (t := 49) (u := false) rfl rfl rfl e49) (hK.out _ _ ⟨upk ha 3 hb rfl rfl, HI⟩)) ?_
                  refine steps_cons (by rintro b a w' ⟨ha, HI⟩ hb hon hoff; refine ⟨_, rfl, fun K hK => ?_⟩; have e13 := poff ha (t := 13) rfl rfl; have e49 := pon ha 2 (hon 2 rfl) rfl rfl rfl; exact off_ (wanted_off (t := 49) (u := false) rfl rfl rfl e49) (hK.out _ _ ⟨upk ha 4 hb rfl rfl, HI⟩)) ?_
                  refine steps_cons (by rintro b a w' ⟨ha, HI⟩ hb hon hoff; refine ⟨_, rfl, fun K hK => ?_⟩; have e50 := pon ha 3 (hon 3 rfl) rfl rfl rfl; have e51 := pon ha 4 (hon 4 rfl) rfl rfl rfl; have e49 := pon ha 2 (hon 2 rfl) rfl rfl rfl; exact off_ (wanted_off (t := 49) (u := false) rfl rfl rfl e49) (hK.out _ _ ⟨upk ha 5 hb rfl rfl, HI⟩)) ?_
                  refine steps_cons (by rintro b a w' ⟨ha, HI⟩ hb hon hoff; refine ⟨_, rfl, fun K hK => ?_⟩; have e52 := pon ha 5 (hon 5 rfl) rfl rfl rfl; have e49 := pon ha 2 (hon 2 rfl) rfl rfl rfl; exact off_ (wanted_off (t := 49) (u := false) rfl rfl rfl e49) (hK.out _ _ ⟨upk ha 6 hb rfl rfl, HI⟩)) ?_
                  refine steps_cons (by rintro b a w' ⟨ha, HI⟩ hb hon hoff; refine ⟨_, rfl, fun K hK => ?_⟩; have e53 := pon ha 6 (hon 6 rfl) rfl rfl rfl; have e49 := pon ha 2 (hon 2 rfl) rfl rfl rfl; exact off_ (wanted_off (t := 49) (u := false) rfl rfl rfl e49) (hK.out _ _ ⟨upk ha 7 hb rfl rfl, HI⟩)) ?_
                  refine steps_cons (by rintro b a w' ⟨ha, HI⟩ hb hon hoff; refine ⟨_, rfl, fun K hK => ?_⟩; have e0 := poff ha (t := 0) rfl rfl; have e49 := pon ha 2 (hon 2 rfl) rfl rfl rfl; exact off_ (wanted_off (t := 49) (u := false) rfl rfl rfl e49) (hK.out _ _ ⟨upk ha 8 hb rfl rfl, HI⟩)) ?_
                  refine steps_cons (by rintro b a w' ⟨ha, HI⟩ hb hon hoff; refine ⟨_, rfl, fun K hK => ?_⟩; have e12 := poff ha (t := 12) rfl rfl; have e49 := pon ha 2 (hon 2 rfl) rfl rfl rfl; exact off_ (wanted_off (t := 49) (u := false) rfl rfl rfl e49) (hK.out _ _ ⟨upk ha 9 hb rfl rfl, HI⟩)) ?_
                  refine steps_cons (by rintro b a w' ⟨ha, HI⟩ hb hon hoff; refine ⟨_, rfl, fun K hK => ?_⟩; have e55 := pon ha 8 (hon 8 rfl) rfl rfl rfl; have e56 := pon ha 9 (hon 9 rfl) rfl rfl rfl; have e49 := pon ha 2 (hon 2 rfl) rfl rfl rfl; exact off_ (wanted_off (t := 49) (u := false) rfl rfl rfl e49) (hK.out _ _ ⟨upk ha 10 hb rfl rfl, HI⟩)) ?_
                  refine steps_cons (by rintro b a w' ⟨ha, HI⟩ hb hon hoff; refine ⟨_, rfl, fun K hK => ?_⟩; have e57 := pon ha 10 (hon 10 rfl) rfl rfl rfl; have e49 := pon ha 2 (hon 2 rfl) rfl rfl rfl; exact off_ (wanted_off (t := 49) (u := false) rfl rfl rfl e49) (hK.out _ _ ⟨upk ha 11 hb rfl rfl, HI⟩)) ?_
                  refine steps_cons (by rintro b a w' ⟨ha, HI⟩ hb hon hoff; refine ⟨_, rfl, fun K hK => ?_⟩; have e58 := pon ha 11 (hon 11 rfl) rfl rfl rfl; have e49 := pon ha 2 (hon 2 rfl) rfl rfl rfl; exact off_ (wanted_off (t := 49) (u := false) rfl rfl rfl e49) (hK.out _ _ ⟨upk ha 12 hb rfl rfl, HI⟩)) ?_
                  refine steps_cons (by rintro b a w' ⟨ha, HI⟩ hb hon hoff; refine ⟨_, rfl, fun K hK => ?_⟩; have e54 := pon ha 7 (hon 7 rfl) rfl rfl rfl; have e59 := pon ha 12 (hon 12 rfl) rfl rfl rfl; have e49 := pon ha 2 (hon 2 rfl) rfl rfl rfl; exact off_ (wanted_off (t := 49) (u := false) rfl rfl rfl e49) (hK.out _ _ ⟨upk ha 13 hb rfl rfl, HI⟩)) ?_
                  refine steps_cons (by rintro b a w' ⟨ha, HI⟩ hb hon hoff; refine ⟨_, rfl, fun K hK => ?_⟩; have e49 := pon ha 2 (hon 2 rfl) rfl rfl rfl; have e60 := pon ha 13 (hon 13 rfl) rfl rfl rfl; exact value_ (v := .bool true) (by rfl) rfl (by clear HI ha; go_simp) (hK.out _ _ ⟨upk ha 14 hb rfl rfl, HI⟩)) ?_
                  exact steps_nil
                · rintro b a w' hall ⟨ha, HI⟩
                  have hb0_ := hall 0 rfl; have hb1_ := hall 1 rfl; have hb2_ := hall 2 rfl; have hb3_ := hall 3 rfl; have hb4_ := hall 4 rfl; have hb5_ := hall 5 rfl; have hb6_ := hall 6 rfl; have hb7_ := hall 7 rfl
                  have hb8_ := hall 8 rfl; have hb9_ := hall 9 rfl; have hb10_ := hall 10 rfl; have hb11_ := hall 11 rfl; have hb12_ := hall 12 rfl; have hb13_ := hall 13 rfl; have hb14_ := hall 14 rfl
                  subst ha
                  simp only [putSel, hb0_, hb1_, hb2_, hb3_, hb4_, hb5_, hb6_, hb7_, hb8_, hb9_, hb10_, hb11_, hb12_, hb13_, hb14_, if_true, Act.put, List.setIfInBounds_toArray, List.set_cons_zero, List.set_cons_succ]
                  have hB := (below_then (below_drew (Below.refl _ w7)) (Nat.le_refl _) HI : Below w7.heap.size w7 w')
                  clear hall HI hb0_ hb1_ hb2_ hb3_ hb4_ hb5_ hb6_ hb7_ hb8_ hb9_ hb10_ hb11_ hb12_ hb13_ hb14_
                  refine ‹∀ (a' : Act) (w' : World), Met _ a' w' → _› _ _ ?_
                  go_meet
                  case rel => exact ⟨rfl, ⟨hB⟩⟩
              · subst h1
                rw [decide_eq_false (by omega), Bool.false_or, Int.toNat_natCast] at hto
                have hqn : q < n := by omega
                have hq0 : (0 : Int) ≤ q := by omega
                have hqi : (q : Int) < n := by omega
                have hgq : (PkB.at_ ts q).g < (PkB.at_ ts q).e := by
                  refine can_ge (c := c) (y := y) ?_
                  unfold on2 on0 at hoq
                  simp only [Bool.and_eq_true] at hoq
                  exact hoq.2.2
                have R2 := fun w => Side.mk (RRank_at (PkB.at_ ts q) (HFI.out q hqn) hgq w)
                have R1 := fun w => RNK HGE.out w
                obtain ⟨g', off', hgo, hgl, hcs⟩ := (HQ.out.below HL7.out.below).get i (by rw [HLN.out]; exact hlt)
                obtain ⟨rfl, rfl⟩ : g = g' ∧ off = off' := by simpa using hgo
                obtain ⟨g', off', hgo2, -, hcs2⟩ := (HQ.out.below HL7.out.below).get q (by rw [HLN.out]; exact hqn)
                obtain ⟨rfl, rfl⟩ : g = g' ∧ off = off' := by simpa using hgo2
                rw [← HT.out] at hcs
                obtain ⟨s, hs⟩ : ∃ s, s = PkB.at_ ts q := ⟨_, rfl⟩
                rw [← hs] at hcs2 R2 hto
                have u0 : w7.cell? ⟨g, off + i * 11, none⟩ = some (.int .i64 t.id) := hcs 0 _ rfl
                have u1 : w7.cell? ⟨g, off + i * 11 + 1, none⟩ = some (.int .i64 t.e) := hcs 1 _ rfl
                have u2 : w7.cell? ⟨g, off + i * 11 + 2, none⟩ = some (.int .i64 t.p) := hcs 2 _ rfl
                have u3 : w7.cell? ⟨g, off + i * 11 + 3, none⟩ = some (.bool t.s) := hcs 3 _ rfl
                have u4 : w7.cell? ⟨g, off + i * 11 + 4, none⟩ = some (.bool t.l) := hcs 4 _ rfl
                have u5 : w7.cell? ⟨g, off + i * 11 + 5, none⟩ = some (.bool t.wt) := hcs 5 _ rfl
                have u6 : w7.cell? ⟨g, off + i * 11 + 6, none⟩ = some (.bool t.a) := hcs 6 _ rfl
                have u7 : w7.cell? ⟨g, off + i * 11 + 7, none⟩ = some (.int .i64 t.r) := hcs 7 _ rfl
                have u8 : w7.cell? ⟨g, off + i * 11 + 8, none⟩ = some (.int .i64 t.g) := hcs 8 _ rfl
                have u9 : w7.cell? ⟨g, off + i * 11 + 9, none⟩ = some (.bool t.d) := hcs 9 _ rfl
                have u10 : w7.cell? ⟨g, off + i * 11 + 10, none⟩ = some (.int .i64 t.c) := hcs 10 _ rfl
                have x0 : w7.cell? ⟨g, off + q * 11, none⟩ = some (.int .i64 s.id) := hcs2 0 _ rfl
                have x1 : w7.cell? ⟨g, off + q * 11 + 1, none⟩ = some (.int .i64 s.e) := hcs2 1 _ rfl
                have x2 : w7.cell? ⟨g, off + q * 11 + 2, none⟩ = some (.int .i64 s.p) := hcs2 2 _ rfl
                have x3 : w7.cell? ⟨g, off + q * 11 + 3, none⟩ = some (.bool s.s) := hcs2 3 _ rfl
                have x4 : w7.cell? ⟨g, off + q * 11 + 4, none⟩ = some (.bool s.l) := hcs2 4 _ rfl
                have x5 : w7.cell? ⟨g, off + q * 11 + 5, none⟩ = some (.bool s.wt) := hcs2 5 _ rfl
                have x6 : w7.cell? ⟨g, off + q * 11 + 6, none⟩ = some (.bool s.a) := hcs2 6 _ rfl
                have x7 : w7.cell? ⟨g, off + q * 11 + 7, none⟩ = some (.int .i64 s.r) := hcs2 7 _ rfl
                have x8 : w7.cell? ⟨g, off + q * 11 + 8, none⟩ = some (.int .i64 s.g) := hcs2 8 _ rfl
                have x9 : w7.cell? ⟨g, off + q * 11 + 9, none⟩ = some (.bool s.d) := hcs2 9 _ rfl
                have x10 : w7.cell? ⟨g, off + q * 11 + 10, none⟩ = some (.int .i64 s.c) := hcs2 10 _ rfl
                clear hcs hcs2 hgo hgo2 hs hgq hoq HSP RNK HT
                generalize rk t = r1 at *
                generalize rk s = r2 at *
                obtain ⟨d1, b1, g1, i1⟩ := r1
                obtain ⟨d2, b2, g2, i2⟩ := r2
                have RL : Side (∀ w', Calls Try.prog 28 #[.agg #[.int .i64 d1, .int .i64 b1, .int .i64 g1, .int .i64 i1], .agg #[.int .i64 d2, .int .i64 b2, .int .i64 g2, .int .i64 i2]] w' fun r w'' => r = .returned (.bool tt) ∧ Below w'.heap.size w' w'') := ⟨fun w' => by rw [hto]; exact (RankLessS d1 b1 g1 i1 d2 b2 g2 i2 w').out⟩
                clear hto
                refine start_ (n := 15) (S := fun w' => True) (ds := []) #[false, false, false, false, false, false, false, false, false, false, false, false, false, false, false] (by kernel_rfl) rfl rfl trivial (fun _ => ?_)
                refine inv_at (B := [0, 1, 3, 7, 7, 31, 63, 127, 7, 7, 775, 1799, 4095, 8191, 16383]) [0, 1, 2, 3, 4, 5, 6, 7, 8, 9, 10, 11, 12, 13, 14] (fun a0_ b a w' => a = putSel a0_ b [(0, 47, .int .i64 q), (1, 48, .bool false), (2, 49, .bool false), (3, 50, .slice (some ⟨g, off, none⟩) n cap), (4, 51, .int .i64 i), (5, 52, .pointer (some ⟨g, off + i * 11, none⟩)), (6, 53, .agg #[.int .i64 t.id, .int .i64 t.e, .int .i64 t.p, .bool t.s, .bool t.l, .bool t.wt, .bool t.a, .int .i64 t.r, .int .i64 t.g, .bool t.d, .int .i64 t.c]), (7, 54, .agg #[.int .i64 d1, .int .i64 b1, .int .i64 g1, .int .i64 i1]), (8, 55, .slice (some ⟨g, off, none⟩) n cap), (9, 56, .int .i64 q), (10, 57, .pointer (some ⟨g, off + q * 11, none⟩)), (11, 58, .agg #[.int .i64 s.id, .int .i64 s.e, .int .i64 s.p, .bool s.s, .bool s.l, .bool s.wt, .bool s.a, .int .i64 s.r, .int .i64 s.g, .bool s.d, .int .i64 s.c]), (12, 59, .agg #[.int .i64 d2, .int .i64 b2, .int .i64 g2, .int .i64 i2]), (13, 60, .bool tt), (14, 61, .bool tt)] ∧ Below w7.drew.heap.size w7.drew w') rfl (by kernel_rfl) (by kernel_rfl) (by kernel_rfl) ?_ ?_ ?_
                · exact ⟨by simp only [putSel, Bool.false_eq_true, if_false], Below.refl _ _⟩
                · refine steps_cons (by rintro b a w' ⟨ha, HI⟩ hb hon hoff; refine ⟨_, rfl, fun K hK => ?_⟩; have e12 := poff ha (t := 12) rfl rfl; exact value_ (v := .int .i64 q) (by rfl) rfl (by clear HI ha; go_simp) (hK.out _ _ ⟨upk ha 0 hb rfl rfl, HI⟩)) ?_
                  refine steps_cons (by rintro b a w' ⟨ha, HI⟩ hb hon hoff; refine ⟨_, rfl, fun K hK => ?_⟩; have e47 := pon ha 0 (hon 0 rfl) rfl rfl rfl; exact value_ (v := .bool false) (by rfl) rfl (by clear HI ha; go_simp) (hK.out _ _ ⟨upk ha 1 hb rfl rfl, HI⟩)) ?_
                  refine steps_cons (by rintro b a w' ⟨ha, HI⟩ hb hon hoff; refine ⟨_, rfl, fun K hK => ?_⟩; have e48 := pon ha 1 (hon 1 rfl) rfl rfl rfl; exact value_ (v := .bool false) (by rfl) rfl (by clear HI ha; go_simp) (hK.out _ _ ⟨upk ha 2 hb rfl rfl, HI⟩)) ?_
                  refine steps_cons (by rintro b a w' ⟨ha, HI⟩ hb hon hoff; refine ⟨_, rfl, fun K hK => ?_⟩; have e0 := poff ha (t := 0) rfl rfl; have e49 := pon ha 2 (hon 2 rfl) rfl rfl rfl; exact value_ (v := .slice (some ⟨g, off, none⟩) n cap) (wanted_on (t := 49) (u := false) rfl rfl rfl e49) rfl (by clear HI ha; go_simp) (hK.out _ _ ⟨upk ha 3 hb rfl rfl, HI⟩)) ?_
                  refine steps_cons (by rintro b a w' ⟨ha, HI⟩ hb hon hoff; refine ⟨_, rfl, fun K hK => ?_⟩; have e13 := poff ha (t := 13) rfl rfl; have e49 := pon ha 2 (hon 2 rfl) rfl rfl rfl; exact value_ (v := .int .i64 i) (wanted_on (t := 49) (u := false) rfl rfl rfl e49) rfl (by clear HI ha; go_simp) (hK.out _ _ ⟨upk ha 4 hb rfl rfl, HI⟩)) ?_
                  refine steps_cons (by rintro b a w' ⟨ha, HI⟩ hb hon hoff; refine ⟨_, rfl, fun K hK => ?_⟩; have e50 := pon ha 3 (hon 3 rfl) rfl rfl rfl; have e51 := pon ha 4 (hon 4 rfl) rfl rfl rfl; have e49 := pon ha 2 (hon 2 rfl) rfl rfl rfl; exact value_ (v := .pointer (some ⟨g, off + i * 11, none⟩)) (wanted_on (t := 49) (u := false) rfl rfl rfl e49) rfl (by clear HI ha; go_simp) (hK.out _ _ ⟨upk ha 5 hb rfl rfl, HI⟩)) ?_
                  refine steps_cons (by rintro b a w' ⟨ha, HI⟩ hb hon hoff; refine ⟨_, rfl, fun K hK => ?_⟩; have e52 := pon ha 5 (hon 5 rfl) rfl rfl rfl; have e49 := pon ha 2 (hon 2 rfl) rfl rfl rfl; have k0_ := bc HI hgl u0; have k1_ := bc HI hgl u1; have k2_ := bc HI hgl u2; have k3_ := bc HI hgl u3; have k4_ := bc HI hgl u4; have k5_ := bc HI hgl u5; have k6_ := bc HI hgl u6; have k7_ := bc HI hgl u7; have k8_ := bc HI hgl u8; have k9_ := bc HI hgl u9; have k10_ := bc HI hgl u10; have kz_ := bz HI hgl; exact value_ (v := .agg #[.int .i64 t.id, .int .i64 t.e, .int .i64 t.p, .bool t.s, .bool t.l, .bool t.wt, .bool t.a, .int .i64 t.r, .int .i64 t.g, .bool t.d, .int .i64 t.c]) (wanted_on (t := 49) (u := false) rfl rfl rfl e49) rfl (by clear HI ha; go_simp) (hK.out _ _ ⟨upk ha 6 hb rfl rfl, HI⟩)) ?_
                  refine steps_cons (by rintro b a w' ⟨ha, HI⟩ hb hon hoff; refine ⟨_, rfl, fun K hK => ?_⟩; have e53 := pon ha 6 (hon 6 rfl) rfl rfl rfl; have e49 := pon ha 2 (hon 2 rfl) rfl rfl rfl; refine goes_ Try.func14 (by kernel_rfl) rfl #[.agg #[.int .i64 t.id, .int .i64 t.e, .int .i64 t.p, .bool t.s, .bool t.l, .bool t.wt, .bool t.a, .int .i64 t.r, .int .i64 t.g, .bool t.d, .int .i64 t.c]] (wanted_on (t := 49) (u := false) rfl rfl rfl e49) rfl rfl (by simp [Act.eval, e53, e49]) ((R1 w').out.mono ?_); rintro e_ w'' ⟨rfl, hbc⟩; exact ⟨_, rfl, hK.out _ _ ⟨upk ha 7 hb rfl rfl, below_then HI HI.size hbc⟩⟩) ?_
                  refine steps_cons (by rintro b a w' ⟨ha, HI⟩ hb hon hoff; refine ⟨_, rfl, fun K hK => ?_⟩; have e0 := poff ha (t := 0) rfl rfl; have e49 := pon ha 2 (hon 2 rfl) rfl rfl rfl; exact value_ (v := .slice (some ⟨g, off, none⟩) n cap) (wanted_on (t := 49) (u := false) rfl rfl rfl e49) rfl (by clear HI ha; go_simp) (hK.out _ _ ⟨upk ha 8 hb rfl rfl, HI⟩)) ?_
                  refine steps_cons (by rintro b a w' ⟨ha, HI⟩ hb hon hoff; refine ⟨_, rfl, fun K hK => ?_⟩; have e12 := poff ha (t := 12) rfl rfl; have e49 := pon ha 2 (hon 2 rfl) rfl rfl rfl; exact value_ (v := .int .i64 q) (wanted_on (t := 49) (u := false) rfl rfl rfl e49) rfl (by clear HI ha; go_simp) (hK.out _ _ ⟨upk ha 9 hb rfl rfl, HI⟩)) ?_
                  refine steps_cons (by rintro b a w' ⟨ha, HI⟩ hb hon hoff; refine ⟨_, rfl, fun K hK => ?_⟩; have e55 := pon ha 8 (hon 8 rfl) rfl rfl rfl; have e56 := pon ha 9 (hon 9 rfl) rfl rfl rfl; have e49 := pon ha 2 (hon 2 rfl) rfl rfl rfl; exact value_ (v := .pointer (some ⟨g, off + q * 11, none⟩)) (wanted_on (t := 49) (u := false) rfl rfl rfl e49) rfl (by clear HI ha; go_simp) (hK.out _ _ ⟨upk ha 10 hb rfl rfl, HI⟩)) ?_
                  refine steps_cons (by rintro b a w' ⟨ha, HI⟩ hb hon hoff; refine ⟨_, rfl, fun K hK => ?_⟩; have e57 := pon ha 10 (hon 10 rfl) rfl rfl rfl; have e49 := pon ha 2 (hon 2 rfl) rfl rfl rfl; have k0_ := bc HI hgl x0; have k1_ := bc HI hgl x1; have k2_ := bc HI hgl x2; have k3_ := bc HI hgl x3; have k4_ := bc HI hgl x4; have k5_ := bc HI hgl x5; have k6_ := bc HI hgl x6; have k7_ := bc HI hgl x7; have k8_ := bc HI hgl x8; have k9_ := bc HI hgl x9; have k10_ := bc HI hgl x10; have kz_ := bz HI hgl; exact value_ (v := .agg #[.int .i64 s.id, .int .i64 s.e, .int .i64 s.p, .bool s.s, .bool s.l, .bool s.wt, .bool s.a, .int .i64 s.r, .int .i64 s.g, .bool s.d, .int .i64 s.c]) (wanted_on (t := 49) (u := false) rfl rfl rfl e49) rfl (by clear HI ha; go_simp) (hK.out _ _ ⟨upk ha 11 hb rfl rfl, HI⟩)) ?_
                  refine steps_cons (by rintro b a w' ⟨ha, HI⟩ hb hon hoff; refine ⟨_, rfl, fun K hK => ?_⟩; have e58 := pon ha 11 (hon 11 rfl) rfl rfl rfl; have e49 := pon ha 2 (hon 2 rfl) rfl rfl rfl; refine goes_ Try.func14 (by kernel_rfl) rfl #[.agg #[.int .i64 s.id, .int .i64 s.e, .int .i64 s.p, .bool s.s, .bool s.l, .bool s.wt, .bool s.a, .int .i64 s.r, .int .i64 s.g, .bool s.d, .int .i64 s.c]] (wanted_on (t := 49) (u := false) rfl rfl rfl e49) rfl rfl (by simp [Act.eval, e58, e49]) ((R2 w').out.mono ?_); rintro e_ w'' ⟨rfl, hbc⟩; exact ⟨_, rfl, hK.out _ _ ⟨upk ha 12 hb rfl rfl, below_then HI HI.size hbc⟩⟩) ?_
                  refine steps_cons (by rintro b a w' ⟨ha, HI⟩ hb hon hoff; refine ⟨_, rfl, fun K hK => ?_⟩; have e54 := pon ha 7 (hon 7 rfl) rfl rfl rfl; have e59 := pon ha 12 (hon 12 rfl) rfl rfl rfl; have e49 := pon ha 2 (hon 2 rfl) rfl rfl rfl; refine goes_ Try.func28 (by kernel_rfl) rfl #[.agg #[.int .i64 d1, .int .i64 b1, .int .i64 g1, .int .i64 i1], .agg #[.int .i64 d2, .int .i64 b2, .int .i64 g2, .int .i64 i2]] (wanted_on (t := 49) (u := false) rfl rfl rfl e49) rfl rfl (by simp [Act.eval, e54, e59, e49]) ((RL.out w').mono ?_); rintro e_ w'' ⟨rfl, hbc⟩; exact ⟨_, rfl, hK.out _ _ ⟨upk ha 13 hb rfl rfl, below_then HI HI.size hbc⟩⟩) ?_
                  refine steps_cons (by rintro b a w' ⟨ha, HI⟩ hb hon hoff; refine ⟨_, rfl, fun K hK => ?_⟩; have e49 := pon ha 2 (hon 2 rfl) rfl rfl rfl; have e60 := pon ha 13 (hon 13 rfl) rfl rfl rfl; exact value_ (v := .bool tt) (by rfl) rfl (by clear HI ha; go_simp) (hK.out _ _ ⟨upk ha 14 hb rfl rfl, HI⟩)) ?_
                  exact steps_nil
                · rintro b a w' hall ⟨ha, HI⟩
                  have hb0_ := hall 0 rfl; have hb1_ := hall 1 rfl; have hb2_ := hall 2 rfl; have hb3_ := hall 3 rfl; have hb4_ := hall 4 rfl; have hb5_ := hall 5 rfl; have hb6_ := hall 6 rfl; have hb7_ := hall 7 rfl
                  have hb8_ := hall 8 rfl; have hb9_ := hall 9 rfl; have hb10_ := hall 10 rfl; have hb11_ := hall 11 rfl; have hb12_ := hall 12 rfl; have hb13_ := hall 13 rfl; have hb14_ := hall 14 rfl
                  subst ha
                  simp only [putSel, hb0_, hb1_, hb2_, hb3_, hb4_, hb5_, hb6_, hb7_, hb8_, hb9_, hb10_, hb11_, hb12_, hb13_, hb14_, if_true, Act.put, List.setIfInBounds_toArray, List.set_cons_zero, List.set_cons_succ]
                  have hB := (below_then (below_drew (Below.refl _ w7)) (Nat.le_refl _) HI : Below w7.heap.size w7 w')
                  clear hall HI hb0_ hb1_ hb2_ hb3_ hb4_ hb5_ hb6_ hb7_ hb8_ hb9_ hb10_ hb11_ hb12_ hb13_ hb14_
                  refine ‹∀ (a' : Act) (w' : World), Met _ a' w' → _› _ _ ?_
                  go_meet
                  case rel => exact ⟨rfl, ⟨hB⟩⟩
            case rest =>
            obtain ⟨rfl, HC⟩ := hcut
            have HL8 := Side.mk (HL7.out.step HC.out)
            have hnx := HNX2.out
            clear HC HL7 HTT HNX2 RNK HSP
            go_step
            cases tt
            · obtain rfl : nb = bj := hnx
              go_wp2
              go_meet
              case rel => exact ⟨rfl, HL8⟩
            · obtain rfl : nb = (i : Int) := hnx
              go_wp2
              go_meet
              case rel => exact ⟨rfl, HL8⟩
          case rest =>
          obtain ⟨rfl, HL9⟩ := hcut
          clear HL HNX CAN RNK TWI hui hul HSP u0 u1 u2 u3 u4 u5 u6 u7 u8 u9 u10
          go_wp2
          go_roundw
          case rel => exact ⟨i + 1, by simp, by omega, by rw [HNB.out], HL9⟩
          case measure => simp [intOf]; omega
        · have hii : ¬ (i : Int) < n := by omega
          obtain rfl : i = n := by omega
          clear hlt hi
          rcases HSP.out with ⟨h1, -⟩ | ⟨q, hq, h1, -, -⟩
          · have HR : Side (ids (PkB.at_ ts) i c K.toNat y = o.map fun q => (PkB.at_ ts q).id) := ⟨by unfold ids; rw [HPK.out, picks_none h1, List.append_nil]⟩
            rw [h1]
            have R2 : Side (IRow wq w.heap.size _ _) := ⟨HL.out.row⟩
            have HB := Side.mk HL.out.below
            clear h1 HSP HL HPK
            go_wp2
            go_ret
            refine ⟨_, rfl, ?_, HB.out⟩
            rw [HR.out]
            exact R2.out
          · have HPK2 : Side (picks (PkB.at_ ts) i K.toNat (on0 (PkB.at_ ts) c y) = (o ++ [q]) ++ picks (PkB.at_ ts) i (K.toNat - (k + 1)) (on2 (PkB.at_ ts) c y (upd u q true))) := ⟨by
              rw [HPK.out, HOF.out, picks_some h1, on2_upd, List.append_assoc, List.singleton_append]⟩
            rw [h1]
            have hq0 : (0 : Int) ≤ q := by omega
            have hqi : (q : Int) < i := by omega
            have hqn : ¬ (q : Int) < 0 := by omega
            clear h1 HSP HPK
            obtain ⟨g, off, rfl, hgl, hcs⟩ := (HQ.out.below HL.out.below).get q (by rw [HLN.out]; exact hq)
            have hul := HL.out.us.lt
            have huf : wq.frozen? ⟨w.heap.size, q, none⟩ = false := by
              obtain ⟨cs, _, hh⟩ := HL.out.us
              exact Go.Proofs.YticcgmlgiijjnaaW.PrintWords.blk_frozen hh q
            have huc := HL.out.o q hq
            have HL2 := Side.mk (HL.out.set q)
            clear HL hcs hgl
            go_upto_region 15 with (fail)
            clear hul huf huc
            generalize wq.setCell ⟨w.heap.size, q, none⟩ (.bool true) = w5 at *
            obtain ⟨g', off', hgo, hgl, hcs⟩ := (HQ.out.below HL2.out.below).get q (by rw [HLN.out]; exact hq)
            obtain ⟨rfl, rfl⟩ : g = g' ∧ off = off' := by simpa using hgo
            have u0 : w5.cell? ⟨g, off + q * 11, none⟩ = some (.int .i64 (PkB.at_ ts q).id) := hcs 0 _ rfl
            clear hcs hgo
            go_wp2_with (at_builtin; refine wpList_gapp E1 Try.underlying37 infoI rfl (by decide) rfl _ _ rfl w.heap.size _ (o.map fun q => (PkB.at_ ts q).id) rfl ?c1 ⟨w5.heap.size, 0, none⟩ 1 [(PkB.at_ ts q).id] rfl ?c2 ?c3 ?c4 ?c5)
            case c1 => exact GRow.below HL2.out.row (by (repeat (with_reducible first | exact Below.refl _ _ | apply below_drewN | apply below_drew | apply below_alloc)))
            case c2 =>
              intro r x hx k u hu
              rcases r with _ | r
              · simp at hx
                subst hx
                first
                  | (simpa [icl] using hu)
                  | (rw [show (⟨w5.heap.size, 0, none⟩ : Addr).add (0 * 1 + k) = ⟨w5.heap.size, k, none⟩ by simp [Addr.add]; omega]; refine (World.cell?_alloc_at _ _ _ _ rfl).trans ?_; simpa [icl] using hu)
              · simp at hx
            case c3 => first | omega | (simp; omega)
            case c4 => have := HL2.out.below.size; simp; omega
            case c5 =>
              intro v' w3 hrow hgr hat
              have HN : Side (Rb w w.heap.size i (upd u q true) v' ((o ++ [q]).map fun q => (PkB.at_ ts q).id) w3) := ⟨by
                rw [List.map_append]
                exact Rb.app (HL2.out.step (by (repeat (with_reducible first | exact Below.refl _ _ | apply below_drewN | apply below_drew | apply below_alloc)))) hrow hgr⟩
              clear hrow hgr hat HL2 u0 hgl
              go_wp2
              go_roundw
              case rel => exact ⟨k + 1, upd u q true, o ++ [q], by simp, by rw [List.length_append, HOK.out]; rfl, by omega, HPK2, HN⟩
              case measure => simp [intOf]; omega
    · have hKk : K.toNat - k = 0 := by omega
      have HR : Side (ids (PkB.at_ ts) n c K.toNat y = o.map fun q => (PkB.at_ ts q).id) := ⟨by unfold ids; rw [HPK.out, hKk]; simp [picks]⟩
      have R2 : Side (IRow wp w.heap.size _ _) := ⟨HL.out.row⟩
      have HB := Side.mk HL.out.below
      clear HL HPK hKk
      go_wp2
      go_ret
      refine ⟨_, rfl, ?_, HB.out⟩
      rw [HR.out]
      exact R2.out
end Go.Proofs.Yticcgmlgiijjnaa.PkK

/- Package slack: the reference's queue: Put. No condition. -/
import Derived.Test.YtlmckindacnkoaaSlR
import Derived.Laws.AppendOwnNone
set_option linter.unusedVariables false
set_option linter.unusedSimpArgs false
namespace Go.Proofs.Ytlmckindacnkoaa.SlS
open Go.RowKit Go.Proofs.Ytlmckindacnkoaa.Kit Go.Proofs.Ytlmckindacnkoaa.SlA Go.Proofs.Ytlmckindacnkoaa.SlB Go.Proofs.Ytlmckindacnkoaa.SlC Go.Proofs.Ytlmckindacnkoaa.SlD Go.Proofs.Ytlmckindacnkoaa.SlE Go.Proofs.Ytlmckindacnkoaa.SlF Go.Proofs.Ytlmckindacnkoaa.SlG Go.Proofs.Ytlmckindacnkoaa.SlH Go.Proofs.Ytlmckindacnkoaa.SlI Go.Proofs.Ytlmckindacnkoaa.SlJ Go.Proofs.Ytlmckindacnkoaa.SlK Go.Proofs.Ytlmckindacnkoaa.SlL Go.Proofs.Ytlmckindacnkoaa.SlR
/-- What a change of a queue of the reference leaves. -/
def RDone (w w' : World) (B gr : Nat) (ys : List It) : Prop := ∃ v', RQ w' B gr v' ys ∧ Chg w w' (fun k => k = gr)
theorem has_none {xs : List It} {id : Int} (h : ∀ (j : Nat) (x : It), xs[j]? = some x → ¬ x.1 = id) : has xs id = false := by
  unfold has
  rw [idx_none _ xs (fun j x hx => by simpa using h j x hx)]
  rfl
theorem has_some {xs : List It} {id : Int} {k : Nat} {x : It} (hx : xs[k]? = some x) (he : x.1 = id) (hn : ∀ (j : Nat) (y : It), j < k → xs[j]? = some y → ¬ y.1 = id) : has xs id = true := by
  unfold has
  rw [idx_some _ xs k x hx (by simpa using he) (fun j y hj hy => by simpa using hn j y hj hy)]
  simp
theorem RQ.set {w : World} {B gr : Nat} {v v' : Value} {ys : List It} (hb : w.heap[gr]? = some (.cells #[v] 29 (0, 0))) (hr : Row w B 42 v' ys) (hB : B ≤ gr) : RQ (w.setCell ⟨gr, 0, none⟩ v') B gr v' ys ∧ Chg w (w.setCell ⟨gr, 0, none⟩ v') (fun k => k = gr) := by
  have hn : v'.ownBlock ≠ some gr := Row.ne hr hb (by decide)
  exact ⟨⟨(blk_set hb 0 v').trans (by rfl), Row.move hr (fun k hk => blk_far _ (fun e => hn (by rw [hk]; exact congrArg some e)) v'), hB⟩, ⟨by first | rfl | simp, by first | rfl | simp, by first | rfl | simp, by simp, fun k _ hk => blk_far _ hk v'⟩⟩
theorem bel_grown {w w' w3 : World} {r : Option Nat} (h : Below w.heap.size w w') (hg : w'.grownBy w3 r) (hr : ∀ k, r = some k → w.heap.size ≤ k) : Below w.heap.size w w3 :=
  ⟨hg.os.trans h.os, hg.tape.trans h.tape, hg.output.trans h.output, Nat.le_trans h.size hg.size, fun k hk => (hg.block k (Nat.lt_of_lt_of_le hk h.size) (fun e => by have := hr k e.symm; omega)).trans (h.block k hk)⟩
theorem Row.lower {w : World} {B B' : Nat} {t : TypeId} {v : Value} {xs : List It} (h : Row w B t v xs) (hb : B' ≤ B) : Row w B' t v xs := by
  obtain ⟨hl, h0 | ⟨g, cap, cur, rfl, hB, hg, hn, hm, hs, ht⟩⟩ := h
  · exact ⟨hl, .inl h0⟩
  · exact ⟨hl, .inr ⟨g, cap, cur, rfl, by omega, hg, hn, hm, hs, ht⟩⟩
theorem RQ.fin {w w2 : World} {B gr : Nat} {v v2 : Value} {xs ys : List It} (h : RQ w B gr v xs) (hb : Below w.heap.size w w2) (hr : Row w2 w.heap.size 42 v2 ys) (hB : B ≤ w.heap.size) :
    w2.cell? ⟨gr, 0, none⟩ = some v ∧ w2.frozen? ⟨gr, 0, none⟩ = false ∧ gr < w2.heap.size ∧ RDone w (w2.setCell ⟨gr, 0, none⟩ v2) B gr ys := by
  have h2 := h.below hb
  obtain ⟨q1, q2⟩ := RQ.set h2.box (Row.lower hr hB) h.base
  exact ⟨h2.cell, Go.Proofs.YtlmckindacnkoaaW.PrintWords.blk_frozen h2.box 0, h2.lt, v2, q1, Chg.trans (Chg.of_below hb) q2 (fun _ _ h => h)⟩
set_option maxHeartbeats 8000000 in
set_option maxRecDepth 100000 in
theorem RPut_at (w : World) (B gr : Nat) (v : Value) (xs : List It) (h : RQ w B gr v xs) (hl : xs.length ≤ 1000) (id need : Int) (hB : B ≤ w.heap.size) :
    Calls Try.prog 11 #[.pointer (some ⟨gr, 0, none⟩), .int .i64 id, .int .i64 need] w fun r w' => r = .returned (.int .i64 (putE xs id need)) ∧ RDone w w' B gr (putL xs id need) := by
  have HQ := Side.mk h
  have hc := h.cell
  have hgl := h.lt
  clear h
  by_cases h1 : need < 1
  · have e : putE xs id need = 2 := by unfold putE; rw [if_pos (.inl h1)]
    have HR : Side (RDone w w B gr (putL xs id need)) := ⟨by unfold putL; rw [e, if_neg (by decide)]; exact ⟨v, HQ.out, Chg.of_below (Below.refl _ _)⟩⟩
    rw [e]
    clear e HQ hl
    go_enter Try.func11, Try.ntmps11
    go_wp2
    go_ret
    exact ⟨rfl, HR.out⟩
  by_cases h2 : 1048576 < need
  · have e : putE xs id need = 2 := by unfold putE; rw [if_pos (.inr h2)]
    have HR : Side (RDone w w B gr (putL xs id need)) := ⟨by unfold putL; rw [e, if_neg (by decide)]; exact ⟨v, HQ.out, Chg.of_below (Below.refl _ _)⟩⟩
    rw [e]
    clear e HQ hl
    go_enter Try.func11, Try.ntmps11
    go_wp2
    go_ret
    exact ⟨rfl, HR.out⟩
  have E0 : Side (putE xs id need = if has xs id = true then 4 else if 64 ≤ xs.length then 6 else 0) := ⟨by unfold putE; rw [if_neg (by omega)]⟩
  obtain ⟨a0, c0, rfl⟩ := Row.shape HQ.out.row
  go_enter Try.func11, Try.ntmps11
  go_wp2_with fail
  clear h1 h2
  go_loopw [7] (fun v7 wr => ∃ i : Nat, v7 = .int .i64 (i : Int) ∧ i ≤ xs.length ∧ wr = w ∧ Side (∀ (j : Nat) (y : It), j < i → xs[j]? = some y → ¬ y.1 = id)) (fun v7 _ => (xs.length - intOf v7).toNat)
  case atStart => exact ⟨0, rfl, Nat.zero_le _, rfl, ⟨fun j y hj => absurd hj (by omega)⟩⟩
  case round =>
    obtain ⟨i, rfl, hi, rfl, HN⟩ := hrel
    have hi0 : (0 : Int) ≤ i := by omega
    by_cases hlt : i < xs.length
    · have hii : (i : Int) < xs.length := by omega
      have hi1 : (i : Int) + 1 ≤ 9223372036854775807 := by omega
      obtain ⟨x, hx⟩ : ∃ x, xs[i]? = some x := ⟨_, List.getElem?_eq_getElem hlt⟩
      rcases HQ.out.row.read with ⟨_, h0⟩ | ⟨g, cap, hv, _, hg, _, _, hcs⟩
      · rw [h0] at hlt; simp at hlt
      simp at hv
      obtain ⟨rfl, rfl⟩ := hv
      have c1 := (hcs i x hx).1
      have HX := Side.mk hx
      have HX2 : Side (x.1 = id → has xs id = true) := ⟨fun he => has_some HX.out he HN.out⟩
      clear hcs hx
      generalize hx1 : x.1 = x1 at *
      have HXX := Side.mk hx1
      clear hx1
      by_cases he : x1 = id
      · have e : putE xs id need = 4 := by rw [E0.out, if_pos (HX2.out he)]
        have HR : Side (RDone wr wr B gr (putL xs id need)) := ⟨by unfold putL; rw [e, if_neg (by decide)]; exact ⟨_, HQ.out, Chg.of_below (Below.refl _ _)⟩⟩
        have HE := Side.mk e
        clear e HQ E0 HX HX2 HN
        go_wp2
        go_ret
        exact ⟨by rw [HE.out]; rfl, HR.out⟩
      · clear HX2
        have HN2 : Side (∀ (j : Nat) (y : It), j < i + 1 → xs[j]? = some y → ¬ y.1 = id) := ⟨fun j y hj hy => by
          by_cases e : j = i
          · subst e
            rw [HX.out] at hy
            obtain rfl := Option.some.inj hy
            rw [HXX.out]; exact he
          · exact HN.out j y (by omega) hy⟩
        clear HN E0
        go_upto_region 6 with (fail)
        go_cut [32] (fun v wd => v = .bool false ∧ wd = wr)
        case first =>
          go_wp2
          go_meet
          case rel => exact ⟨by simp [he], rfl⟩
        case rest =>
        obtain ⟨rfl, rfl⟩ := hcut
        clear c1 hg
        go_step
        go_wp2
        go_roundw
        case rel => exact ⟨i + 1, by simp, by omega, by first | rfl | trivial, HN2⟩
        case measure => simp [intOf]; omega
    · have hii : ¬ (i : Int) < xs.length := by omega
      obtain rfl : i = xs.length := by omega
      have hh : has xs id = false := has_none fun j x hx => HN.out j x (List.getElem?_eq_some_iff.1 hx).1 hx
      by_cases h64 : 64 ≤ xs.length
      · have e : putE xs id need = 6 := by rw [E0.out, hh, if_neg (by decide), if_pos h64]
        have HR : Side (RDone wr wr B gr (putL xs id need)) := ⟨by unfold putL; rw [e, if_neg (by decide)]; exact ⟨_, HQ.out, Chg.of_below (Below.refl _ _)⟩⟩
        have h64' : (64 : Int) ≤ xs.length := by omega
        have HE := Side.mk e
        clear e HQ E0 HN hh h64 hi
        go_wp2
        go_ret
        exact ⟨by rw [HE.out]; rfl, HR.out⟩
      · have h64' : ¬ (64 : Int) ≤ xs.length := by omega
        have e : putE xs id need = 0 := by rw [E0.out, hh, if_neg (by decide), if_neg h64]
        have el : putL xs id need = xs ++ [(id, need)] := by unfold putL; rw [e, if_pos rfl]
        have HE := Side.mk e
        have HL := Side.mk el
        have HLN : Side (xs.length < 64) := ⟨by omega⟩
        clear e el E0 HN hh h64 hi
        have HBB := Side.mk hB
        obtain ⟨it, hi1, hi2, hi3, hi4⟩ := info_itR
        have HI1 := Side.mk hi1
        clear hi1 hi2 hi3 hi4 hB
        rcases HQ.out.row.read with ⟨hv, hx0⟩ | ⟨g, cap, hv, _, hg, _, _, hcs⟩
        · simp at hv
          obtain ⟨rfl, -, rfl⟩ := hv
          subst hx0
          have HR1 : Side (Row wr wr.heap.size 42 (.slice none 0 0) []) := ⟨⟨rfl, .inl ⟨rfl, rfl⟩⟩⟩
          have HB1 : Side (Below wr.heap.size wr wr) := ⟨Below.refl _ _⟩
          go_wp2_with (at_builtin; refine wpList_appR rfl _ _ rfl wr.heap.size _ [] rfl ?c1 ⟨wr.heap.size, 0, none⟩ 1 [(id, need)] rfl ?c2 ?c3 ?c4 ?c5)
          case c1 => exact Row.below HR1.out (by (repeat (with_reducible first | exact Below.refl _ _ | apply below_drewN | apply below_drew | apply below_alloc)))
          case c2 =>
            intro j x1 x2 hx
            rcases j with _ | j
            · simp at hx
              obtain ⟨rfl, rfl⟩ := hx
              exact ⟨rfl, rfl⟩
            · simp at hx
          try (case c3 => have := HLN.out; simp; omega)
          try (case c4 => have := HB1.out.size; simp; omega)
          case c5 =>
            intro v2 w2 hrow hgr hiff hat
            obtain ⟨a2, c2, rfl⟩ := Row.shape hrow
            have hb2 : Below wr.heap.size wr w2 := bel_grown (below_then HB1.out HB1.out.size ((Below.refl _ _).alloc (Nat.le_refl _) _)) hgr (fun k e => Row.base HR1.out k e)
            obtain ⟨k1, k2, k3, hd⟩ := RQ.fin HQ.out hb2 hrow HBB.out
            have HD := Side.mk hd
            clear hd hrow hgr hiff hat hb2 HR1 HB1 HQ
            go_wp2
            go_ret
            exact ⟨by rw [HE.out]; rfl, by rw [HL.out]; exact HD.out⟩
        · simp at hv
          obtain ⟨rfl, rfl⟩ := hv
          have HCS := Side.mk hcs
          clear hcs hg
          go_wp2_with (at_builtin; refine wpList_appR rfl _ _ rfl wr.heap.size (.slice none 0 0) [] rfl ⟨rfl, .inl ⟨rfl, rfl⟩⟩ ⟨g, 0, none⟩ c0 xs rfl ?d2 ?d3 (Nat.le_refl _) ?d5)
          case d2 =>
            intro j x1 x2 hx
            exact HCS.out j (x1, x2) hx
          try (case d3 => have := HLN.out; simp; omega)
          case d5 =>
            intro v1 w1 hrow1 hgr1 _ _
            have HR1 : Side (Row w1 wr.heap.size 42 v1 xs) := ⟨hrow1⟩
            have HB1 : Side (Below wr.heap.size wr w1) := ⟨bel_grown (Below.refl _ _) hgr1 (fun k e => by cases e)⟩
            clear hrow1 hgr1
            obtain ⟨a1, c1, rfl⟩ := Row.shape HR1.out
            go_wp2_with (at_builtin; refine wpList_appR rfl _ _ rfl wr.heap.size _ xs rfl ?m1 ⟨w1.heap.size, 0, none⟩ 1 [(id, need)] rfl ?m2 ?m3 ?m4 ?m5)
            case m1 => exact Row.below HR1.out (by (repeat (with_reducible first | exact Below.refl _ _ | apply below_drewN | apply below_drew | apply below_alloc)))
            case m2 =>
              intro j x hx
              rcases j with _ | j
              · simp at hx
                subst hx
                exact ⟨(World.cell?_alloc_at _ _ _ _ rfl).trans rfl, (World.cell?_alloc_at _ _ _ _ rfl).trans rfl⟩
              · simp at hx
            try (case m3 => have := HLN.out; simp; omega)
            try (case m4 => have := HB1.out.size; simp; omega)
            case m5 =>
              intro v2 w2 hrow hgr hiff hat
              obtain ⟨a2, c2, rfl⟩ := Row.shape hrow
              have hb2 : Below wr.heap.size wr w2 := bel_grown (below_then HB1.out HB1.out.size ((Below.refl _ _).alloc (Nat.le_refl _) _)) hgr (fun k e => Row.base HR1.out k e)
              obtain ⟨k1, k2, k3, hd⟩ := RQ.fin HQ.out hb2 hrow HBB.out
              have HD := Side.mk hd
              clear hd hrow hgr hiff hat hb2 HR1 HB1 HQ
              go_wp2
              go_ret
              exact ⟨by rw [HE.out]; rfl, by have hd' := HD.out; rw [List.length_append] at hd'; rw [HL.out]; exact hd'⟩
end Go.Proofs.Ytlmckindacnkoaa.SlS

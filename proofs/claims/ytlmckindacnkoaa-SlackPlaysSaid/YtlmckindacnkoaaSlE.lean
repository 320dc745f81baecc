/- Package slack, fifth text: Put. No condition. -/
import Derived.Test.YtlmckindacnkoaaSlD
set_option linter.unusedVariables false
set_option linter.unusedSimpArgs false
namespace Go.Proofs.Ytlmckindacnkoaa.SlE
open Go.RowKit Go.Proofs.Ytlmckindacnkoaa.Kit Go.Proofs.Ytlmckindacnkoaa.SlA Go.Proofs.Ytlmckindacnkoaa.SlB Go.Proofs.Ytlmckindacnkoaa.SlC Go.Proofs.Ytlmckindacnkoaa.SlD
open Go.Proofs.YtlmckindacnkoaaW.PrintLast
open Go.Proofs.YtlmckindacnkoaaW.PrintWords (run_store_run)
def has (xs : List It) (id : Int) : Bool := decide (0 ≤ idx (fun x => x.1 == id) xs)
def putE (xs : List It) (id need : Int) : Int := if need < 1 ∨ 1048576 < need then 2 else if has xs id = true then 4 else if 64 ≤ xs.length then 6 else 0
def putL (xs : List It) (id need : Int) : List It := if putE xs id need = 0 then xs ++ [(id, need)] else xs
/-- What a change of a queue leaves. -/
def Done (w w' : World) (B gq : Nat) (v : Value) (ys : List It) : Prop := ∃ v', Q w' B gq v' ys ∧ Chg w w' (fun k => k = gq ∨ some k = v.ownBlock) ∧ (v'.ownBlock = v.ownBlock ∨ ∃ k, v'.ownBlock = some k ∧ w.heap.size ≤ k)
theorem Done.same {w w' : World} {B gq : Nat} {v : Value} {xs : List It} (h : Q w B gq v xs) (hb : Below w.heap.size w w') : Done w w' B gq v xs := ⟨v, h.below hb, Chg.of_below hb, .inl rfl⟩
/-- Behind the append. -/
structure App (W w' : World) (B gq : Nat) (v v1 : Value) (ys : List It) : Prop where
  box : w'.heap[gq]? = some (.cells #[v] 51 (0, 0))
  row : Row w' B 41 v1 ys
  chg : Chg W w' (fun k => some k = v.ownBlock)
  own : v1.ownBlock = v.ownBlock ∨ ∃ k, v1.ownBlock = some k ∧ W.heap.size ≤ k
structure Fin (W w' : World) (B gq : Nat) (v v1 : Value) (ys : List It) : Prop where
  box : w'.heap[gq]? = some (.cells #[v1] 51 (0, 0))
  row : Row w' B 41 v1 ys
  chg : Chg W w' (fun k => k = gq ∨ some k = v.ownBlock)
  own : v1.ownBlock = v.ownBlock ∨ ∃ k, v1.ownBlock = some k ∧ W.heap.size ≤ k
theorem App.fin {W w' : World} {B gq : Nat} {v v1 : Value} {ys : List It} (h : App W w' B gq v v1 ys) : Fin W (w'.setCell ⟨gq, 0, none⟩ v1) B gq v v1 ys := by
  have hs : (w'.setCell ⟨gq, 0, none⟩ v1).heap[gq]? = some (.cells #[v1] 51 (0, 0)) := (blk_set h.box 0 v1).trans (by rfl)
  have hn : v1.ownBlock ≠ some gq := Row.ne h.row h.box (by decide)
  have hc : Chg w' (w'.setCell ⟨gq, 0, none⟩ v1) (fun k => k = gq) := ⟨by first | rfl | simp, by first | rfl | simp, by first | rfl | simp, by simp, fun k _ hk => blk_far _ hk v1⟩
  exact ⟨hs, Row.move h.row (fun k hk => blk_far _ (fun e => hn (by rw [hk]; exact congrArg some e)) v1), ⟨hc.os.trans h.chg.os, hc.tape.trans h.chg.tape, hc.output.trans h.chg.output, Nat.le_trans h.chg.size hc.size, fun k hk hno => (hc.block k (Nat.lt_of_lt_of_le hk h.chg.size) (fun e => hno (.inl e))).trans (h.chg.block k hk (fun e => hno (.inr e)))⟩, h.own⟩
theorem Fin.done {w w2 w' : World} {B gq : Nat} {v v1 : Value} {ys : List It} (h : Fin w2.drew w' B gq v v1 ys) (hB : B ≤ gq) (hb : Below w.heap.size w w2) : Done w w' B gq v ys :=
  ⟨v1, ⟨h.box, h.row, hB⟩, Chg.trans (Chg.of_below (below_drew hb)) h.chg (fun _ _ hk => hk), h.own.imp id (fun ⟨k, h1, h2⟩ => ⟨k, h1, Nat.le_trans hb.size h2⟩)⟩
set_option maxHeartbeats 8000000 in
set_option maxRecDepth 100000 in
theorem Put_at (w : World) (B gq : Nat) (v : Value) (xs : List It) (h : Q w B gq v xs) (hl : xs.length ≤ 1000) (id need : Int) (hB : B ≤ w.heap.size) :
    Calls Try.prog 10 #[.pointer (some ⟨gq, 0, none⟩), .int .i64 id, .int .i64 need] w fun r w' => r = .returned (.int .i64 (putE xs id need)) ∧ Done w w' B gq v (putL xs id need) := by
  have HQ := Side.mk h
  have HC : ∀ w', Below w.heap.size w w' → ∀ gi, w'.cell? ⟨gi, 0, none⟩ = some (.int .i64 id) → gi < w'.heap.size → Side (Calls Try.prog 15 #[v, .func (.func 16) #[] #[.pointer (some ⟨gi, 0, none⟩)]] w' fun r w'' => r = .returned (.bool (has xs id)) ∧ Below w'.heap.size w' w'') :=
    fun w' hb gi hi hg => ⟨Contains_at w' B _ v xs (Row.below h.row hb) gi id hi hg (has xs id) (by unfold has; simp)⟩
  have E0 : Side (putE xs id need = if need < 1 ∨ 1048576 < need then 2 else if has xs id = true then 4 else if 64 ≤ xs.length then 6 else 0) := ⟨rfl⟩
  have EL : Side (putL xs id need = if putE xs id need = 0 then xs ++ [(id, need)] else xs) := ⟨rfl⟩
  generalize has xs id = hs at *
  generalize putE xs id need = pe at *
  generalize putL xs id need = pl at *
  have hc := h.cell
  have hc2 : ∀ o : Obj, (w.alloc o).cell? ⟨gq, 0, none⟩ = some v := fun o => (World.cell?_alloc_some w _ o (by rw [hc]; rfl)).trans hc
  have hgl := h.lt
  clear h
  have HB := Side.mk hB
  clear hB
  by_cases h1 : need < 1
  · have EE : Side (pe = 2 ∧ pl = xs) := ⟨by have := E0.out; have := EL.out; simp_all⟩
    obtain ⟨rfl, rfl⟩ := EE.out
    go_enter Try.func10, Try.ntmps10
    go_wp2_with fail
    go_ret
    exact ⟨rfl, Done.same HQ.out (by (repeat (with_reducible first | exact Below.refl _ _ | apply below_drewN | apply below_drew | apply below_alloc)))⟩
  by_cases h2 : 1048576 < need
  · have EE : Side (pe = 2 ∧ pl = xs) := ⟨by have := E0.out; have := EL.out; simp_all⟩
    obtain ⟨rfl, rfl⟩ := EE.out
    go_enter Try.func10, Try.ntmps10
    go_wp2_with fail
    go_ret
    exact ⟨rfl, Done.same HQ.out (by (repeat (with_reducible first | exact Below.refl _ _ | apply below_drewN | apply below_drew | apply below_alloc)))⟩
  cases hs
  case true =>
    have EE : Side (pe = 4 ∧ pl = xs) := ⟨by have e := E0.out; rw [if_neg (by omega), if_pos rfl] at e; exact ⟨e, by have := EL.out; rw [e] at this; simpa using this⟩⟩
    obtain ⟨rfl, rfl⟩ := EE.out
    go_enter Try.func10, Try.ntmps10
    go_wp2_with fail
    refine (HC _ (by (repeat (with_reducible first | exact Below.refl _ _ | apply below_drewN | apply below_drew | apply below_alloc))) _ (by simp) (by simp)).out.mono ?_
    rintro e w2 ⟨rfl, hb⟩
    have HB2 : Side (Below w.heap.size w w2) := ⟨below_then (by (repeat (with_reducible first | exact Below.refl _ _ | apply below_drewN | apply below_drew | apply below_alloc))) (by simp) hb⟩
    clear hb
    go_wp2
    go_ret
    exact ⟨rfl, Done.same HQ.out HB2.out⟩
  case false =>
    have HN := Side.mk (And.intro h1 h2)
    by_cases h3 : 64 ≤ xs.length
    · have h3' : (64 : Int) ≤ xs.length := by omega
      have EE : Side (pe = 6 ∧ pl = xs) := ⟨by have e := E0.out; rw [if_neg (by omega), if_neg (by decide), if_pos h3] at e; exact ⟨e, by have := EL.out; rw [e] at this; simpa using this⟩⟩
      obtain ⟨rfl, rfl⟩ := EE.out
      rcases HQ.out.row.read with ⟨rfl, rfl⟩ | ⟨g, cap, rfl, _⟩
      · simp at h3
      go_enter Try.func10, Try.ntmps10
      go_wp2_with fail
      refine (HC _ (by (repeat (with_reducible first | exact Below.refl _ _ | apply below_drewN | apply below_drew | apply below_alloc))) _ (by simp) (by simp)).out.mono ?_
      rintro e w2 ⟨rfl, hb⟩
      have HB2 : Side (Below w.heap.size w w2) := ⟨below_then (by (repeat (with_reducible first | exact Below.refl _ _ | apply below_drewN | apply below_drew | apply below_alloc))) (by simp) hb⟩
      have hcq := (HQ.out.below HB2.out).cell
      clear hb
      go_wp2
      go_ret
      exact ⟨rfl, Done.same HQ.out HB2.out⟩
    · have h3' : ¬ (64 : Int) ≤ xs.length := by omega
      have EE : Side (pe = 0 ∧ pl = xs ++ [(id, need)]) := ⟨by have e := E0.out; rw [if_neg (by omega), if_neg (by decide), if_neg h3] at e; exact ⟨e, by have := EL.out; rw [e] at this; simpa using this⟩⟩
      obtain ⟨rfl, rfl⟩ := EE.out
      have HV := Side.mk HQ.out.row.read
      go_enter Try.func10, Try.ntmps10
      go_wp2_with fail
      refine (HC _ (by (repeat (with_reducible first | exact Below.refl _ _ | apply below_drewN | apply below_drew | apply below_alloc))) _ (by simp) (by simp)).out.mono ?_
      rintro e w2 ⟨rfl, hb⟩
      have HB2 : Side (Below w.heap.size w w2) := ⟨below_then (by (repeat (with_reducible first | exact Below.refl _ _ | apply below_drewN | apply below_drew | apply below_alloc))) (by simp) hb⟩
      have hcq := (HQ.out.below HB2.out).cell
      have hci : w2.cell? ⟨w.heap.size, 0, none⟩ = some (.int .i64 id) := ((bcell hb).1 _ _ (by simp)).trans (by simp)
      clear hb
      have S : Side (∃ n c A, v = .slice A n c ∧ n = xs.length) := ⟨by rcases HV.out with ⟨rfl, rfl⟩ | ⟨g, cap, rfl, _⟩ <;> exact ⟨_, _, _, rfl, rfl⟩⟩
      obtain ⟨n, c, A, hv, hn⟩ := S.out
      subst hv
      subst hn
      have AR : ∃ v' w', (Builtin.append_ #[38, 38] 38 #[.slice A xs.length c, .slice (some ⟨w2.heap.size, 0, none⟩) 1 1]).run Try.prog (w2.drew.alloc (.cells #[.int .i64 id, .int .i64 need] 41)) = .ok v' w' ∧ Row w' B 41 v' (xs ++ [(id, need)]) ∧ (w2.drew.alloc (.cells #[.int .i64 id, .int .i64 need] 41)).grownBy w' (Value.slice A xs.length c).ownBlock ∧
          (v' = .slice none 0 0 ↔ (Value.slice A xs.length c) = .slice none 0 0 ∧ [(id, need)].length = 0) ∧ (v'.ownBlock = (Value.slice A xs.length c).ownBlock ∨ v'.ownBlock = some (w2.drew.alloc (.cells #[.int .i64 id, .int .i64 need] 41)).heap.size) := by
        refine run_app (w := w2.drew.alloc (.cells #[.int .i64 id, .int .i64 need] 41)) (B := B) (xs := xs) _ ?_ ⟨w2.heap.size, 0, none⟩ 1 [(id, need)] ?_ (by simp; omega) (by have := HB.out; have := HB2.out.size; simp; omega)
        · exact Row.below HQ.out.row ((below_alloc (below_drew HB2.out)) _)
        · intro j x hj
          rcases j with _ | j
          · simp at hj
            subst hj
            rw [add0, add0]
            exact ⟨(World.cell?_alloc_at _ _ _ _ rfl).trans rfl, (World.cell?_alloc_at _ _ _ _ rfl).trans rfl⟩
          · simp at hj
      have AA : ∀ v' w3, Row w3 B 41 v' (xs ++ [(id, need)]) → (w2.drew.alloc (.cells #[.int .i64 id, .int .i64 need] 41)).grownBy w3 (Value.slice A xs.length c).ownBlock → (v'.ownBlock = (Value.slice A xs.length c).ownBlock ∨ v'.ownBlock = some (w2.drew.alloc (.cells #[.int .i64 id, .int .i64 need] 41)).heap.size) → App w2.drew w3 B gq (.slice A xs.length c) v' (xs ++ [(id, need)]) := by
        intro v' w3 p2 p3 p5
        have hQ2 := HQ.out.below HB2.out
        have hne := Row.ne hQ2.row hQ2.box (by decide)
        have hlt := hQ2.lt
        refine ⟨(p3.block gq (by simp; omega) (fun e => hne e.symm)).trans ?_, p2, ?_, ?_⟩
        · exact ((Below.heap_alloc w2.drew _ gq hlt)).trans hQ2.box
        · exact Chg.trans (Chg.of_below ((Below.refl _ w2.drew).alloc (Nat.le_refl _) _)) (Chg.of_grown p3) (fun k _ h => h)
        · rcases p5 with h | h
          · exact .inl h
          · exact .inr ⟨_, h, by simp⟩
      go_upto_region 7 with (fail)
      refine start_ (n := 13) (S := fun w' => True) (ds := []) #[false, false, false, false, false, false, false, false, false, false, false, false, false] (by kernel_rfl) rfl rfl trivial (fun _ => ?_)
      refine inv_at (B := [0, 0, 2, 6, 14, 0, 0, 96, 224, 510, 1, 1025, 4095]) [0, 1, 2, 3, 4, 5, 6, 7, 8, 9, 10, 11, 12] (fun a0_ b a w' => ∃ v1 : Value, a = putSel a0_ b [(0, 32, .pointer (some ⟨gq, 0, none⟩)), (1, 33, .pointer (some ⟨gq, 0, none⟩)), (2, 34, .pointer (some ⟨gq, 0, none⟩)), (3, 35, .pointer (some ⟨gq, 0, none⟩)), (4, 36, .slice A xs.length c), (5, 37, .int .i64 id), (6, 38, .int .i64 need), (7, 39, .agg #[.int .i64 id, .int .i64 need]), (8, 40, .slice (some ⟨w2.heap.size, 0, none⟩) 1 1), (9, 41, v1), (10, 42, .pointer (some ⟨gq, 0, none⟩)), (11, 43, .pointer (some ⟨gq, 0, none⟩))] ∧ (b 8 = false → w' = w2.drew) ∧ (b 8 = true → b 9 = false → w' = w2.drew.alloc (.cells #[.int .i64 id, .int .i64 need] 41)) ∧ (b 9 = true → b 12 = false → App w2.drew w' B gq (.slice A xs.length c) v1 (xs ++ [(id, need)])) ∧ (b 12 = true → Fin w2.drew w' B gq (.slice A xs.length c) v1 (xs ++ [(id, need)]))) rfl (by kernel_rfl) (by kernel_rfl) (by kernel_rfl) ?_ ?_ ?_
      · exact ⟨.bool false, by simp only [putSel, Bool.false_eq_true, if_false], fun _ => rfl, fun h => (by cases h), fun h => (by cases h), fun h => (by cases h)⟩
      · refine steps_cons ?_ ?_
        · rintro b a w' ⟨v1, ha, F0, F1, F2, F3⟩ hb_ hon hoff
          refine ⟨_, rfl, fun K hK => ?_⟩
          have e0 : a.tmps[0]? = some (.pointer (some ⟨gq, 0, none⟩)) := by rw [ha]; exact (putSel_off rfl).trans rfl
          refine value_ (w1 := w') (v := .pointer (some ⟨gq, 0, none⟩)) (by rfl) rfl ?_ ?_
          · clear F0 F1 F2 F3 ha
            go_simp
          · refine hK.out _ _ ⟨v1, ?_, fun h => F0 (by rw [← up_ne (b := b) (i := 0) (by decide)]; exact h), fun h h' => F1 (by rw [← up_ne (b := b) (i := 0) (by decide)]; exact h) (by rw [← up_ne (b := b) (i := 0) (by decide)]; exact h'), fun h h' => F2 (by rw [← up_ne (b := b) (i := 0) (by decide)]; exact h) (by rw [← up_ne (b := b) (i := 0) (by decide)]; exact h'), fun h => F3 (by rw [← up_ne (b := b) (i := 0) (by decide)]; exact h)⟩
            rw [ha]; exact putSel_upk 0 hb_ rfl rfl rfl
        refine steps_cons ?_ ?_
        · rintro b a w' ⟨v1, ha, F0, F1, F2, F3⟩ hb_ hon hoff
          refine ⟨_, rfl, fun K hK => ?_⟩
          have e0 : a.tmps[0]? = some (.pointer (some ⟨gq, 0, none⟩)) := by rw [ha]; exact (putSel_off rfl).trans rfl
          refine value_ (w1 := w') (v := .pointer (some ⟨gq, 0, none⟩)) (by rfl) rfl ?_ ?_
          · clear F0 F1 F2 F3 ha
            go_simp
          · refine hK.out _ _ ⟨v1, ?_, fun h => F0 (by rw [← up_ne (b := b) (i := 1) (by decide)]; exact h), fun h h' => F1 (by rw [← up_ne (b := b) (i := 1) (by decide)]; exact h) (by rw [← up_ne (b := b) (i := 1) (by decide)]; exact h'), fun h h' => F2 (by rw [← up_ne (b := b) (i := 1) (by decide)]; exact h) (by rw [← up_ne (b := b) (i := 1) (by decide)]; exact h'), fun h => F3 (by rw [← up_ne (b := b) (i := 1) (by decide)]; exact h)⟩
            rw [ha]; exact putSel_upk 1 hb_ rfl rfl rfl
        refine steps_cons ?_ ?_
        · rintro b a w' ⟨v1, ha, F0, F1, F2, F3⟩ hb_ hon hoff
          refine ⟨_, rfl, fun K hK => ?_⟩
          have e33 : a.tmps[33]? = some (.pointer (some ⟨gq, 0, none⟩)) := by rw [ha]; exact putSel_on (e := (1, 33, .pointer (some ⟨gq, 0, none⟩))) 1 rfl rfl (hon 1 (by kernel_rfl)) rfl
          refine value_ (w1 := w') (v := .pointer (some ⟨gq, 0, none⟩)) (by rfl) rfl ?_ ?_
          · clear F0 F1 F2 F3 ha
            go_simp
          · refine hK.out _ _ ⟨v1, ?_, fun h => F0 (by rw [← up_ne (b := b) (i := 2) (by decide)]; exact h), fun h h' => F1 (by rw [← up_ne (b := b) (i := 2) (by decide)]; exact h) (by rw [← up_ne (b := b) (i := 2) (by decide)]; exact h'), fun h h' => F2 (by rw [← up_ne (b := b) (i := 2) (by decide)]; exact h) (by rw [← up_ne (b := b) (i := 2) (by decide)]; exact h'), fun h => F3 (by rw [← up_ne (b := b) (i := 2) (by decide)]; exact h)⟩
            rw [ha]; exact putSel_upk 2 hb_ rfl rfl rfl
        refine steps_cons ?_ ?_
        · rintro b a w' ⟨v1, ha, F0, F1, F2, F3⟩ hb_ hon hoff
          refine ⟨_, rfl, fun K hK => ?_⟩
          have e34 : a.tmps[34]? = some (.pointer (some ⟨gq, 0, none⟩)) := by rw [ha]; exact putSel_on (e := (2, 34, .pointer (some ⟨gq, 0, none⟩))) 2 rfl rfl (hon 2 (by kernel_rfl)) rfl
          refine value_ (w1 := w') (v := .pointer (some ⟨gq, 0, none⟩)) (by rfl) rfl ?_ ?_
          · clear F0 F1 F2 F3 ha
            go_simp
          · refine hK.out _ _ ⟨v1, ?_, fun h => F0 (by rw [← up_ne (b := b) (i := 3) (by decide)]; exact h), fun h h' => F1 (by rw [← up_ne (b := b) (i := 3) (by decide)]; exact h) (by rw [← up_ne (b := b) (i := 3) (by decide)]; exact h'), fun h h' => F2 (by rw [← up_ne (b := b) (i := 3) (by decide)]; exact h) (by rw [← up_ne (b := b) (i := 3) (by decide)]; exact h'), fun h => F3 (by rw [← up_ne (b := b) (i := 3) (by decide)]; exact h)⟩
            rw [ha]; exact putSel_upk 3 hb_ rfl rfl rfl
        refine steps_cons ?_ ?_
        · rintro b a w' ⟨v1, ha, F0, F1, F2, F3⟩ hb_ hon hoff
          refine ⟨_, rfl, fun K hK => ?_⟩
          have e35 : a.tmps[35]? = some (.pointer (some ⟨gq, 0, none⟩)) := by rw [ha]; exact putSel_on (e := (3, 35, .pointer (some ⟨gq, 0, none⟩))) 3 rfl rfl (hon 3 (by kernel_rfl)) rfl
          have r4 : w'.cell? ⟨gq, 0, none⟩ = some (.slice A xs.length c) := by
            cases hb8 : b 8
            · rw [F0 hb8]; exact hcq
            · rw [F1 hb8 (hoff 9 (by kernel_rfl)), World.cell?_alloc_some _ _ _ (by show (w2.cell? _).isSome = true; rw [hcq]; rfl)]; exact hcq
          refine value_ (w1 := w') (v := .slice A xs.length c) (by rfl) rfl ?_ ?_
          · clear F0 F1 F2 F3 ha
            go_simp
          · refine hK.out _ _ ⟨v1, ?_, fun h => F0 (by rw [← up_ne (b := b) (i := 4) (by decide)]; exact h), fun h h' => F1 (by rw [← up_ne (b := b) (i := 4) (by decide)]; exact h) (by rw [← up_ne (b := b) (i := 4) (by decide)]; exact h'), fun h h' => F2 (by rw [← up_ne (b := b) (i := 4) (by decide)]; exact h) (by rw [← up_ne (b := b) (i := 4) (by decide)]; exact h'), fun h => F3 (by rw [← up_ne (b := b) (i := 4) (by decide)]; exact h)⟩
            rw [ha]; exact putSel_upk 4 hb_ rfl rfl rfl
        refine steps_cons ?_ ?_
        · rintro b a w' ⟨v1, ha, F0, F1, F2, F3⟩ hb_ hon hoff
          refine ⟨_, rfl, fun K hK => ?_⟩
          have e4 : a.tmps[4]? = some (.pointer (some ⟨w.heap.size, 0, none⟩)) := by rw [ha]; exact (putSel_off rfl).trans rfl
          have r5 : w'.cell? ⟨w.heap.size, 0, none⟩ = some (.int .i64 id) := by rw [F0 (hoff 8 (by kernel_rfl))]; exact hci
          refine value_ (w1 := w') (v := .int .i64 id) (by rfl) rfl ?_ ?_
          · clear F0 F1 F2 F3 ha
            go_simp
          · refine hK.out _ _ ⟨v1, ?_, fun h => F0 (by rw [← up_ne (b := b) (i := 5) (by decide)]; exact h), fun h h' => F1 (by rw [← up_ne (b := b) (i := 5) (by decide)]; exact h) (by rw [← up_ne (b := b) (i := 5) (by decide)]; exact h'), fun h h' => F2 (by rw [← up_ne (b := b) (i := 5) (by decide)]; exact h) (by rw [← up_ne (b := b) (i := 5) (by decide)]; exact h'), fun h => F3 (by rw [← up_ne (b := b) (i := 5) (by decide)]; exact h)⟩
            rw [ha]; exact putSel_upk 5 hb_ rfl rfl rfl
        refine steps_cons ?_ ?_
        · rintro b a w' ⟨v1, ha, F0, F1, F2, F3⟩ hb_ hon hoff
          refine ⟨_, rfl, fun K hK => ?_⟩
          have e2 : a.tmps[2]? = some (.int .i64 need) := by rw [ha]; exact (putSel_off rfl).trans rfl
          refine value_ (w1 := w') (v := .int .i64 need) (by rfl) rfl ?_ ?_
          · clear F0 F1 F2 F3 ha
            go_simp
          · refine hK.out _ _ ⟨v1, ?_, fun h => F0 (by rw [← up_ne (b := b) (i := 6) (by decide)]; exact h), fun h h' => F1 (by rw [← up_ne (b := b) (i := 6) (by decide)]; exact h) (by rw [← up_ne (b := b) (i := 6) (by decide)]; exact h'), fun h h' => F2 (by rw [← up_ne (b := b) (i := 6) (by decide)]; exact h) (by rw [← up_ne (b := b) (i := 6) (by decide)]; exact h'), fun h => F3 (by rw [← up_ne (b := b) (i := 6) (by decide)]; exact h)⟩
            rw [ha]; exact putSel_upk 6 hb_ rfl rfl rfl
        refine steps_cons ?_ ?_
        · rintro b a w' ⟨v1, ha, F0, F1, F2, F3⟩ hb_ hon hoff
          refine ⟨_, rfl, fun K hK => ?_⟩
          have e37 : a.tmps[37]? = some (.int .i64 id) := by rw [ha]; exact putSel_on (e := (5, 37, .int .i64 id)) 5 rfl rfl (hon 5 (by kernel_rfl)) rfl
          have e38 : a.tmps[38]? = some (.int .i64 need) := by rw [ha]; exact putSel_on (e := (6, 38, .int .i64 need)) 6 rfl rfl (hon 6 (by kernel_rfl)) rfl
          refine value_ (w1 := w') (v := .agg #[.int .i64 id, .int .i64 need]) (by rfl) rfl ?_ ?_
          · clear F0 F1 F2 F3 ha
            go_simp
          · refine hK.out _ _ ⟨v1, ?_, fun h => F0 (by rw [← up_ne (b := b) (i := 7) (by decide)]; exact h), fun h h' => F1 (by rw [← up_ne (b := b) (i := 7) (by decide)]; exact h) (by rw [← up_ne (b := b) (i := 7) (by decide)]; exact h'), fun h h' => F2 (by rw [← up_ne (b := b) (i := 7) (by decide)]; exact h) (by rw [← up_ne (b := b) (i := 7) (by decide)]; exact h'), fun h => F3 (by rw [← up_ne (b := b) (i := 7) (by decide)]; exact h)⟩
            rw [ha]; exact putSel_upk 7 hb_ rfl rfl rfl
        refine steps_cons ?_ ?_
        · rintro b a w' ⟨v1, ha, F0, F1, F2, F3⟩ hb_ hon hoff
          refine ⟨_, rfl, fun K hK => ?_⟩
          have e39 : a.tmps[39]? = some (.agg #[.int .i64 id, .int .i64 need]) := by rw [ha]; exact putSel_on (e := (7, 39, .agg #[.int .i64 id, .int .i64 need])) 7 rfl rfl (hon 7 (by kernel_rfl)) rfl
          have hw := F0 hb_
          subst hw
          refine value_ (w1 := w2.drew.alloc (.cells #[.int .i64 id, .int .i64 need] 41)) (v := .slice (some ⟨w2.heap.size, 0, none⟩) 1 1) (by rfl) rfl ?_ ?_
          · clear F0 F1 F2 F3 ha
            go_simp
          · refine hK.out _ _ ⟨v1, ?_, fun h => absurd ((up_self b 8).symm.trans h) (by decide), fun _ _ => rfl, fun h => absurd ((hoff 9 (by kernel_rfl)).symm.trans ((up_ne (b := b) (i := 8) (by decide)).symm.trans h)) (by decide), fun h => absurd ((hoff 12 (by kernel_rfl)).symm.trans ((up_ne (b := b) (i := 8) (by decide)).symm.trans h)) (by decide)⟩
            rw [ha]; exact putSel_upk 8 hb_ rfl rfl rfl
        refine steps_cons ?_ ?_
        · rintro b a w' ⟨v1, ha, F0, F1, F2, F3⟩ hb_ hon hoff
          refine ⟨_, rfl, fun K hK => ?_⟩
          have e36 : a.tmps[36]? = some (.slice A xs.length c) := by rw [ha]; exact putSel_on (e := (4, 36, .slice A xs.length c)) 4 rfl rfl (hon 4 (by kernel_rfl)) rfl
          have e40 : a.tmps[40]? = some (.slice (some ⟨w2.heap.size, 0, none⟩) 1 1) := by rw [ha]; exact putSel_on (e := (8, 40, .slice (some ⟨w2.heap.size, 0, none⟩) 1 1)) 8 rfl rfl (hon 8 (by kernel_rfl)) rfl
          have hw := F1 (hon 8 (by kernel_rfl)) hb_
          subst hw
          obtain ⟨v', w3, p1, p2, p3, p4, p5⟩ := AR
          refine value_ (w1 := w3) (v := v') (by rfl) rfl (exec_app rfl (by simp [Act.eval, e36]) (by simp [Act.eval, e40]) p1) ?_
          refine hK.out _ _ ⟨v', ?_, fun h => absurd ((hon 8 (by kernel_rfl)).symm.trans ((up_ne (b := b) (i := 9) (by decide)).symm.trans h)) (by decide), fun _ h => absurd ((up_self b 9).symm.trans h) (by decide), fun _ _ => AA _ _ p2 p3 p5, fun h => absurd ((hoff 12 (by kernel_rfl)).symm.trans ((up_ne (b := b) (i := 9) (by decide)).symm.trans h)) (by decide)⟩
          rw [ha]; exact putSel_upk 9 hb_ rfl rfl rfl
        refine steps_cons ?_ ?_
        · rintro b a w' ⟨v1, ha, F0, F1, F2, F3⟩ hb_ hon hoff
          refine ⟨_, rfl, fun K hK => ?_⟩
          have e32 : a.tmps[32]? = some (.pointer (some ⟨gq, 0, none⟩)) := by rw [ha]; exact putSel_on (e := (0, 32, .pointer (some ⟨gq, 0, none⟩))) 0 rfl rfl (hon 0 (by kernel_rfl)) rfl
          refine value_ (w1 := w') (v := .pointer (some ⟨gq, 0, none⟩)) (by rfl) rfl ?_ ?_
          · clear F0 F1 F2 F3 ha
            go_simp
          · refine hK.out _ _ ⟨v1, ?_, fun h => F0 (by rw [← up_ne (b := b) (i := 10) (by decide)]; exact h), fun h h' => F1 (by rw [← up_ne (b := b) (i := 10) (by decide)]; exact h) (by rw [← up_ne (b := b) (i := 10) (by decide)]; exact h'), fun h h' => F2 (by rw [← up_ne (b := b) (i := 10) (by decide)]; exact h) (by rw [← up_ne (b := b) (i := 10) (by decide)]; exact h'), fun h => F3 (by rw [← up_ne (b := b) (i := 10) (by decide)]; exact h)⟩
            rw [ha]; exact putSel_upk 10 hb_ rfl rfl rfl
        refine steps_cons ?_ ?_
        · rintro b a w' ⟨v1, ha, F0, F1, F2, F3⟩ hb_ hon hoff
          refine ⟨_, rfl, fun K hK => ?_⟩
          have e42 : a.tmps[42]? = some (.pointer (some ⟨gq, 0, none⟩)) := by rw [ha]; exact putSel_on (e := (10, 42, .pointer (some ⟨gq, 0, none⟩))) 10 rfl rfl (hon 10 (by kernel_rfl)) rfl
          refine value_ (w1 := w') (v := .pointer (some ⟨gq, 0, none⟩)) (by rfl) rfl ?_ ?_
          · clear F0 F1 F2 F3 ha
            go_simp
          · refine hK.out _ _ ⟨v1, ?_, fun h => F0 (by rw [← up_ne (b := b) (i := 11) (by decide)]; exact h), fun h h' => F1 (by rw [← up_ne (b := b) (i := 11) (by decide)]; exact h) (by rw [← up_ne (b := b) (i := 11) (by decide)]; exact h'), fun h h' => F2 (by rw [← up_ne (b := b) (i := 11) (by decide)]; exact h) (by rw [← up_ne (b := b) (i := 11) (by decide)]; exact h'), fun h => F3 (by rw [← up_ne (b := b) (i := 11) (by decide)]; exact h)⟩
            rw [ha]; exact putSel_upk 11 hb_ rfl rfl rfl
        refine steps_cons ?_ ?_
        · rintro b a w' ⟨v1, ha, F0, F1, F2, F3⟩ hb_ hon hoff
          refine ⟨_, rfl, fun K hK => ?_⟩
          have e43 : a.tmps[43]? = some (.pointer (some ⟨gq, 0, none⟩)) := by rw [ha]; exact putSel_on (e := (11, 43, .pointer (some ⟨gq, 0, none⟩))) 11 rfl rfl (hon 11 (by kernel_rfl)) rfl
          have e41 : a.tmps[41]? = some (v1) := by rw [ha]; exact putSel_on (e := (9, 41, v1)) 9 rfl rfl (hon 9 (by kernel_rfl)) rfl
          have HA := F2 (hon 9 (by kernel_rfl)) hb_
          have r12 : w'.cell? ⟨gq, 0, none⟩ = some (.slice A xs.length c) := cell_of_row w' gq 0 _ _ (0, 0) HA.box
          have hst := run_store_run (P := Try.prog) (o := 0) 38 v1 [v1] HA.box (Row.one HA.row).1 (by kernel_rfl) (by simp) (by intro q hq; rw [List.mem_singleton.1 hq]; exact (Row.one HA.row).2)
          refine skip_ (w1 := w'.setCells gq 0 [v1]) (by rfl) rfl ?_ ?_
          · unfold execOp
            simp [Act.eval, e43, e41, hst]
          · refine hK.out _ _ ⟨v1, ?_, fun h => absurd ((hon 8 (by kernel_rfl)).symm.trans ((up_ne (b := b) (i := 12) (by decide)).symm.trans h)) (by decide), fun _ h => absurd ((hon 9 (by kernel_rfl)).symm.trans ((up_ne (b := b) (i := 12) (by decide)).symm.trans h)) (by decide), fun _ h => absurd ((up_self b 12).symm.trans h) (by decide), fun _ => HA.fin⟩
            rw [ha]; exact (putSel_same rfl).symm
        exact steps_nil
      · rintro b a w' hall ⟨v1, ha, F0, F1, F2, F3⟩
        have hb0_ := hall 0 (by kernel_rfl)
        have hb1_ := hall 1 (by kernel_rfl)
        have hb2_ := hall 2 (by kernel_rfl)
        have hb3_ := hall 3 (by kernel_rfl)
        have hb4_ := hall 4 (by kernel_rfl)
        have hb5_ := hall 5 (by kernel_rfl)
        have hb6_ := hall 6 (by kernel_rfl)
        have hb7_ := hall 7 (by kernel_rfl)
        have hb8_ := hall 8 (by kernel_rfl)
        have hb9_ := hall 9 (by kernel_rfl)
        have hb10_ := hall 10 (by kernel_rfl)
        have hb11_ := hall 11 (by kernel_rfl)
        have hb12_ := hall 12 (by kernel_rfl)
        subst ha
        simp only [putSel, hb0_, hb1_, hb2_, hb3_, hb4_, hb5_, hb6_, hb7_, hb8_, hb9_, hb10_, hb11_, if_true, Act.put, List.setIfInBounds_toArray, List.set_cons_zero, List.set_cons_succ]
        have HF := Side.mk (F3 hb12_)
        clear F0 F1 F2 F3 hall hb0_ hb1_ hb2_ hb3_ hb4_ hb5_ hb6_ hb7_ hb8_ hb9_ hb10_ hb11_ hb12_
        refine ‹∀ (a : Act) (w : World), Code.wp Try.prog _ _ a w → _› _ _ ?_
        go_wp2
        go_ret
        exact ⟨rfl, HF.out.done HQ.out.base HB2.out⟩
end Go.Proofs.Ytlmckindacnkoaa.SlE

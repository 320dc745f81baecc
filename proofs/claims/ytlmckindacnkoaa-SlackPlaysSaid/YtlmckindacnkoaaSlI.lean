/- Package slack, ninth text: Give. No condition. -/
import Derived.Test.YtlmckindacnkoaaSlH
import Derived.Test.YtlmckindacnkoaaWMore
set_option linter.unusedVariables false
set_option linter.unusedSimpArgs false
namespace Go.Proofs.Ytlmckindacnkoaa.SlI
open Go.RowKit Go.Proofs.Ytlmckindacnkoaa.Kit Go.Proofs.Ytlmckindacnkoaa.SlA Go.Proofs.Ytlmckindacnkoaa.SlB Go.Proofs.Ytlmckindacnkoaa.SlC Go.Proofs.Ytlmckindacnkoaa.SlD Go.Proofs.Ytlmckindacnkoaa.SlE Go.Proofs.Ytlmckindacnkoaa.SlF Go.Proofs.Ytlmckindacnkoaa.SlG Go.Proofs.Ytlmckindacnkoaa.SlH
open Go.Proofs.YtlmckindacnkoaaW.PrintWords (setCells_row setCells_far setCells_same)
attribute [local go_sem] Go.Proofs.YtlmckindacnkoaaW.PrintMore.max2_int Go.Proofs.YtlmckindacnkoaaW.PrintMore.min2_int Go.Proofs.YtlmckindacnkoaaW.PrintMore.max_two Go.Proofs.YtlmckindacnkoaaW.PrintMore.min_two
theorem flat_set2 (ys : List It) (k : Nat) (x : It) (z : Int) (hk : ys[k]? = some x) : flat (ys.set k (x.1, z)) = (flat ys).take (k * 2 + 1) ++ [.int .i64 z] ++ (flat ys).drop (k * 2 + 1 + 1) := by
  have hl := (List.getElem?_eq_some_iff.1 hk).1
  have hf := (flat_at ys k x hk).1
  obtain ⟨h1, h2⟩ := List.getElem?_eq_some_iff.1 hf
  rw [flat_set ys k _ hl, List.take_succ_eq_append_getElem h1, h2, show (k + 1) * 2 = k * 2 + 1 + 1 by omega]
  simp
/-- The second field of an item written. -/
theorem Row.write2 {w : World} {B g n cap : Nat} {t : TypeId} {ys : List It} (h : Row w B t (.slice (some ⟨g, 0, none⟩) n cap) ys) (k : Nat) (x : It) (z : Int) (hk : ys[k]? = some x) :
    Row (w.setCell ⟨g, k * 2 + 1, none⟩ (.int .i64 z)) B t (.slice (some ⟨g, 0, none⟩) n cap) (ys.set k (x.1, z)) := by
  have hkl := (List.getElem?_eq_some_iff.1 hk).1
  obtain ⟨hl, ⟨h0, _⟩ | ⟨g', cap', cur, hv, hB, hg, hn, hm, hs, ht⟩⟩ := h
  · simp at h0
  · simp at hv
    obtain ⟨rfl, rfl, rfl⟩ := hv
    obtain ⟨cur', h1, h2, h3⟩ := setCells_row [.int .i64 z] (k * 2 + 1) w cur hg (by simp; omega)
    refine ⟨by rw [flat_len], .inr ⟨g, cap, cur', by simp, hB, h1, by simpa using hn, hm, by rw [h2, hs], ?_⟩⟩
    have hcl : cur.toList.length = cap * 2 := by rw [Array.length_toList]; exact hs
    rw [h3, List.length_set, flat_set2 ys k x z hk, ← ht]
    exact splice _ _ _ _ (by simp; omega) (by omega)
theorem chg_set1 (w : World) (g o : Nat) (u : Value) : Chg w (w.setCell ⟨g, o, none⟩ u) (fun k => k = g) := chg_set w g o [u]
set_option maxHeartbeats 8000000 in
set_option maxRecDepth 100000 in
theorem Give_core (w : World) (B gq g cap : Nat) (xs : List It) (free : Int) (nn : Nat) (h : Q w B gq (.slice (some ⟨g, 0, none⟩) xs.length cap) xs) (hl : xs.length ≤ 1000) (hp : ∀ x ∈ xs, 1 ≤ x.2 ∧ x.2 ≤ 1048576) (hB : B ≤ w.heap.size)
    (hn : nn ≤ xs.length) (hf : (free < 0 ∧ nn = 0) ∨ (¬ free < 0 ∧ (xs.length : Int) < free ∧ nn = xs.length) ∨ (¬ free < 0 ∧ ¬ (xs.length : Int) < free ∧ free = nn)) :
    Calls Try.prog 12 #[.pointer (some ⟨gq, 0, none⟩), .int .i64 free] w fun r w' => ∃ vo, r = .returned (.tuple #[.int .i64 (nn : Int), vo]) ∧ IRow w' w.heap.size vo (over nn xs) ∧ Done w w' B gq (.slice (some ⟨g, 0, none⟩) xs.length cap) (left (decr nn xs)) := by
  have HQ := Side.mk h
  have HP := Side.mk hp
  have HF := Side.mk hf
  have HBB := Side.mk hB
  have hc := h.cell
  have hgl := h.lt
  have hgg : g < w.heap.size := Row.lt h.row g rfl
  have hne : ¬ g = gq := fun e => Row.ne h.row h.box (by decide) (by rw [e]; rfl)
  have hcap : nn ≤ cap := by
    rcases h.row.read with ⟨h0, _⟩ | ⟨g', cap', h0, _, _, h1, _⟩
    · simp at h0
    · simp at h0; omega
  clear h hp hf hB
  go_enter Try.func12, Try.ntmps12
  go_upto_region 4 with (fail)
  have E : (if (xs.length : Int) < (if free < 0 then 0 else free) then (xs.length : Int) else (if free < 0 then 0 else free)) = (nn : Int) := by
    rcases HF.out with ⟨h1, h2⟩ | ⟨h1, h2, h3⟩ | ⟨h1, h2, h3⟩
    · simp [h1, h2]; omega
    · simp [h1, h2, h3]
    · simp [h1, h2, h3]; omega
  rw [E]
  clear E
  generalize (if free < 0 then (0 : Int) else free) = m12
  go_wp2_with fail
  have hx1000 : (nn : Int) ≤ 1000 := by omega
  go_loopw [7, 26] (fun v7 v26 wr => ∃ i : Nat, i ≤ nn ∧ v26 = .int .i64 (i : Int) ∧ Side (IRow wr w.heap.size v7 (over i xs)) ∧ Side (Q wr B gq (.slice (some ⟨g, 0, none⟩) xs.length cap) (decr i xs)) ∧ Side (Chg w wr (fun k => k = gq ∨ k = g))) (fun _ v26 _ => (nn - intOf v26).toNat)
  case atStart => exact ⟨0, Nat.zero_le _, by simp, ⟨IRow.nil _ _⟩, ⟨by rw [decr_zero]; exact HQ.out⟩, ⟨Chg.refl _ _⟩⟩
  case round =>
    obtain ⟨i, hin, rfl, HI, HR, HC⟩ := hrel
    have hgw : g < wr.heap.size := Nat.lt_of_lt_of_le hgg HC.out.size
    have hgqw : gq < wr.heap.size := Nat.lt_of_lt_of_le hgl HC.out.size
    have hww : w.heap.size ≤ wr.heap.size := HC.out.size
    have hcw := HR.out.cell
    by_cases hi : i < nn
    · obtain ⟨x, hx⟩ : ∃ x, xs[i]? = some x := ⟨xs[i], List.getElem?_eq_getElem (by omega)⟩
      have RD : Side (wr.cell? ⟨g, i * 2, none⟩ = some (.int .i64 x.1) ∧ wr.cell? ⟨g, i * 2 + 1, none⟩ = some (.int .i64 x.2)) := ⟨by
        rcases HR.out.row.read with ⟨h0, _⟩ | ⟨g', cap', h0, _, _, _, _, hr⟩
        · simp at h0
        · simp at h0
          obtain ⟨rfl, _, _⟩ := h0
          exact hr i x (decr_at i xs x hx)⟩
      obtain ⟨xa, xb⟩ := x
      have HX := Side.mk hx
      have hb := HP.out (xa, xb) (List.mem_of_getElem? hx)
      have hb1 : 1 ≤ xb := hb.1
      have hb2 : xb ≤ 1048576 := hb.2
      have r0 : wr.cell? ⟨g, i * 2, none⟩ = some (.int .i64 xa) := RD.out.1
      have r1 : wr.cell? ⟨g, i * 2 + 1, none⟩ = some (.int .i64 xb) := RD.out.2
      clear hx hb
      have fz : ∀ o, wr.frozen? ⟨g, o, none⟩ = false := fun o => by
        obtain ⟨cells, hc⟩ := Go.Proofs.YtlmckindacnkoaaW.PrintWords.own_typed HR.out.row g rfl
        exact Go.Proofs.YtlmckindacnkoaaW.PrintWords.blk_frozen hc o
      have hii : (i : Int) < nn := by omega
      have hil : (i : Int) < xs.length := by omega
      have hi1 : (i : Int) + 1 ≤ 9223372036854775807 := by omega
      go_upto_region 9 with (fail)
      have c0 : (wr.setCell ⟨g, i * 2 + 1, none⟩ (.int .i64 (xb - 1))).cell? ⟨gq, 0, none⟩ = some (.slice (some ⟨g, 0, none⟩) xs.length cap) := by go_simp
      have c1 : (wr.setCell ⟨g, i * 2 + 1, none⟩ (.int .i64 (xb - 1))).cell? ⟨g, i * 2, none⟩ = some (.int .i64 xa) := by go_simp
      have c2 : (wr.setCell ⟨g, i * 2 + 1, none⟩ (.int .i64 (xb - 1))).cell? ⟨g, i * 2 + 1, none⟩ = some (.int .i64 (xb - 1)) := by go_simp
      have HR3 : Side (Q (wr.setCell ⟨g, i * 2 + 1, none⟩ (.int .i64 (xb - 1))) B gq (.slice (some ⟨g, 0, none⟩) xs.length cap) (decr (i + 1) xs)) := ⟨by
        rw [← decr_step i xs (xa, xb) HX.out]
        exact ⟨(blk_far _ (by simp; omega) _).trans HR.out.box, Row.write2 HR.out.row i (xa, xb) (xb - 1) (decr_at i xs _ HX.out), HR.out.base⟩⟩
      have HC3 : Side (Chg w (wr.setCell ⟨g, i * 2 + 1, none⟩ (.int .i64 (xb - 1))) (fun k => k = gq ∨ k = g)) := ⟨Chg.trans HC.out (chg_set1 _ _ _ _) (fun _ _ h => .inr h)⟩
      have HI3 : Side (IRow (wr.setCell ⟨g, i * 2 + 1, none⟩ (.int .i64 (xb - 1))) w.heap.size u7 (over i xs)) := ⟨IRow.chg HI.out (chg_set1 _ _ _ _) (fun k hk he => by have := IRow.base HI.out k hk; omega)⟩
      have hz3 : (wr.setCell ⟨g, i * 2 + 1, none⟩ (.int .i64 (xb - 1))).heap.size = wr.heap.size := by simp
      generalize wr.setCell ⟨g, i * 2 + 1, none⟩ (.int .i64 (xb - 1)) = w3 at *
      have HZ := Side.mk hz3
      have hw3 : w.heap.size ≤ w3.heap.size := by omega
      clear hz3 r0 r1 fz hcw RD HR HC HI
      have HO := Side.mk (over_step i xs (xa, xb) HX.out)
      by_cases ht : xb = 1
      · have ht' : (xb - 1 == 0) = true := by simp; omega
        have HT : Side ((xb == 1) = true) := ⟨by simp; omega⟩
        clear ht
        have HA : Side (IRow (w3.alloc (.cells #[.int .i64 xa] 3)) w.heap.size u7 (over i xs)) := ⟨IRow.below HI3.out (by (repeat (with_reducible first | exact Below.refl _ _ | apply below_alloc)))⟩
        go_upto_region 10 with (fail)
        go_wp2_with (at_builtin; refine wpList_iapp rfl _ _ rfl w.heap.size _ (over i xs) rfl ?c1 ⟨w3.heap.size, 0, none⟩ 1 xa rfl ?c2 ?c3 ?c4 ?c5)
        case c1 => exact HA.out
        case c3 => have := over_len i xs; omega
        case c4 => omega
        case c5 =>
          intro v' w4 hrow hgr hat
          have HC4 : Side (Chg w3 w4 (fun k => some k = u7.ownBlock)) := ⟨Chg.trans (Chg.of_below (S := fun k => some k = u7.ownBlock) (by (repeat (with_reducible first | exact Below.refl _ _ | apply below_alloc)))) (Chg.of_grown hgr) (fun _ _ h => h)⟩
          have hfar : ∀ k, k < w.heap.size → ¬ some k = u7.ownBlock := fun k hk e => by have := IRow.base HI3.out k e.symm; omega
          have HR4 : Side (Q w4 B gq (.slice (some ⟨g, 0, none⟩) xs.length cap) (decr (i + 1) xs)) := ⟨⟨(HC4.out.block gq (by omega) (hfar gq hgl)).trans HR3.out.box, Row.chg HR3.out.row HC4.out (fun k hk => hfar k (by simp [Value.ownBlock] at hk; omega)), HR3.out.base⟩⟩
          have HF4 : Side (Chg w w4 (fun k => k = gq ∨ k = g)) := ⟨Chg.trans HC3.out HC4.out (fun k hk h => absurd h (hfar k hk))⟩
          have HI4 : Side (IRow w4 w.heap.size v' (over (i + 1) xs)) := ⟨by rw [HO.out, if_pos HT.out]; exact hrow⟩
          clear hrow hgr hat hfar HC4
          go_wp2
          go_roundw
          case rel => exact ⟨i + 1, by omega, by simp, HI4, HR4, HF4⟩
          case measure => simp [intOf]; omega
      · have ht' : (xb - 1 == 0) = false := by simp; omega
        have HT : Side (¬ (xb == 1) = true) := ⟨by simp; omega⟩
        clear ht
        have HI4 : Side (IRow w3 w.heap.size u7 (over (i + 1) xs)) := ⟨by rw [HO.out, if_neg HT.out, List.append_nil]; exact HI3.out⟩
        go_wp2
        go_roundw
        case rel => exact ⟨i + 1, by omega, by simp, HI4, HR3, HC3⟩
        case measure => simp [intOf]; omega
    · have hii : ¬ (i : Int) < nn := by omega
      obtain rfl : i = nn := by omega
      have CD := Side.mk (Delete_at wr B _ _ HR.out.row (by rw [decr_len]; exact hl))
      clear hi
      go_wp2_with fail
      refine CD.out.mono ?_
      rintro e w2 ⟨v', rfl, hrow, hchg, hown⟩
      have hb2 : w2.heap[gq]? = some (.cells #[.slice (some ⟨g, 0, none⟩) xs.length cap] 51 (0, 0)) := (hchg.block gq hgqw (by simp [Value.ownBlock]; omega)).trans HR.out.box
      obtain ⟨g', cap', rfl⟩ : ∃ g' cap', v' = .slice (some ⟨g', 0, none⟩) (left (decr i xs)).length cap' := by
        rcases hrow.read with ⟨rfl, _⟩ | ⟨g', cap', rfl, _⟩
        · simp [Value.ownBlock] at hown
        · exact ⟨g', cap', rfl⟩
      have c2 : w2.cell? ⟨gq, 0, none⟩ = some (.slice (some ⟨g, 0, none⟩) xs.length cap) := cell_of_row w2 gq 0 _ _ (0, 0) hb2
      have f2 : w2.frozen? ⟨gq, 0, none⟩ = false := Go.Proofs.YtlmckindacnkoaaW.PrintWords.blk_frozen hb2 0
      have HB2 := Side.mk hb2
      have HRow := Side.mk hrow
      have HCh := Side.mk hchg
      have HOw := Side.mk hown
      clear hb2 hrow hchg hown
      go_wp2
      go_ret2
      have hg1 : ∀ k, some k = (Value.slice (some ⟨g, 0, none⟩) xs.length cap).ownBlock → k = g := fun k hk => by simpa [Value.ownBlock] using hk
      have hall : Chg wr (w2.setCell ⟨gq, 0, none⟩ (.slice (some ⟨g', 0, none⟩) (left (decr i xs)).length cap')) (fun k => k = gq ∨ k = g) :=
        Chg.trans (Chg.trans (Chg.refl wr (fun k => k = gq ∨ k = g)) HCh.out (fun k _ h => .inr (hg1 k h))) (chg_set1 _ _ _ _) (fun k _ h => .inl h)
      refine ⟨u7, rfl, IRow.chg HI.out hall (fun k hk he => by have := IRow.base HI.out k hk; omega), _, ⟨(blk_set HB2.out 0 _).trans (by simp), Row.chg HRow.out (chg_set1 _ _ _ _) (fun k hk he => ?_), HR.out.base⟩, ?_, .inl HOw.out⟩
      · rw [HOw.out] at hk
        have := hg1 k hk.symm
        omega
      · exact Chg.trans (Chg.refl _ _) (Chg.trans HC.out hall (fun _ _ h => h)) (fun k _ h => h.imp id (fun e => by rw [e]; rfl))
set_option maxHeartbeats 8000000 in
set_option maxRecDepth 100000 in
theorem Give_none (w : World) (B gq : Nat) (free : Int) (h : Q w B gq (.slice none 0 0) []) (hB : B ≤ w.heap.size) :
    Calls Try.prog 12 #[.pointer (some ⟨gq, 0, none⟩), .int .i64 free] w fun r w' => ∃ vo, r = .returned (.tuple #[.int .i64 0, vo]) ∧ IRow w' w.heap.size vo [] ∧ Done w w' B gq (.slice none 0 0) [] := by
  have HQ := Side.mk h
  have hc := h.cell
  have hgl := h.lt
  have HB2 := Side.mk h.box
  clear h hB
  go_enter Try.func12, Try.ntmps12
  go_upto_region 4 with (fail)
  have E : (if (0 : Int) < (if free < 0 then 0 else free) then (0 : Int) else (if free < 0 then 0 else free)) = 0 := by
    split <;> split <;> omega
  rw [E]
  clear E
  generalize (if free < 0 then (0 : Int) else free) = m12
  go_wp2_with fail
  go_loopw [7, 26] (fun v7 v26 wr => v7 = .slice none 0 0 ∧ v26 = .int .i64 0 ∧ wr = w) (fun _ _ _ => 0)
  case atStart => exact ⟨rfl, rfl, rfl⟩
  case round =>
    obtain ⟨rfl, rfl, rfl⟩ := hrel
    have CD := Side.mk (Delete_at _ B _ _ HQ.out.row (by simp))
    go_wp2_with fail
    refine CD.out.mono ?_
    rintro e w2 ⟨v', rfl, hrow, hchg, hown⟩
    have hb2 := (hchg.block gq hgl (by simp [Value.ownBlock])).trans HB2.out
    obtain rfl : v' = .slice none 0 0 := by
      rcases hrow.read with ⟨rfl, _⟩ | ⟨g', cap', rfl, _⟩
      · rfl
      · simp [Value.ownBlock] at hown
    have c2 : w2.cell? ⟨gq, 0, none⟩ = some (.slice none 0 0) := cell_of_row w2 gq 0 _ _ (0, 0) hb2
    have f2 : w2.frozen? ⟨gq, 0, none⟩ = false := Go.Proofs.YtlmckindacnkoaaW.PrintWords.blk_frozen hb2 0
    have HB3 := Side.mk hb2
    have HRow := Side.mk hrow
    have HCh := Side.mk hchg
    clear hb2 hrow hchg hown
    go_wp2
    go_ret2
    exact ⟨_, rfl, IRow.nil _ _, _, ⟨(blk_set HB3.out 0 _).trans (by simp), Row.chg HRow.out (chg_set1 _ _ _ _) (fun k hk => by simp [Value.ownBlock] at hk), HQ.out.base⟩, Chg.trans (Chg.trans (Chg.refl _ _) HCh.out (fun k _ h => .inr h)) (chg_set1 _ _ _ _) (fun k _ h => .inl h), .inl rfl⟩
/-- How many Give gives. -/
def many (free : Int) (n : Nat) : Nat := min free.toNat n
theorem Give_at (w : World) (B gq : Nat) (v : Value) (xs : List It) (free : Int) (h : Q w B gq v xs) (hl : xs.length ≤ 1000) (hp : ∀ x ∈ xs, 1 ≤ x.2 ∧ x.2 ≤ 1048576) (hB : B ≤ w.heap.size) :
    Calls Try.prog 12 #[.pointer (some ⟨gq, 0, none⟩), .int .i64 free] w fun r w' => ∃ vo, r = .returned (.tuple #[.int .i64 (many free xs.length : Int), vo]) ∧ IRow w' w.heap.size vo (over (many free xs.length) xs) ∧ Done w w' B gq v (left (decr (many free xs.length) xs)) := by
  rcases h.row.read with ⟨rfl, rfl⟩ | ⟨g, cap, rfl, _⟩
  · have e : many free ([] : List It).length = 0 := by unfold many; simp
    rw [e]
    exact Give_none w B gq free h hB
  · refine Give_core w B gq g cap xs free _ h hl hp hB (by unfold many; omega) ?_
    unfold many
    omega
end Go.Proofs.Ytlmckindacnkoaa.SlI

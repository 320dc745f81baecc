/- Package slack: the reference's queue: Give. No condition but that it holds 1000 at most, with needs from 1 to 1048576. -/
import Derived.Test.YtlmckindacnkoaaSlS
set_option linter.unusedVariables false
set_option linter.unusedSimpArgs false
namespace Go.Proofs.Ytlmckindacnkoaa.SlT
open Go.RowKit Go.Proofs.Ytlmckindacnkoaa.Kit Go.Proofs.Ytlmckindacnkoaa.SlA Go.Proofs.Ytlmckindacnkoaa.SlB Go.Proofs.Ytlmckindacnkoaa.SlC Go.Proofs.Ytlmckindacnkoaa.SlD Go.Proofs.Ytlmckindacnkoaa.SlE Go.Proofs.Ytlmckindacnkoaa.SlF Go.Proofs.Ytlmckindacnkoaa.SlG Go.Proofs.Ytlmckindacnkoaa.SlH Go.Proofs.Ytlmckindacnkoaa.SlI Go.Proofs.Ytlmckindacnkoaa.SlJ Go.Proofs.Ytlmckindacnkoaa.SlK Go.Proofs.Ytlmckindacnkoaa.SlL Go.Proofs.Ytlmckindacnkoaa.SlR Go.Proofs.Ytlmckindacnkoaa.SlS
theorem over_snoc (n : Nat) (P : List It) (x : It) : over n (P ++ [x]) = over n P ++ (if P.length < n ∧ x.2 = 1 then [x.1] else []) := by
  unfold over
  by_cases h : P.length < n
  · rw [List.take_of_length_le (show (P ++ [x]).length ≤ n by simp; omega), List.take_of_length_le (show P.length ≤ n by omega), List.filter_append, List.map_append]
    congr 1
    by_cases h2 : x.2 = 1 <;> simp [h, h2]
  · rw [List.take_append_of_le_length (by omega), if_neg (fun e => h e.1), List.append_nil]
theorem decr_snoc (n : Nat) (P : List It) (x : It) : decr n (P ++ [x]) = decr n P ++ [if P.length < n then (x.1, x.2 - 1) else x] := by
  unfold decr
  by_cases h : P.length < n
  · rw [List.take_of_length_le (show (P ++ [x]).length ≤ n by simp; omega), List.take_of_length_le (show P.length ≤ n by omega), List.drop_of_length_le (show (P ++ [x]).length ≤ n by simp; omega), List.drop_of_length_le (show P.length ≤ n by omega), if_pos h]
    simp
  · rw [List.take_append_of_le_length (by omega), List.drop_append_of_le_length (by omega), if_neg h, List.append_assoc]
theorem left_snoc (ys : List It) (y : It) : left (ys ++ [y]) = left ys ++ (if y.2 = 0 then [] else [y]) := by
  unfold left
  rw [List.filter_append]
  congr 1
  by_cases h : y.2 = 0 <;> simp [dn, h]
theorem over_min (n : Nat) (xs : List It) : over (min n xs.length) xs = over n xs := by
  unfold over
  by_cases h : n ≤ xs.length
  · rw [Nat.min_eq_left h]
  · rw [Nat.min_eq_right (by omega), List.take_length, List.take_of_length_le (by omega)]
theorem decr_min (n : Nat) (xs : List It) : decr (min n xs.length) xs = decr n xs := by
  unfold decr
  by_cases h : n ≤ xs.length
  · rw [Nat.min_eq_left h]
  · rw [Nat.min_eq_right (by omega), List.take_length, List.take_of_length_le (by omega), List.drop_length, List.drop_of_length_le (by omega)]
/-- Between the rounds. -/
structure Lg (W w : World) (n : Nat) (xs : List It) (i : Nat) (v7 v8 : Value) : Prop where
  below : Below W.heap.size W w
  o : IRow w W.heap.size v7 (over n (xs.take i))
  l : Row w W.heap.size 42 v8 (left (decr n (xs.take i)))
theorem Lg.step {W w w' : World} {n i : Nat} {xs : List It} {v7 v8 : Value} (h : Lg W w n xs i v7 v8) (hb : Below w.heap.size w w') : Lg W w' n xs i v7 v8 := ⟨below_then h.below h.below.size hb, IRow.below h.o hb, Row.below h.l hb⟩
theorem Lg.over {W w w' : World} {n i : Nat} {xs : List It} {v7 v7' v8 : Value} {x : It} (h : Lg W w n xs i v7 v8) (hx : xs[i]? = some x) (hn : i < n) (h1 : x.2 = 1) (hr : IRow w' W.heap.size v7' (over n (xs.take i) ++ [x.1])) (hg : w.grownBy w' v7.ownBlock) : Lg W w' n xs (i + 1) v7' v8 := by
  have hil := (List.getElem?_eq_some_iff.1 hx).1
  have hti : (xs.take i).length = i := by simp; omega
  have ht : xs.take (i + 1) = xs.take i ++ [x] := by rw [List.take_add_one, hx]; rfl
  refine ⟨bel_grown h.below hg (fun k e => IRow.base h.o k e), ?_, ?_⟩
  · rw [ht, over_snoc, hti, if_pos ⟨hn, h1⟩]; exact hr
  · rw [ht, decr_snoc, hti, if_pos hn, left_snoc, if_pos (by show x.2 - 1 = 0; omega), List.append_nil]
    refine Row.move h.l fun k hk => hg.block k (Row.lt h.l k hk) fun e => ?_
    obtain ⟨cur, h2⟩ := Go.Proofs.YtlmckindacnkoaaW.PrintWords.own_typed h.o k e.symm
    exact Row.ne h.l h2 (by decide) hk
theorem Lg.left {W w w' : World} {n i : Nat} {xs : List It} {v7 v8 v8' : Value} {x : It} (z : Int) (h : Lg W w n xs i v7 v8) (hx : xs[i]? = some x) (hz : z = if i < n then x.2 - 1 else x.2) (h1 : z ≠ 0) (h2 : 1 ≤ x.2) (hr : Row w' W.heap.size 42 v8' (left (decr n (xs.take i)) ++ [(x.1, z)])) (hg : w.grownBy w' v8.ownBlock) : Lg W w' n xs (i + 1) v7 v8' := by
  have hil := (List.getElem?_eq_some_iff.1 hx).1
  have hti : (xs.take i).length = i := by simp; omega
  have ht : xs.take (i + 1) = xs.take i ++ [x] := by rw [List.take_add_one, hx]; rfl
  have he : (if (xs.take i).length < n then (x.1, x.2 - 1) else x) = (x.1, z) := by
    rw [hti, hz]
    split <;> rfl
  refine ⟨bel_grown h.below hg (fun k e => Row.base h.l k e), ?_, ?_⟩
  · rw [ht, over_snoc, hti, if_neg (by rintro ⟨a, b⟩; rw [if_pos a] at hz; omega), List.append_nil]
    refine IRow.move h.o fun k hk => hg.block k (IRow.lt h.o k hk) fun e => ?_
    obtain ⟨cur, h2⟩ := Go.Proofs.YtlmckindacnkoaaW.PrintWords.own_typed h.o k hk
    exact Row.ne h.l h2 (by decide) e.symm
  · rw [ht, decr_snoc, he, left_snoc, if_neg h1]
    exact hr
set_option maxHeartbeats 8000000 in
set_option maxRecDepth 100000 in
theorem RGive_at (w : World) (B gr : Nat) (v : Value) (xs : List It) (h : RQ w B gr v xs) (hl : xs.length ≤ 1000) (hp : ∀ x ∈ xs, 1 ≤ x.2 ∧ x.2 ≤ 1048576) (free : Int) (hB : B ≤ w.heap.size) :
    Calls Try.prog 13 #[.pointer (some ⟨gr, 0, none⟩), .int .i64 free] w fun r w' => ∃ vo, r = .returned (.tuple #[.int .i64 (many free xs.length : Int), vo]) ∧ IRow w' w.heap.size vo (over (many free xs.length) xs) ∧ RDone w w' B gr (left (decr (many free xs.length) xs)) := by
  have HQ := Side.mk h
  have HP := Side.mk hp
  have HBB := Side.mk hB
  obtain ⟨a0, c0, rfl⟩ := Row.shape h.row
  have hgl := h.lt
  clear h hp hB
  go_enter Try.func13, Try.ntmps13
  go_wp2_with fail
  go_loopw [6, 7, 8, 9] (fun v6 v7 v8 v9 wr => ∃ i : Nat, v9 = .int .i64 (i : Int) ∧ i ≤ xs.length ∧ v6 = .int .i64 (many free i) ∧ Side (Lg w wr free.toNat xs i v7 v8)) (fun _ _ _ v9 _ => (xs.length - intOf v9).toNat)
  case atStart => exact ⟨0, rfl, Nat.zero_le _, by unfold many; simp, ⟨Below.refl _ _, by simpa [over] using IRow.nil _ _, by simp [decr, left]; exact ⟨rfl, .inl ⟨rfl, rfl⟩⟩⟩⟩
  case round =>
    obtain ⟨i, rfl, hi, rfl, HL⟩ := hrel
    have hi0 : (0 : Int) ≤ i := by omega
    obtain ⟨wq, hwq⟩ : ∃ wq : World, wq = wr := ⟨_, rfl⟩
    rw [← hwq] at HL ⊢
    clear hwq
    have HQ1 := Side.mk (HQ.out.below HL.out.below)
    have hc := HQ1.out.cell
    have hgl := HQ1.out.lt
    by_cases hlt : i < xs.length
    · have hii : (i : Int) < xs.length := by omega
      have hi1 : (i : Int) + 1 ≤ 9223372036854775807 := by omega
      obtain ⟨x, hx⟩ : ∃ x, xs[i]? = some x := ⟨_, List.getElem?_eq_getElem hlt⟩
      rcases HQ1.out.row.read with ⟨_, h0⟩ | ⟨g, cap, hv, _, hg, _, _, hcs⟩
      · rw [h0] at hlt; simp at hlt
      simp at hv
      obtain ⟨rfl, rfl⟩ := hv
      obtain ⟨d0, d1⟩ := hcs i x hx
      have hpx := HP.out x (List.mem_of_getElem? hx)
      have HX := Side.mk hx
      clear hcs hx
      obtain ⟨x1, x2⟩ := x
      have hpx : 1 ≤ x2 ∧ x2 ≤ 1048576 := hpx
      have d0 : wq.cell? ⟨g, i * 2, none⟩ = some (.int .i64 x1) := d0
      have d1 : wq.cell? ⟨g, i * 2 + 1, none⟩ = some (.int .i64 x2) := d1
      by_cases hf : (i : Int) < free
      · have hm1 : many free i = i := by unfold many; omega
        have hm2 : ((many free (i + 1) : Nat) : Int) = (i : Int) + 1 := by unfold many; omega
        rw [hm1]
        have HM2 := Side.mk hm2
        clear hm1 hm2
        by_cases h1 : x2 = 1
        · subst h1
          go_wp2_with (at_builtin; refine wpList_iapp rfl _ _ rfl w.heap.size _ (over free.toNat (xs.take i)) rfl ?a1 ⟨wq.heap.size + 1, 0, none⟩ 1 x1 rfl ?a2 ?a3 ?a4 ?a5)
          case a1 => exact IRow.below HL.out.o (by (repeat (with_reducible first | exact Below.refl _ _ | apply below_drewN | apply below_drew | apply below_alloc | refine Below.setCell ?_ ?_ _)); all_goals (first | (simp; done) | (simp; omega)))
          case a3 => simp [over]; have h__ := List.length_filter_le (fun x : It => x.2 == 1) ((xs.take i).take free.toNat); simp at h__; omega
          case a4 => have := HL.out.below.size; simp; omega
          case a5 =>
            intro v7' w3 hrow hgr _
            have HN : Side (Lg w w3 free.toNat xs (i + 1) v7' u8) := ⟨Lg.over (HL.out.step (by (repeat (with_reducible first | exact Below.refl _ _ | apply below_drewN | apply below_drew | apply below_alloc | refine Below.setCell ?_ ?_ _)); all_goals (first | (simp; done) | (simp; omega)))) HX.out (by omega) rfl hrow hgr⟩
            clear hrow hgr HL
            go_wp2
            go_roundw
            case rel => exact ⟨i + 1, by simp, by omega, by rw [HM2.out], HN⟩
            case measure => simp [intOf]; omega
        · have hz : ¬ x2 - 1 = 0 := by omega
          have hz2 : (x2 - 1 == 0) = false := by simp; omega
          go_wp2_with (at_builtin; refine wpList_appR rfl _ _ rfl w.heap.size _ (left (decr free.toNat (xs.take i))) rfl ?b1 ⟨wq.heap.size + 1, 0, none⟩ 1 [(x1, x2 - 1)] rfl ?b2 ?b3 ?b4 ?b5)
          case b1 => exact Row.below HL.out.l (by (repeat (with_reducible first | exact Below.refl _ _ | apply below_drewN | apply below_drew | apply below_alloc | refine Below.setCell ?_ ?_ _)); all_goals (first | (simp; done) | (simp; omega)))
          case b2 =>
            intro j y1 y2 hx
            rcases j with _ | j
            · simp at hx
              obtain ⟨rfl, rfl⟩ := hx
              exact ⟨by first | rfl | go_simp, by first | rfl | go_simp⟩
            · simp at hx
          case b3 => simp [left]; have h__ := List.length_filter_le (fun x => !dn x) (decr free.toNat (xs.take i)); rw [decr_len] at h__; simp at h__; omega
          case b4 => have := HL.out.below.size; simp; omega
          case b5 =>
            intro v8' w3 hrow hgr _ _
            have HN : Side (Lg w w3 free.toNat xs (i + 1) u7 v8') := ⟨Lg.left (x2 - 1) (HL.out.step (by (repeat (with_reducible first | exact Below.refl _ _ | apply below_drewN | apply below_drew | apply below_alloc | refine Below.setCell ?_ ?_ _)); all_goals (first | (simp; done) | (simp; omega)))) HX.out (by rw [if_pos (by omega)]) (by omega) (by show 1 ≤ x2; omega) hrow hgr⟩
            clear hrow hgr HL
            go_wp2
            go_roundw
            case rel => exact ⟨i + 1, by simp, by omega, by rw [HM2.out], HN⟩
            case measure => simp [intOf]; omega
      · have hm1 : ((many free (i + 1) : Nat) : Int) = many free i := by unfold many; omega
        have HM2 := Side.mk hm1
        have hz : ¬ x2 = 0 := by omega
        have hz2 : (x2 == 0) = false := by simp; omega
        clear hm1
        go_wp2_with (at_builtin; refine wpList_appR rfl _ _ rfl w.heap.size _ (left (decr free.toNat (xs.take i))) rfl ?c1 ⟨wq.heap.size + 1, 0, none⟩ 1 [(x1, x2)] rfl ?c2 ?c3 ?c4 ?c5)
        case c1 => exact Row.below HL.out.l (by (repeat (with_reducible first | exact Below.refl _ _ | apply below_drewN | apply below_drew | apply below_alloc | refine Below.setCell ?_ ?_ _)); all_goals (first | (simp; done) | (simp; omega)))
        case c2 =>
          intro j y1 y2 hx
          rcases j with _ | j
          · simp at hx
            obtain ⟨rfl, rfl⟩ := hx
            exact ⟨by first | rfl | go_simp, by first | rfl | go_simp⟩
          · simp at hx
        case c3 => simp [left]; have h__ := List.length_filter_le (fun x => !dn x) (decr free.toNat (xs.take i)); rw [decr_len] at h__; simp at h__; omega
        case c4 => have := HL.out.below.size; simp; omega
        case c5 =>
          intro v8' w3 hrow hgr _ _
          have HN : Side (Lg w w3 free.toNat xs (i + 1) u7 v8') := ⟨Lg.left (x2) (HL.out.step (by (repeat (with_reducible first | exact Below.refl _ _ | apply below_drewN | apply below_drew | apply below_alloc | refine Below.setCell ?_ ?_ _)); all_goals (first | (simp; done) | (simp; omega)))) HX.out (by rw [if_neg (by omega)]) (by omega) (by show 1 ≤ x2; omega) hrow hgr⟩
          clear hrow hgr HL
          go_wp2
          go_roundw
          case rel => exact ⟨i + 1, by simp, by omega, by rw [HM2.out], HN⟩
          case measure => simp [intOf]; omega
    · have hii : ¬ (i : Int) < xs.length := by omega
      obtain rfl : i = xs.length := by omega
      have HO : Side (IRow wq w.heap.size u7 (over (many free xs.length) xs)) := ⟨by
        have h1 := HL.out.o
        rw [List.take_length] at h1
        unfold many
        rw [over_min]; exact h1⟩
      have HLL : Row wq w.heap.size 42 u8 (left (decr (many free xs.length) xs)) := by
        have h1 := HL.out.l
        rw [List.take_length] at h1
        unfold many
        rw [decr_min]; exact h1
      obtain ⟨k1, k2, k3, hd⟩ := RQ.fin HQ.out HL.out.below HLL HBB.out
      obtain ⟨a8, c8, rfl⟩ := Row.shape HLL
      have HD := Side.mk hd
      have HB := Side.mk HL.out.below
      have HF : Side (IRow (wq.setCell ⟨gr, 0, none⟩ (.slice a8 (left (decr (many free xs.length) xs)).length c8)) w.heap.size u7 (over (many free xs.length) xs)) := ⟨IRow.move HO.out fun k hk => blk_far _ (fun e => by have h1 := IRow.base HO.out k hk; have h2 := HQ.out.lt; have h3 : k = gr := e; omega) _⟩
      clear hd HL HLL HO hi hlt
      go_wp2
      go_ret2
      exact ⟨_, rfl, HF.out, HD.out⟩
end Go.Proofs.Ytlmckindacnkoaa.SlT

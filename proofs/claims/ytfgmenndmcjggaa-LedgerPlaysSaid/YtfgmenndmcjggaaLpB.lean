/- LedgerPlays: the model's row put together; the reference's Can. No condition. -/
import Derived.Test.YtfgmenndmcjggaaLpA
set_option linter.unusedVariables false
set_option linter.unusedSimpArgs false
namespace Go.Proofs.Ytfgmenndmcjggaa.LpB
open Go.RowKit Go.Proofs.Ytfgmenndmcjggaa.Kit Go.Proofs.Ytfgmenndmcjggaa.Kit2 Go.Proofs.Ytfgmenndmcjggaa.Kit3 Go.Proofs.Ytfgmenndmcjggaa.Kit4 Go.Proofs.Ytfgmenndmcjggaa.Kit5 Go.Proofs.Ytfgmenndmcjggaa.LeP Go.Maps Go.Proofs.Ytfgmenndmcjggaa.LeA Go.Proofs.Ytfgmenndmcjggaa.LeF Go.Proofs.Ytfgmenndmcjggaa.LeH Go.Proofs.Ytfgmenndmcjggaa.LeK Go.Proofs.Ytfgmenndmcjggaa.LpA
open Go.Proofs.Ytfgmenndmcjggaa.PR WhPlain RaPlain Go.Proofs.Ytfgmenndmcjggaa.RaK
open Go.Proofs.YtfgmenndmcjggaaW.PrintLast
theorem infoW : (Try.prog.info? 42).map (fun i => (i.zero, i.size, i.bytes)) = some (some (.agg #[.int .i64 0, .int .i64 0, .int .i64 0]), 3, 24) := by kernel_rfl
/-- A part of a row, as a slice says. -/
def Sp (w : World) (v : Value) (ys : List Wt) : Prop := (v = .slice none 0 0 ∧ ys = []) ∨ ∃ g off n c, v = .slice (some ⟨g, off, none⟩) n c ∧ n = ys.length ∧ g < w.heap.size ∧ ∀ (j r : Nat) (x : Wt) (u : Value), ys[j]? = some x → (wcl x)[r]? = some u → w.cell? ⟨g, off + (j * 3 + r), none⟩ = some u
theorem Sp.below {w w' : World} {v : Value} {ys : List Wt} (h : Sp w v ys) (hb : Below w.heap.size w w') : Sp w' v ys := by
  rcases h with h | ⟨g, off, n, c, h1, h2, h3, h4⟩
  · exact .inl h
  · exact .inr ⟨g, off, n, c, h1, h2, Nat.lt_of_lt_of_le h3 hb.size, fun j r x u hj hu => (hb.cell (p := ⟨g, off + (j * 3 + r), none⟩) h3).trans (h4 j r x u hj hu)⟩
theorem Sp.nil (w : World) : Sp w (.slice none 0 0) [] := .inl ⟨rfl, rfl⟩
theorem Sp.row {w : World} {B : Nat} {v : Value} {ms : List Wt} (h : WRow w B v ms) : Sp w v ms := by
  rcases h.read E3 with ⟨rfl, rfl⟩ | ⟨g, cap, rfl, hB, hg, hn, hm, _, hr⟩
  · exact .inl ⟨rfl, rfl⟩
  · exact .inr ⟨g, 0, _, cap, rfl, rfl, hg, fun j r x u hj hu => by rw [Nat.zero_add]; exact hr j x hj r u hu⟩
theorem Sp.take {w : World} {B g len c : Nat} {ms : List Wt} (h : WRow w B (.slice (some ⟨g, 0, none⟩) len c) ms) (n c' : Nat) (hn : n ≤ ms.length) : Sp w (.slice (some ⟨g, 0, none⟩) n c') (ms.take n) := by
  rcases h.read E3 with ⟨h0, _⟩ | ⟨g', cap, h0, hB, hg, hl, hm, _, hr⟩
  · simp at h0
  · simp at h0
    obtain ⟨rfl, rfl, rfl⟩ := h0
    refine .inr ⟨g, 0, n, c', rfl, by rw [List.length_take]; omega, hg, fun j r x u hj hu => ?_⟩
    rw [Nat.zero_add]
    refine hr j x ?_ r u hu
    rw [List.getElem?_take] at hj
    split at hj
    · exact hj
    · cases hj
theorem Sp.drop {w : World} {B g len c : Nat} {ms : List Wt} (h : WRow w B (.slice (some ⟨g, 0, none⟩) len c) ms) (n m c' : Nat) (hm' : m = ms.length - n) : Sp w (.slice (some ⟨g, n * 3, none⟩) m c') (ms.drop n) := by
  rcases h.read E3 with ⟨h0, _⟩ | ⟨g', cap, h0, hB, hg, hl, hm, _, hr⟩
  · simp at h0
  · simp at h0
    obtain ⟨rfl, rfl, rfl⟩ := h0
    refine .inr ⟨g, n * 3, m, c', rfl, by rw [List.length_drop, hm'], hg, fun j r x u hj hu => ?_⟩
    rw [List.getElem?_drop] at hj
    rw [show n * 3 + (j * 3 + r) = (n + j) * 3 + r by omega]
    exact hr (n + j) x hj r u hu
theorem sp1 {w : World} {p : Nat} {d : Wt} (h : w.heap[p]? = some (.cells #[.int .i64 d.1, .int .i64 d.2.1, .int .i64 d.2.2] 42 (0, 0))) : Sp w (.slice (some ⟨p, 0, none⟩) 1 1) [d] := .inr ⟨p, 0, 1, 1, rfl, rfl, (Array.getElem?_eq_some_iff.1 h).1, fun j r x u hj hu => by
  rcases j with _ | j
  · simp at hj
    subst hj
    rw [cell_of_row w p _ _ _ (0, 0) h]
    simpa [wcl] using hu
  · simp at hj⟩
theorem run_wapp {w : World} {B : Nat} {v : Value} {xs : List Wt} (ty : TypeId) (h : WRow w B v xs) {sv : Value} {ys : List Wt} (hs : Sp w sv ys) (hl : xs.length + ys.length ≤ 1000000) (hB : B ≤ w.heap.size) :
    ∃ v' w', (Builtin.append_ #[38, 38] ty #[v, sv]).run Try.prog w = .ok v' w' ∧ WRow w' B v' (xs ++ ys) ∧ w.grownBy w' v.ownBlock ∧ (v'.ownBlock = v.ownBlock ∨ v'.ownBlock = some w.heap.size) := by
  rcases hs with ⟨rfl, rfl⟩ | ⟨g, off, n, c, rfl, rfl, hg, hc⟩
  · obtain ⟨i, hi, he⟩ := Option.map_eq_some_iff.1 infoW
    refine ⟨v, w, run_append_owned_none (P := Try.prog) w B 38 ty 42 i 3 Try.underlying38 hi v _ _ h, by rw [List.append_nil]; exact h, ⟨rfl, rfl, rfl, Nat.le_refl _, fun _ _ _ => rfl⟩, .inl rfl⟩
  · obtain ⟨v', w', p1, p2, p3, _, p5⟩ := run_gapp E3 Try.underlying38 infoW rfl (by decide) ty h ⟨g, off, none⟩ c ys (fun j x hj r u hu => by
      have := hc j r x u hj hu
      rw [show (⟨g, off, none⟩ : Addr).add (j * 3 + r) = ⟨g, off + (j * 3 + r), none⟩ by simp [Addr.add]; try omega]
      exact this) hl hB
    exact ⟨v', w', p1, p2, p3, p5⟩
theorem wpList_wapp {ops : Array Oper} {rest : List Oper} {o : Oper} {a : Act} {Q : Exit → Act → World → Prop} {w : World} (hgd : o.guard = none) (s x : Operand)
    (ho : o.op = .call { callee := .builtin .append, args := #[s, x], argTypes := #[38, 38] }) (B : Nat) (v : Value) (xs : List Wt) (hs : a.eval s = v) (h : WRow w B v xs)
    (sv : Value) (ys : List Wt) (hx : a.eval x = sv) (hsp : Sp w sv ys) (hl : xs.length + ys.length ≤ 1000000) (hB : B ≤ w.heap.size)
    (K : ∀ v' w', WRow w' B v' (xs ++ ys) → w.grownBy w' v.ownBlock → (v'.ownBlock = v.ownBlock ∨ v'.ownBlock = some w.heap.size) → wpList Try.prog ops Q rest (a.put o.dst v') w') :
    wpList Try.prog ops Q (o :: rest) a w := by
  refine wpList_plain hgd fun K' hK => ?_
  obtain ⟨v', w', h1, h2, h3, h5⟩ := run_wapp o.type h hsp hl hB
  unfold Oper.wp
  rw [exec_app ho hs hx h1]
  exact hK _ _ (K v' w' h2 h3 h5)
theorem bel_grown {B : Nat} {W w w' : World} {r : Option Nat} (h : Below B W w) (hB : B ≤ w.heap.size) (hg : w.grownBy w' r) (hr : ∀ k, some k = r → B ≤ k) : Below B W w' :=
  ⟨hg.os.trans h.os, hg.tape.trans h.tape, hg.output.trans h.output, Nat.le_trans h.size hg.size, fun k hk => (hg.block k (Nat.lt_of_lt_of_le hk hB) (fun e => by have := hr k e; omega)).trans (h.block k hk)⟩
theorem can_gt {k : Int} {ms : List Wt} {e p : Int} (hm : may e p) (h7 : Nat.lcm p.natAbs (ll ms) ≤ 16777216) (hp : 0 < ll (ms ++ [(0, e, p)])) (s : Int × Int) (hs : sOf (ms ++ [(0, e, p)]) = s) : canV k ms e p = if s.1 > k * s.2 then 8 else 0 := by
  have hQ : Q s (num (ll (ms ++ [(0, e, p)])) (ms ++ [(0, e, p)])) (ll (ms ++ [(0, e, p)])) := by rw [← hs]; exact red_Q (by omega)
  have hk : Q ((k, 1) : Int × Int) k 1 := Q.self ⟨by show (0 : Int) < 1; omega, Int.gcd_one_right _⟩
  have h := hk.lt hQ
  unfold canV
  rw [if_neg (not_not_intro hm), if_neg (by omega)]
  rw [show ((k, 1) : Int × Int).1 = k from rfl, show ((k, 1) : Int × Int).2 = 1 from rfl, Int.mul_one, Int.mul_one] at h
  by_cases h1 : k * s.2 < s.1
  · rw [if_pos (h.1 h1), if_pos h1]
  · rw [if_neg (fun h2 => h1 (h.2 h2)), if_neg h1]
set_option maxHeartbeats 4000000 in
set_option maxRecDepth 100000 in
theorem RefCan {w : World} {B : Nat} {v : Value} {ms : List Wt} (h : WRow w B v ms) (hml : ms.length ≤ 500) (hmm : ∀ m ∈ ms, may m.2.1 m.2.2) {k : Int} (hk : 1 ≤ k ∧ k ≤ 64) (e p c : Int) (hc : canV k ms e p = c) :
    Calls Try.prog 15 #[v, .int .i64 k, .int .i64 e, .int .i64 p] w fun r w' => r = .returned (.int .i64 c) ∧ Below w.heap.size w w' := by
  by_cases hm : may e p
  · have HM := RefMay e p true (decide_eq_true hm)
    have HSP := Side.mk (Sp.row h)
    have HMM : Side (∀ m ∈ ms ++ [(0, e, p)], may m.2.1 m.2.2) := ⟨fun m hmem => by
      rcases List.mem_append.1 hmem with h1 | h1
      · exact hmm m h1
      · simp at h1; subst h1; exact hm⟩
    have HPOS : Side (0 < ll (ms ++ [(0, e, p)])) := ⟨ll_pos fun m hmem => by have := HMM.out m hmem; unfold may at this; omega⟩
    have HLE : Side (ms.length ≤ 500) := ⟨hml⟩
    have HLEN : Side ((ms ++ [(0, e, p)]).length ≤ 1000) := ⟨by simp; omega⟩
    have HEL : Side (Nat.lcm p.natAbs (ll ms) = ll (ms ++ [(0, e, p)])) := ⟨(ll_snoc ms (0, e, p)).symm⟩
    have HCN := Side.mk hc
    have HMY := Side.mk hm
    obtain ⟨L, hL⟩ : ∃ L, rl (ms ++ [(0, e, p)]) = L := ⟨_, rfl⟩
    have HRL := Side.mk hL
    clear h hml hmm hc hm hL
    go_enter Try.func15, Try.ntmps15
    go_upto_region 3 with (go_at_call 27; (with_reducible refine (HM _).out.mono ?_); rintro ee w1 ⟨rfl, hb1⟩)
    have HB1 := Side.mk hb1
    clear hb1
    go_upto_region 4 with (first
      | (at_builtin; refine wpList_wapp rfl _ _ rfl w.heap.size (.slice none 0 0) [] rfl (GRow.nil _ _) v ms rfl (HSP.out.below HB1.out) (by have := HLE.out; simp; omega) HB1.out.size ?_; intro v1 w2 hr1 hg1 hl1)
      | (at_builtin; refine wpList_wapp rfl _ _ rfl w.heap.size v1 ms rfl (hr1.below ((Below.refl _ _).alloc (Nat.le_refl _) _)) (.slice (some ⟨w2.heap.size, 0, none⟩) 1 1) [(0, e, p)] rfl (sp1 (heap_alloc_new w2 _)) (by have := HLE.out; simp; omega) (by have := HB1.out.size; have := hg1.size; simp; omega) ?_; intro v2 w3 hr2 hg2 hl2))
    have HR : Side (WRow w3 w.heap.size v2 (ms ++ [(0, e, p)])) := ⟨by simpa using hr2⟩
    have HB3 : Side (Below w.heap.size w w3) := ⟨by
      have b2 := bel_grown HB1.out HB1.out.size hg1 (fun j hj => by simp [Value.ownBlock] at hj)
      have b2' := b2.alloc b2.size (.cells #[.int .i64 0, .int .i64 e, .int .i64 p] 42)
      exact bel_grown b2' b2'.size hg2 (fun j hj => hr1.base j hj.symm)⟩
    have CL : Side (∀ w', Below w3.heap.size w3 w' → Calls Try.prog 18 #[v2] w' fun r w'' => r = .returned (.int .i64 L) ∧ Below w'.heap.size w' w'') := ⟨fun w' hb => RefLcm (HR.out.below hb) HMM.out HLEN.out L HRL.out⟩
    clear hr1 hr2 hg1 hg2 hl1 hl2 HB1 HSP
    have HB0 := Side.mk (Below.refl w3.heap.size w3)
    by_cases h7 : ll (ms ++ [(0, e, p)]) ≤ 16777216
    · obtain ⟨s, hs⟩ : ∃ s, sOf (ms ++ [(0, e, p)]) = s := ⟨_, rfl⟩
      have CS : Side (∀ w', Below w3.heap.size w3 w' → Calls Try.prog 17 #[v2] w' fun r w'' => r = .returned (.agg #[.int .i64 s.1, .int .i64 s.2]) ∧ Below w'.heap.size w' w'') := ⟨fun w' hb => RefSum (HR.out.below hb) HMM.out HLEN.out h7 s hs⟩
      have HV : Side (c = if s.1 > k * s.2 then 8 else 0) := ⟨by rw [← HCN.out]; exact can_gt HMY.out (by rw [HEL.out]; exact h7) HPOS.out s hs⟩
      have hle : ¬ L > 16777216 := by have := HRL.out; unfold rl at this; rw [if_pos h7] at this; omega
      have hsb : 0 ≤ s.2 ∧ s.2 ≤ 16777216 := by
        have h1 := red_le (n := num (ll (ms ++ [(0, e, p)])) (ms ++ [(0, e, p)])) (d := (ll (ms ++ [(0, e, p)]) : Int)) (by have := HPOS.out; omega)
        have h2 := (red_R (n := num (ll (ms ++ [(0, e, p)])) (ms ++ [(0, e, p)])) (d := (ll (ms ++ [(0, e, p)]) : Int)) (by have := HPOS.out; omega)).pos
        have h3 : red (num (ll (ms ++ [(0, e, p)])) (ms ++ [(0, e, p)])) (ll (ms ++ [(0, e, p)]) : Int) = s := hs
        rw [h3] at h1 h2
        omega
      have hks : 0 ≤ k * s.2 ∧ k * s.2 ≤ 64 * 16777216 := ⟨Int.mul_nonneg (by omega) hsb.1, Int.mul_le_mul hk.2 hsb.2 hsb.1 (by omega)⟩
      clear hs h7 HRL HCN HEL HPOS HMM HLEN HMY HR
      obtain ⟨s0, s1⟩ := s
      simp only at hks hsb
      by_cases hgt : s0 > k * s1
      · obtain rfl : c = 8 := by have := HV.out; rw [if_pos hgt] at this; exact this
        go_wp2_with (first
          | (go_at_call 18; (with_reducible refine (CL.out _ HB0.out).mono ?_); rintro ee w4 ⟨rfl, hb4⟩)
          | (go_at_call 17; (with_reducible refine (CS.out _ hb4).mono ?_); rintro ee w5 ⟨rfl, hb5⟩))
        go_ret
        exact ⟨rfl, below_then HB3.out HB3.out.size (below_then hb4 hb4.size (by (repeat (with_reducible first | exact hb5 | apply below_drewN | apply below_drew | apply below_alloc))))⟩
      · obtain rfl : c = 0 := by have := HV.out; rw [if_neg hgt] at this; exact this
        go_wp2_with (first
          | (go_at_call 18; (with_reducible refine (CL.out _ HB0.out).mono ?_); rintro ee w4 ⟨rfl, hb4⟩)
          | (go_at_call 17; (with_reducible refine (CS.out _ hb4).mono ?_); rintro ee w5 ⟨rfl, hb5⟩))
        go_ret
        exact ⟨rfl, below_then HB3.out HB3.out.size (below_then hb4 hb4.size (by (repeat (with_reducible first | exact hb5 | apply below_drewN | apply below_drew | apply below_alloc))))⟩
    · have hgt : L > 16777216 := by have := HRL.out; unfold rl at this; rw [if_neg h7] at this; omega
      obtain rfl : c = 7 := by
        rw [← HCN.out]; unfold canV
        rw [if_neg (not_not_intro HMY.out), if_pos (by rw [HEL.out]; omega)]
      clear HRL HCN HEL HPOS HMM HLEN HMY HR h7
      go_wp2_with (go_at_call 18; (with_reducible refine (CL.out _ HB0.out).mono ?_); rintro ee w4 ⟨rfl, hb4⟩)
      go_ret
      exact ⟨rfl, below_then HB3.out HB3.out.size hb4⟩
  · have HM := RefMay e p false (decide_eq_false hm)
    have hv : c = 2 := by
      rw [← hc]; unfold canV
      rw [if_pos hm]
    subst hv
    clear h hc hm hmm hml
    go_enter Try.func15, Try.ntmps15
    go_wp2_with (go_at_call 27; (with_reducible refine (HM _).out.mono ?_); rintro ee w1 ⟨rfl, hb1⟩)
    go_ret
    exact ⟨rfl, hb1⟩
end Go.Proofs.Ytfgmenndmcjggaa.LpB

/- Package calendar: the contracts as laws use them. No condition. -/
import Derived.Test.YtbppjaglgbhckaaCaQ
set_option linter.unusedVariables false
set_option linter.unusedSimpArgs false
namespace Go.Proofs.Ytbppjaglgbhckaa.CaR
open Go.RowKit Go.Proofs.Ytbppjaglgbhckaa.Kit Go.Proofs.Ytbppjaglgbhckaa.Kit4 Go.Proofs.Ytbppjaglgbhckaa.CaA Go.Proofs.Ytbppjaglgbhckaa.CaB Go.Proofs.Ytbppjaglgbhckaa.CaC Go.Proofs.Ytbppjaglgbhckaa.CaD Go.Proofs.Ytbppjaglgbhckaa.CaF Go.Proofs.Ytbppjaglgbhckaa.CaG Go.Proofs.Ytbppjaglgbhckaa.CaH Go.Proofs.Ytbppjaglgbhckaa.CaI Go.Proofs.Ytbppjaglgbhckaa.CaJ Go.Proofs.Ytbppjaglgbhckaa.CaK Go.Proofs.Ytbppjaglgbhckaa.CaL Go.Proofs.Ytbppjaglgbhckaa.CaM Go.Proofs.Ytbppjaglgbhckaa.CaN Go.Proofs.Ytbppjaglgbhckaa.CaO Go.Proofs.Ytbppjaglgbhckaa.CaP Go.Proofs.Ytbppjaglgbhckaa.CaQ
/-- A block that no calendar's operation turns. -/
def Out (X : Nat → Prop) (k : Nat) (o : Obj) : Prop := X k ∨ ∃ cs t, o = .cells cs t (0, 0) ∧ t ≠ 44 ∧ t ≠ 42
structure Fr (X : Nat → Prop) (w w' : World) : Prop where
  size : w.heap.size ≤ w'.heap.size
  block : ∀ k o, w.heap[k]? = some o → Out X k o → w'.heap[k]? = some o
theorem Fr.refl (X : Nat → Prop) (w : World) : Fr X w w := ⟨Nat.le_refl _, fun _ _ h _ => h⟩
theorem Fr.trans {X : Nat → Prop} {w w1 w2 : World} (h : Fr X w w1) (k : Fr X w1 w2) : Fr X w w2 := ⟨Nat.le_trans h.size k.size, fun b o e h1 => k.block b o (h.block b o e h1) h1⟩
theorem Fr.below {X : Nat → Prop} {w w' : World} (h : Below w.heap.size w w') : Fr X w w' := ⟨h.size, fun k o e _ => (h.block k (Array.getElem?_eq_some_iff.1 e).1).trans e⟩
/-- A calendar, and who is in it; W: the world that it was made in; X: blocks that are not its own. -/
structure St (W w : World) (X : Nat → Prop) (gq : Nat) (xs : List It) : Prop where
  below : Below W.heap.size W w
  srt : Srt xs
  h : ∃ v, Q w W.heap.size gq v xs ∧ ¬ X gq ∧ ∀ k, v.ownBlock = some k → ¬ X k
  xlt : ∀ k, X k → k < w.heap.size
theorem St.lt {W w : World} {X : Nat → Prop} {gq : Nat} {xs : List It} (h : St W w X gq xs) : gq < w.heap.size ∧ W.heap.size ≤ gq := by
  obtain ⟨v, hq, _⟩ := h.h
  exact ⟨hq.lt, hq.base⟩
theorem St.below' {W w w' : World} {X : Nat → Prop} {gq : Nat} {xs : List It} (h : St W w X gq xs) (hb : Below w.heap.size w w') : St W w' X gq xs := by
  obtain ⟨v, hq, h2, h3⟩ := h.h
  exact ⟨h.below.trans (hb.mono h.below.size), h.srt, ⟨v, hq.below hb, h2, h3⟩, fun k hk => Nat.lt_of_lt_of_le (h.xlt k hk) hb.size⟩
/-- Blocks that are made later are none of the calendar's. -/
theorem St.more {W w w' : World} {X : Nat → Prop} {gq : Nat} {xs : List It} (h : St W w X gq xs) (hb : Below w.heap.size w w') : St W w' (fun k => X k ∨ (w.heap.size ≤ k ∧ k < w'.heap.size)) gq xs := by
  obtain ⟨v, hq, h2, h3⟩ := h.h
  refine ⟨h.below.trans (hb.mono h.below.size), h.srt, ⟨v, hq.below hb, ?_, fun k hk hX => ?_⟩, fun k hk => ?_⟩
  · rintro (hX | hX)
    · exact h2 hX
    · have := hq.lt; omega
  · rcases hX with hX | hX
    · exact h3 k hk hX
    · have := Row.lt hq.row k hk; omega
  · rcases hk with hk | hk
    · exact Nat.lt_of_lt_of_le (h.xlt k hk) hb.size
    · exact hk.2
theorem srt_nil : Srt [] := fun i j x y _ h => by simp at h
theorem St.start {W w : World} (hb : Below W.heap.size W w) : St W (w.alloc (.cells #[.slice none 0 0] 42)) (fun _ => False) w.heap.size [] := by
  refine ⟨hb.alloc hb.size _, srt_nil, ⟨.slice none 0 0, ⟨heap_alloc_new w _, ⟨rfl, .inl ⟨rfl, rfl⟩⟩, hb.size⟩, id, fun k hk => by simp [Value.ownBlock] at hk⟩, fun _ h => h.elim⟩
theorem Q.out {w : World} {B gq : Nat} {v : Value} {xs : List It} {X : Nat → Prop} (h : Q w B gq v xs) (h2 : ¬ X gq) (h3 : ∀ k, v.ownBlock = some k → ¬ X k) (k : Nat) (o : Obj) (he : w.heap[k]? = some o) (ho : Out X k o) : ¬ (k = gq ∨ some k = v.ownBlock) := by
  rintro (rfl | hk)
  · rcases ho with ho | ⟨cs, t, rfl, h4, h5⟩
    · exact h2 ho
    · rw [h.box] at he
      simp at he
      exact h5 he.2.symm
  · rcases ho with ho | ⟨cs, t, rfl, h4, h5⟩
    · exact h3 k hk.symm ho
    · obtain ⟨cells, hc⟩ := Go.Proofs.YtbppjaglgbhckaaW.PrintWords.own_typed h.row k hk.symm
      rw [hc] at he
      simp at he
      exact h4 he.2.symm
theorem Got.st {W w w' : World} {X : Nat → Prop} {gq : Nat} {v : Value} {xs ys : List It} (hb : Below W.heap.size W w) (hx : ∀ k, X k → k < w.heap.size) (h : Q w W.heap.size gq v xs) (h2 : ¬ X gq) (h3 : ∀ k, v.ownBlock = some k → ¬ X k) (hs : Srt ys) (g : Got w w' W.heap.size gq v ys) : St W w' X gq ys ∧ Fr X w w' := by
  obtain ⟨v', hq, hc, ho⟩ := g
  refine ⟨⟨hb.trans (Chg.below hc hb.size (fun k hk => ?_)), hs, ⟨v', hq, h2, fun k hk hX => ?_⟩, fun k hk => Nat.lt_of_lt_of_le (hx k hk) hc.size⟩, ⟨hc.size, fun k o he hout => (hc.block k (Array.getElem?_eq_some_iff.1 he).1 (Q.out h h2 h3 k o he hout)).trans he⟩⟩
  · rcases hk with rfl | hk
    · exact h.base
    · exact Row.base h.row k hk.symm
  · rcases ho with ho | ho
    · exact h3 k (by rw [← ho]; exact hk) hX
    · have := ho k hk
      have := hx k hX
      omega
theorem Put_st {W w : World} {X : Nat → Prop} {gq : Nat} {xs : List It} (h : St W w X gq xs) (hl : xs.length ≤ 900) (t id : Int) (ys : List It) (hm : putL xs (t, id) = ys) :
    Calls Try.prog 9 #[.pointer (some ⟨gq, 0, none⟩), .int .i64 t, .int .i64 id] w fun r w' => r = .returned (.tuple #[]) ∧ St W w' X gq ys ∧ Fr X w w' := by
  subst hm
  obtain ⟨v, hq, h2, h3⟩ := h.h
  refine (Put_at w W.heap.size gq v xs hq h.below.size h.srt hl t id).mono ?_
  rintro r w' ⟨rfl, g⟩
  exact ⟨rfl, Got.st h.below h.xlt hq h2 h3 (putL_srt h.srt _) g⟩
theorem srt_sub {xs ys : List It} (h : Srt xs) (hs : ys.Sublist xs) : Srt ys := by
  rw [srt_iff] at *
  exact h.sublist hs
theorem Drop_st {W w : World} {X : Nat → Prop} {gq : Nat} {xs : List It} (h : St W w X gq xs) (hl : xs.length ≤ 1000) (id : Int) (ys : List It) (hm : left id xs = ys) :
    Calls Try.prog 12 #[.pointer (some ⟨gq, 0, none⟩), .int .i64 id] w fun r w' => r = .returned (.int .i64 ((xs.length : Int) - ys.length)) ∧ St W w' X gq ys ∧ Fr X w w' := by
  subst hm
  obtain ⟨v, hq, h2, h3⟩ := h.h
  refine (Drop_at w W.heap.size gq v xs hq h.below.size hl id).mono ?_
  rintro r w' ⟨rfl, g⟩
  exact ⟨rfl, Got.st h.below h.xlt hq h2 h3 (srt_sub h.srt List.filter_sublist) g⟩
theorem Due_st {W w : World} {X : Nat → Prop} {gq : Nat} {xs : List It} (h : St W w X gq xs) (hl : xs.length ≤ 1000) (t : Int) (k : Nat) (hk : CaQ.due t xs = k) :
    Calls Try.prog 10 #[.pointer (some ⟨gq, 0, none⟩), .int .i64 t] w fun r w' => ∃ vo, r = .returned vo ∧ IRow w' w.heap.size vo (ids (xs.take k)) ∧ St W w' X gq (xs.drop k) ∧ Fr X w w' := by
  subst hk
  obtain ⟨v, hq, h2, h3⟩ := h.h
  refine (Due_at w W.heap.size gq v xs hq h.below.size hl t).mono ?_
  rintro r w' ⟨vo, rfl, hi, g⟩
  exact ⟨vo, rfl, hi, Got.st h.below h.xlt hq h2 h3 (srt_sub h.srt (List.drop_sublist _ _)) g⟩
theorem Len_st {W w : World} {X : Nat → Prop} {gq : Nat} {xs : List It} (h : St W w X gq xs) (n : Nat) (hn : xs.length = n) :
    Calls Try.prog 11 #[.pointer (some ⟨gq, 0, none⟩)] w fun r w' => r = .returned (.int .i64 n) ∧ Below w.heap.size w w' := by
  subst hn
  obtain ⟨v, hq, h2, h3⟩ := h.h
  exact Len_at w W.heap.size gq v xs hq
theorem Next_st {W w : World} {X : Nat → Prop} {gq : Nat} {xs : List It} (h : St W w X gq xs) (hl : xs.length ≤ 1000) (t : Int) (b : Bool) (ht : nextT xs = t) (hb : decide (0 < xs.length) = b) :
    Calls Try.prog 13 #[.pointer (some ⟨gq, 0, none⟩)] w fun r w' => r = .returned (.tuple #[.int .i64 t, .bool b]) ∧ Below w.heap.size w w' := by
  subst ht hb
  obtain ⟨v, hq, h2, h3⟩ := h.h
  exact Next_at w W.heap.size gq v xs hq hl
/-- A row of whole numbers over a calendar's operation. -/
theorem IRow.fr {X : Nat → Prop} {w w' : World} {B : Nat} {v : Value} {xs : List Int} (h : IRow w B v xs) (hf : Fr X w w') : IRow w' B v xs := by
  refine IRow.move h (fun k hk => ?_)
  obtain ⟨cells, hc⟩ := Go.Proofs.YtbppjaglgbhckaaW.PrintWords.own_typed h k hk
  rw [hf.block k _ hc (.inr ⟨_, _, rfl, by decide, by decide⟩), hc]
set_option maxHeartbeats 1000000 in
set_option maxRecDepth 100000 in
theorem awake_at (w : World) : Calls Try.prog 7 #[] w fun r w' => r = .returned (.bool true) ∧ Below w.heap.size w w' := by
  go_enter Try.func7, Try.ntmps7
  go_wp2_with fail
  refine (New_at w).mono ?_
  rintro e w1 ⟨rfl, rfl⟩
  have S0 := Side.mk (St.start (Below.refl w.heap.size w))
  obtain ⟨gq, hgq⟩ : ∃ gq, gq = w.heap.size := ⟨_, rfl⟩
  rw [← hgq] at S0 ⊢
  clear hgq
  generalize w.alloc _ = w1 at *
  go_wp2_with fail
  refine (Put_st S0.out (by decide) 9 1 [(9, 1)] (by decide)).mono ?_
  rintro e w2 ⟨rfl, s1, -⟩
  have S1 := Side.mk s1
  clear S0 s1
  go_wp2_with fail
  refine (Put_st S1.out (by decide) 5 2 [(5, 2), (9, 1)] (by decide)).mono ?_
  rintro e w3 ⟨rfl, s2, -⟩
  have S2 := Side.mk s2
  clear S1 s2
  go_wp2_with fail
  refine (Next_st S2.out (by decide) 5 true rfl rfl).mono ?_
  rintro e w4 ⟨rfl, hb⟩
  have S3 := Side.mk (S2.out.below' hb)
  clear S2 hb
  go_wp2_with fail
  refine (Due_st S3.out (by decide) 8 1 (by decide)).mono ?_
  rintro e w5 ⟨vo, rfl, hi, s4, -⟩
  have S4 := Side.mk s4
  rcases hi.read with ⟨_, h0⟩ | ⟨g, cap, rfl, _, hg, _, _, hr⟩
  · simp [ids] at h0
  have r0 := hr 0 2 rfl
  clear S3 s4 hi hr
  go_wp2_with fail
  refine (Len_st (S4.out.below' (by (repeat (with_reducible first | exact Below.refl _ _ | apply below_drewN | apply below_drew | apply below_alloc)))) 1 rfl).mono ?_
  rintro e w6 ⟨rfl, hb⟩
  have HB := Side.mk (S4.out.below' hb).below
  clear hb S4
  go_wp2
  go_ret
  exact ⟨rfl, HB.out⟩
end Go.Proofs.Ytbppjaglgbhckaa.CaR

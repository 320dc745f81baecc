/- Package heap, eleventh text: the heap's contracts as laws use them. No condition. -/
import Derived.Test.YtiebpmbongmgkaaHpJ
set_option linter.unusedVariables false
set_option linter.unusedSimpArgs false
namespace Go.Proofs.Ytiebpmbongmgkaa.HpK
open Go.RowKit Go.Proofs.Ytiebpmbongmgkaa.Kit Go.Proofs.Ytiebpmbongmgkaa.Kit3 Go.Proofs.Ytiebpmbongmgkaa.Kit4 HpPlain Go.Maps Go.Proofs.Ytiebpmbongmgkaa.HpA Go.Proofs.Ytiebpmbongmgkaa.HpB Go.Proofs.Ytiebpmbongmgkaa.HpC Go.Proofs.Ytiebpmbongmgkaa.HpD Go.Proofs.Ytiebpmbongmgkaa.HpE Go.Proofs.Ytiebpmbongmgkaa.HpF Go.Proofs.Ytiebpmbongmgkaa.HpG Go.Proofs.Ytiebpmbongmgkaa.HpH Go.Proofs.Ytiebpmbongmgkaa.HpI Go.Proofs.Ytiebpmbongmgkaa.HpJ
/-- A block that no heap's operation turns. -/
def Out (X : Nat → Prop) (k : Nat) (o : Obj) : Prop := X k ∨ ∃ cs t, o = .cells cs t (0, 0) ∧ t ≠ 56 ∧ t ≠ 53
/-- Blocks of other types stay as they are. -/
structure Fr (X : Nat → Prop) (w w' : World) : Prop where
  size : w.heap.size ≤ w'.heap.size
  block : ∀ k o, w.heap[k]? = some o → Out X k o → w'.heap[k]? = some o
theorem Fr.refl (X : Nat → Prop) (w : World) : Fr X w w := ⟨Nat.le_refl _, fun _ _ h _ => h⟩
theorem Fr.trans {X : Nat → Prop} {w w1 w2 : World} (h : Fr X w w1) (k : Fr X w1 w2) : Fr X w w2 := ⟨Nat.le_trans h.size k.size, fun b o e h1 => k.block b o (h.block b o e h1) h1⟩
theorem Fr.below {X : Nat → Prop} {w w' : World} (h : Below w.heap.size w w') : Fr X w w' := ⟨h.size, fun k o e _ => (h.block k (Array.getElem?_eq_some_iff.1 e).1).trans e⟩
structure St (W w : World) (X : Nat → Prop) (gh : Nat) (kind : Int) (m : List It) : Prop where
  below : Below W.heap.size W w
  xlt : ∀ k, X k → k < w.heap.size
  h : ∃ v bm l, HS w W.heap.size gh kind v bm l ∧ Ordered kind (at_ l) l.length ∧ l.Perm m ∧ ∀ k, Foot gh bm v k → ¬ X k
theorem St.nd {W w : World} {X : Nat → Prop} {gh : Nat} {kind : Int} {m : List It} (h : St W w X gh kind m) : (slots m).Nodup := by
  obtain ⟨v, bm, l, h1, h2, h3, h4⟩ := h.h
  exact slots_nodup h3.symm h1.nd
theorem St.sl {W w : World} {X : Nat → Prop} {gh : Nat} {kind : Int} {m : List It} (h : St W w X gh kind m) : ∀ x ∈ m, 0 ≤ x.1 ∧ x.1 < 65536 := by
  obtain ⟨v, bm, l, h1, h2, h3, h4⟩ := h.h
  exact fun x hx => h1.sl x (h3.mem_iff.2 hx)
theorem HS.foot {w : World} {B gh bm : Nat} {kind : Int} {v : Value} {l : List It} (h : HS w B gh kind v bm l) (k : Nat) (hk : Foot gh bm v k) : B ≤ k ∧ k < w.heap.size := by
  obtain ⟨D, hp, _⟩ := h.hp
  rcases hk with rfl | rfl | hk
  · exact ⟨hp.bh, hp.lt⟩
  · exact ⟨hp.bb, hp.map.lt⟩
  · exact ⟨Row.base hp.row k hk.symm, Row.lt hp.row k hk.symm⟩
theorem HS.out {w : World} {B gh bm : Nat} {kind : Int} {v : Value} {l : List It} {X : Nat → Prop} (h : HS w B gh kind v bm l) (hX : ∀ k, Foot gh bm v k → ¬ X k) (k : Nat) (o : Obj) (he : w.heap[k]? = some o) (ho : Out X k o) : ¬ Foot gh bm v k := by
  intro hk
  rcases ho with ho | ⟨cs, t, rfl, h1, h2⟩
  · exact hX k hk ho
  · obtain ⟨D, hp, _⟩ := h.hp
    rcases hk with rfl | rfl | hk
    · rw [hp.box] at he
      simp at he
      exact h2 he.2.symm
    · obtain ⟨es, clock, h3, _⟩ := hp.map
      rw [h3] at he
      cases he
    · obtain ⟨cur, h3⟩ := Row.cells hp.row k hk.symm
      rw [h3] at he
      simp at he
      exact h1 he.2.symm
theorem Got.st {W w w' : World} {X : Nat → Prop} {gh bm : Nat} {kind : Int} {v : Value} {l m : List It} (hb : Below W.heap.size W w) (hx : ∀ k, X k → k < w.heap.size) (h : HS w W.heap.size gh kind v bm l) (hX : ∀ k, Foot gh bm v k → ¬ X k) (g : Got w w' W.heap.size gh kind v bm m) : St W w' X gh kind m ∧ Fr X w w' := by
  obtain ⟨v', l', g1, g2, g3, g4, g5⟩ := g
  refine ⟨⟨hb.trans (Chg.below g4 hb.size (fun k hk => (HS.foot h k hk).1)), fun k hk => Nat.lt_of_lt_of_le (hx k hk) g4.size, v', bm, l', g1, g2, g3, fun k hk hXk => ?_⟩, ⟨g4.size, fun k o he ho => (g4.block k (Array.getElem?_eq_some_iff.1 he).1 (HS.out h hX k o he ho)).trans he⟩⟩
  rcases hk with e | e | e
  · exact hX k (.inl e) hXk
  · exact hX k (.inr (.inl e)) hXk
  · rcases g5 with e2 | ⟨k2, e2, e3⟩
    · exact hX k (.inr (.inr (e.trans e2))) hXk
    · rw [e2] at e
      have := Option.some.inj e
      have := hx k hXk
      omega
theorem St.below' {W w w' : World} {X : Nat → Prop} {gh : Nat} {kind : Int} {m : List It} (h : St W w X gh kind m) (hb : Below w.heap.size w w') : St W w' X gh kind m := by
  obtain ⟨v, bm, l, h1, h2, h3, h4⟩ := h.h
  exact ⟨h.below.trans (hb.mono h.below.size), fun k hk => Nat.lt_of_lt_of_le (h.xlt k hk) hb.size, v, bm, l, h1.below hb, h2, h3, h4⟩
/-- Blocks that are made later are none of the heap's. -/
theorem St.more {W w w' : World} {X : Nat → Prop} {gh : Nat} {kind : Int} {m : List It} (h : St W w X gh kind m) (hb : Below w.heap.size w w') : St W w' (fun k => X k ∨ (w.heap.size ≤ k ∧ k < w'.heap.size)) gh kind m := by
  obtain ⟨v, bm, l, h1, h2, h3, h4⟩ := h.h
  refine ⟨h.below.trans (hb.mono h.below.size), fun k hk => ?_, v, bm, l, h1.below hb, h2, h3, fun k hk hX => ?_⟩
  · rcases hk with hk | hk
    · exact Nat.lt_of_lt_of_le (h.xlt k hk) hb.size
    · exact hk.2
  · rcases hX with hX | hX
    · exact h4 k hk hX
    · have := (HS.foot h1 k hk).2
      omega
/-- Other blocks are written. -/
theorem St.chg {W w w' : World} {X S : Nat → Prop} {gh : Nat} {kind : Int} {m : List It} (h : St W w X gh kind m) (hc : Chg w w' S) (hS : ∀ k, S k → W.heap.size ≤ k) (hx : ∀ (k : Nat) (o : Obj), w.heap[k]? = some o → S k → Out X k o) (hdef : ∀ k, S k → k < w.heap.size) : St W w' X gh kind m := by
  obtain ⟨v, bm, l, h1, h2, h3, h4⟩ := h.h
  have hn : ∀ k, Foot gh bm v k → ¬ S k := fun k hk hs => by
    have hlt := hdef k hs
    exact HS.out h1 h4 k _ (Array.getElem?_eq_getElem hlt) (hx k _ (Array.getElem?_eq_getElem hlt) hs) hk
  refine ⟨h.below.trans (Chg.below hc h.below.size hS), fun k hk => Nat.lt_of_lt_of_le (h.xlt k hk) hc.size, v, bm, l, ⟨?_, h1.nd, h1.sl⟩, h2, h3, h4⟩
  obtain ⟨D, e1, e2⟩ := h1.hp
  exact ⟨D, e1.chg hc hn, e2⟩
theorem St.start {W w : World} (hb : Below W.heap.size W w) (kind : Int) : St W ((w.alloc (.map #[] 0)).alloc (.cells #[.int .i64 kind, .slice none 0 0, .map (some w.heap.size)] 53)) (fun _ => False) (w.heap.size + 1) kind [] :=
  ⟨(hb.alloc hb.size _).alloc (by have := hb.size; simp; omega) _, fun _ h => h.elim, .slice none 0 0, w.heap.size, [], new_hs hb kind, fun j hj hjl => absurd hjl (by simp), List.Perm.refl _, fun _ _ h => h⟩
theorem Put_st {W w : World} {X : Nat → Prop} {gh : Nat} {kind : Int} {m : List It} (h : St W w X gh kind m) (hl : m.length ≤ 90000) (x : It) (hx : 0 ≤ x.1 ∧ x.1 < 65536) (m' : List It) (hm : put m x = m') :
    Calls Try.prog 10 #[.pointer (some ⟨gh, 0, none⟩), .int .i64 x.1, rv x] w fun r w' => r = .returned (.int .i64 0) ∧ St W w' X gh kind m' ∧ Fr X w w' := by
  subst hm
  obtain ⟨v, bm, l, h1, h2, h3, h4⟩ := h.h
  refine (Put_at w W.heap.size gh bm kind v l h1 h.below.size h2 (by rw [h3.length_eq]; exact hl) x).mono ?_
  rintro r w' ⟨rfl, g⟩
  rw [if_neg (by omega)] at g ⊢
  obtain ⟨v', l', g1, g2, g3, g4, g5⟩ := g
  exact ⟨rfl, Got.st h.below h.xlt h1 h4 ⟨v', l', g1, g2, g3.trans (put_perm h3 x), g4, g5⟩⟩
theorem Put_not {W w : World} {X : Nat → Prop} {gh : Nat} {kind : Int} {m : List It} (h : St W w X gh kind m) (hl : m.length ≤ 90000) (x : It) (hx : x.1 < 0 ∨ 65536 ≤ x.1) :
    Calls Try.prog 10 #[.pointer (some ⟨gh, 0, none⟩), .int .i64 x.1, rv x] w fun r w' => r = .returned (.int .i64 2) ∧ St W w' X gh kind m ∧ Fr X w w' := by
  obtain ⟨v, bm, l, h1, h2, h3, h4⟩ := h.h
  refine (Put_at w W.heap.size gh bm kind v l h1 h.below.size h2 (by rw [h3.length_eq]; exact hl) x).mono ?_
  rintro r w' ⟨rfl, g⟩
  rw [if_pos hx] at g ⊢
  obtain ⟨v', l', g1, g2, g3, g4, g5⟩ := g
  exact ⟨rfl, Got.st h.below h.xlt h1 h4 ⟨v', l', g1, g2, g3.trans h3, g4, g5⟩⟩
/-- Who is first, and whether there is one. -/
def Tops (kind : Int) (m : List It) (x : It) (b : Bool) : Prop := (m = [] ∧ x = z ∧ b = false) ∨ (First kind m x ∧ b = true)
theorem Tops.root {kind : Int} {l m : List It} {x : It} {b : Bool} (h : Tops kind m x b) (ho : Ordered kind (at_ l) l.length) (hp : l.Perm m) (hn : (slots m).Nodup) : at_ l 0 = x ∧ decide (0 < l.length) = b := by
  rcases h with ⟨rfl, rfl, rfl⟩ | ⟨h, rfl⟩
  · obtain rfl := hp.eq_nil
    exact ⟨rfl, rfl⟩
  · have h0 : 0 < l.length := by
      rw [hp.length_eq]
      exact List.length_pos_of_mem h.1
    exact ⟨First.unique hn ((first_root ho h0).perm hp) h, decide_eq_true h0⟩
theorem Top_st {W w : World} {X : Nat → Prop} {gh : Nat} {kind : Int} {m : List It} (h : St W w X gh kind m) (hl : m.length ≤ 90000) (x : It) (b : Bool) (hx : Tops kind m x b) :
    Calls Try.prog 12 #[.pointer (some ⟨gh, 0, none⟩)] w fun r w' => r = .returned (.tuple #[.int .i64 x.1, rv x, .bool b]) ∧ St W w' X gh kind m ∧ Below w.heap.size w w' := by
  obtain ⟨v, bm, l, h1, h2, h3, h4⟩ := h.h
  obtain ⟨e1, e2⟩ := hx.root h2 h3 h.nd
  refine (Top_at w W.heap.size gh bm kind v l (by rw [h3.length_eq]; omega) h1).mono ?_
  rintro r w' ⟨rfl, hb⟩
  rw [e1, e2]
  exact ⟨rfl, h.below' hb, hb⟩
theorem Pop_st {W w : World} {X : Nat → Prop} {gh : Nat} {kind : Int} {m : List It} (h : St W w X gh kind m) (hl : m.length ≤ 90000) (x : It) (b : Bool) (hx : Tops kind m x b) (m' : List It) (hm : drop m x.1 = m') :
    Calls Try.prog 15 #[.pointer (some ⟨gh, 0, none⟩)] w fun r w' => r = .returned (.tuple #[.int .i64 x.1, rv x, .bool b]) ∧ St W w' X gh kind m' ∧ Fr X w w' := by
  subst hm
  obtain ⟨v, bm, l, h1, h2, h3, h4⟩ := h.h
  obtain ⟨e1, e2⟩ := hx.root h2 h3 h.nd
  refine (Pop_at w W.heap.size gh bm kind v l h1 h2 (by rw [h3.length_eq]; omega)).mono ?_
  rintro r w' ⟨rfl, g⟩
  rw [e1] at g ⊢
  rw [e2]
  obtain ⟨v', l', g1, g2, g3, g4, g5⟩ := g
  exact ⟨rfl, Got.st h.below h.xlt h1 h4 ⟨v', l', g1, g2, g3.trans (drop_perm h3 _), g4, g5⟩⟩
theorem Drop_st {W w : World} {X : Nat → Prop} {gh : Nat} {kind : Int} {m : List It} (h : St W w X gh kind m) (hl : m.length ≤ 90000) (s : Int) (hs : (Lit.int .i64 s).wf = true) (b : Bool) (hb : hasS m s = b) (m' : List It) (hm : (if b = true then drop m s else m) = m') :
    Calls Try.prog 16 #[.pointer (some ⟨gh, 0, none⟩), .int .i64 s] w fun r w' => r = .returned (.bool b) ∧ St W w' X gh kind m' ∧ Fr X w w' := by
  subst hm
  obtain ⟨v, bm, l, h1, h2, h3, h4⟩ := h.h
  have e : hasS l s = b := by rw [hasS_perm h3]; exact hb
  refine (Drop_at w W.heap.size gh bm kind v l h1 h2 (by rw [h3.length_eq]; omega) s hs).mono ?_
  rintro r w' ⟨rfl, g⟩
  rw [e] at g ⊢
  obtain ⟨v', l', g1, g2, g3, g4, g5⟩ := g
  refine ⟨rfl, Got.st h.below h.xlt h1 h4 ⟨v', l', g1, g2, g3.trans ?_, g4, g5⟩⟩
  cases b
  · exact h3
  · exact drop_perm h3 s
theorem Len_st {W w : World} {X : Nat → Prop} {gh : Nat} {kind : Int} {m : List It} (h : St W w X gh kind m) (n : Nat) (hn : m.length = n) :
    Calls Try.prog 13 #[.pointer (some ⟨gh, 0, none⟩)] w fun r w' => r = .returned (.int .i64 n) ∧ w = w' := by
  obtain ⟨v, bm, l, h1, h2, h3, h4⟩ := h.h
  have := Len_at w W.heap.size gh bm kind v l h1
  rw [h3.length_eq, hn] at this
  exact this
end Go.Proofs.Ytiebpmbongmgkaa.HpK

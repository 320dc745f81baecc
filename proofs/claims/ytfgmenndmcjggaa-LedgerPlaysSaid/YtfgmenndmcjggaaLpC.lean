/- LedgerPlays: what stands between the steps; the model's row made anew without one of it; the search for an id. No condition. -/
import Derived.Test.YtfgmenndmcjggaaLpB
set_option linter.unusedVariables false
set_option linter.unusedSimpArgs false
namespace Go.Proofs.Ytfgmenndmcjggaa.LpC
open Go.RowKit Go.Proofs.Ytfgmenndmcjggaa.Kit Go.Proofs.Ytfgmenndmcjggaa.Kit2 Go.Proofs.Ytfgmenndmcjggaa.Kit3 Go.Proofs.Ytfgmenndmcjggaa.Kit4 Go.Proofs.Ytfgmenndmcjggaa.Kit5 Go.Proofs.Ytfgmenndmcjggaa.LeP Go.Maps Go.Proofs.Ytfgmenndmcjggaa.LeA Go.Proofs.Ytfgmenndmcjggaa.LeF Go.Proofs.Ytfgmenndmcjggaa.LeH Go.Proofs.Ytfgmenndmcjggaa.LeK Go.Proofs.Ytfgmenndmcjggaa.LpA Go.Proofs.Ytfgmenndmcjggaa.LpB
open Go.Proofs.YtfgmenndmcjggaaW.PrintLast
/-- A slot that a later operation of the region writes: as long as that one hasn't been carried out. -/
theorem putSel_offb {b : Nat → Bool} {t : Tmp} {j : Nat} (hj : b j = false) : ∀ {L : List (Nat × Tmp × Value)} {a : Act}, (L.all fun e => !(e.2.1 == t) || (e.1 == j)) = true → (putSel a b L).tmps[t]? = a.tmps[t]?
  | [], _, _ => rfl
  | e :: r, a, h => by
    rw [List.all_cons, Bool.and_eq_true] at h
    unfold putSel
    by_cases hb : b e.1 = true
    · rw [if_pos hb, putSel_offb hj h.2]
      have he : e.2.1 ≠ t := by
        have h1 := h.1
        have h2 : (e.1 == j) = false := by
          cases hh : e.1 == j
          · rfl
          · rw [beq_iff_eq.1 hh, hj] at hb; cases hb
        rw [h2, Bool.or_false] at h1
        simpa using h1
      simp [Act.put, Array.getElem?_setIfInBounds_ne he]
    · rw [if_neg hb]
      exact putSel_offb hj h.2
theorem poffb {b : Nat → Bool} {t : Tmp} {j : Nat} {v : Value} {a a0 : Act} {L : List (Nat × Tmp × Value)} (ha : a = putSel a0 b L) (hj : b j = false) (hd : (L.all fun e => !(e.2.1 == t) || (e.1 == j)) = true) (h : a0.tmps[t]? = some v) : a.tmps[t]? = some v := by
  rw [ha]; exact (putSel_offb hj hd).trans h
/-- The row made anew by two appends. -/
structure Bq (W : World) (xs zs : List Wt) (b : Nat → Bool) (p0 : Nat) (va vc vd : Value) (w : World) : Prop where
  bel : Below W.heap.size W w
  r0 : b 0 = true → b 4 = false → WRow w W.heap.size (.slice (some ⟨p0, 0, none⟩) 0 0) []
  r4 : b 4 = true → b 9 = false → WRow w W.heap.size va xs
  r9 : b 9 = true → WRow w W.heap.size vc (xs ++ zs)
  r10 : b 10 = true → vd = vc
section
variable {W w w3 : World} {xs zs : List Wt} {b : Nat → Bool} {p0 : Nat} {va vc vd v' : Value}
theorem Bq.start : Bq W xs zs (fun _ => false) p0 va vc vd W := ⟨Below.refl _ _, fun h => (by cases h), fun h => (by cases h), fun h => (by cases h), fun h => (by cases h)⟩
theorem Bq.low (h : Bq W xs zs b p0 va vc vd w) (i : Nat) (hi : (i != 0 && i != 4 && i != 9 && i != 10) = true) : Bq W xs zs (up b i) p0 va vc vd w := by
  simp only [Bool.and_eq_true, bne_iff_ne, ne_eq] at hi
  obtain ⟨⟨⟨h0, h4⟩, h9⟩, h10⟩ := hi
  have e0 := up_ne (b := b) (i := i) (j := 0) (fun e => h0 e.symm)
  have e4 := up_ne (b := b) (i := i) (j := 4) (fun e => h4 e.symm)
  have e9 := up_ne (b := b) (i := i) (j := 9) (fun e => h9 e.symm)
  have e10 := up_ne (b := b) (i := i) (j := 10) (fun e => h10 e.symm)
  constructor
  · exact h.bel
  · rw [e0, e4]; exact h.r0
  · rw [e4, e9]; exact h.r4
  · rw [e9]; exact h.r9
  · rw [e10]; exact h.r10
theorem Bq.s0 (h : Bq W xs zs b p0 va vc vd w) (h4 : b 4 = false) (h9 : b 9 = false) (h10 : b 10 = false) : Bq W xs zs (up b 0) w.heap.size va vc vd (w.alloc (.cells #[] 42)) := by
  have e0 := up_self b 0
  have e4 := up_ne (b := b) (i := 0) (j := 4) (by decide)
  have e9 := up_ne (b := b) (i := 0) (j := 9) (by decide)
  have e10 := up_ne (b := b) (i := 0) (j := 10) (by decide)
  constructor
  · exact h.bel.alloc h.bel.size _
  · exact fun _ _ => ⟨rfl, .inr ⟨w.heap.size, 0, #[], rfl, h.bel.size, heap_alloc_new w _, Nat.le_refl _, Nat.zero_le _, rfl, rfl⟩⟩
  · rw [e4, h4]; exact fun e => by cases e
  · rw [e9, h9]; exact fun e => by cases e
  · rw [e10, h10]; exact fun e => by cases e
theorem Bq.s4 (h : Bq W xs zs b p0 va vc vd w) (h0 : b 0 = true) (h4 : b 4 = false) (h9 : b 9 = false) (h10 : b 10 = false) (hr : WRow w3 W.heap.size v' xs) (hg : w.grownBy w3 (some p0)) : Bq W xs zs (up b 4) p0 v' vc vd w3 := by
  have e4 := up_self b 4
  have e9 := up_ne (b := b) (i := 4) (j := 9) (by decide)
  have e10 := up_ne (b := b) (i := 4) (j := 10) (by decide)
  have hp0 : W.heap.size ≤ p0 := (h.r0 h0 h4).base p0 rfl
  constructor
  · exact bel_grown h.bel h.bel.size hg (fun k e => by cases e; exact hp0)
  · rw [e4]; exact fun _ e => by cases e
  · exact fun _ _ => hr
  · rw [e9, h9]; exact fun e => by cases e
  · rw [e10, h10]; exact fun e => by cases e
theorem Bq.s9 (h : Bq W xs zs b p0 va vc vd w) (h4 : b 4 = true) (h9 : b 9 = false) (h10 : b 10 = false) (hr : WRow w3 W.heap.size v' (xs ++ zs)) (hg : w.grownBy w3 va.ownBlock) : Bq W xs zs (up b 9) p0 va v' vd w3 := by
  have e4 := up_ne (b := b) (i := 9) (j := 4) (by decide)
  have e9 := up_self b 9
  have e10 := up_ne (b := b) (i := 9) (j := 10) (by decide)
  constructor
  · exact bel_grown h.bel h.bel.size hg (fun k e => (h.r4 h4 h9).base k e.symm)
  · rw [e4, h4]; exact fun _ e => by cases e
  · rw [e9]; exact fun _ e => by cases e
  · exact fun _ => hr
  · rw [e10, h10]; exact fun e => by cases e
theorem Bq.s10 (h : Bq W xs zs b p0 va vc vd w) : Bq W xs zs (up b 10) p0 va vc vc w := by
  have e0 := up_ne (b := b) (i := 10) (j := 0) (by decide)
  have e4 := up_ne (b := b) (i := 10) (j := 4) (by decide)
  have e9 := up_ne (b := b) (i := 10) (j := 9) (by decide)
  constructor
  · exact h.bel
  · rw [e0, e4]; exact h.r0
  · rw [e4, e9]; exact h.r4
  · rw [e9]; exact h.r9
  · exact fun _ => rfl
end
/-- The search for an id: among the first j. -/
def Fd (ms : List Wt) (id : Int) (j : Nat) (q : Int) : Prop :=
  (q = -1 ∧ ∀ (i : Nat) (x : Wt), i < j → ms[i]? = some x → x.1 ≠ id) ∨ ∃ (i : Nat) (x : Wt), q = (i : Int) ∧ i < j ∧ ms[i]? = some x ∧ x.1 = id
theorem Fd.start (ms : List Wt) (id : Int) : Fd ms id 0 (-1) := .inl ⟨rfl, fun i x h => by omega⟩
theorem Fd.hit {ms : List Wt} {id : Int} {j : Nat} {x : Wt} (hx : ms[j]? = some x) (he : x.1 = id) : Fd ms id (j + 1) j := .inr ⟨j, x, rfl, by omega, hx, he⟩
theorem Fd.miss {ms : List Wt} {id : Int} {j : Nat} {q : Int} {x : Wt} (h : Fd ms id j q) (hx : ms[j]? = some x) (he : x.1 ≠ id) : Fd ms id (j + 1) q := by
  rcases h with ⟨h1, h2⟩ | ⟨i, y, h1, h2, h3, h4⟩
  · refine .inl ⟨h1, fun i y hi hy => ?_⟩
    by_cases e : i = j
    · subst e
      rw [hx] at hy
      cases hy
      exact he
    · exact h2 i y (by omega) hy
  · exact .inr ⟨i, y, h1, by omega, h3, h4⟩
theorem Fd.range {ms : List Wt} {id : Int} {j : Nat} {q : Int} (h : Fd ms id j q) : -1 ≤ q ∧ q < j := by
  rcases h with ⟨h1, _⟩ | ⟨i, y, h1, h2, _⟩ <;> omega
theorem Fd.has {ms : List Wt} {id : Int} {q : Int} (h : Fd ms id ms.length q) : LeP.has ms id = decide (0 ≤ q) := by
  rcases h with ⟨rfl, h2⟩ | ⟨i, y, rfl, h2, h3, h4⟩
  · rw [show decide (0 ≤ (-1 : Int)) = false from rfl, Bool.eq_false_iff]
    intro e
    obtain ⟨m, hm, he⟩ := has_iff.1 e
    obtain ⟨i, hi, rfl⟩ := List.getElem_of_mem hm
    exact h2 i _ hi (List.getElem?_eq_getElem hi) he
  · rw [decide_eq_true (by omega)]
    exact has_iff.2 ⟨y, List.mem_of_getElem? h3, h4⟩
theorem drp_at {ms : List Wt} (hn : (ms.map (·.1)).Nodup) {i : Nat} {x : Wt} (hx : ms[i]? = some x) : drp ms x.1 = ms.take i ++ ms.drop (i + 1) := by
  obtain ⟨hil, hix⟩ := List.getElem?_eq_some_iff.1 hx
  have hs : ms = ms.take i ++ x :: ms.drop (i + 1) := by
    conv => lhs; rw [← List.take_append_drop i ms]
    rw [List.drop_eq_getElem_cons hil, hix]
  have hn2 := hn
  rw [hs, List.map_append, List.map_cons, List.nodup_append] at hn2
  obtain ⟨_, h2, h3⟩ := hn2
  rw [List.nodup_cons] at h2
  conv => lhs; rw [hs]
  unfold drp
  rw [List.filter_append, List.filter_cons_of_neg (by simp)]
  congr 1
  · refine List.filter_eq_self.2 fun y hy => ?_
    simp only [bne_iff_ne, ne_eq]
    exact h3 _ (List.mem_map.2 ⟨y, hy, rfl⟩) _ (by simp)
  · refine List.filter_eq_self.2 fun y hy => ?_
    simp only [bne_iff_ne, ne_eq]
    exact fun e => h2.1 (List.mem_map.2 ⟨y, hy, e⟩)
theorem Fd.drp {ms : List Wt} {id : Int} {q : Int} (h : Fd ms id ms.length q) (hn : (ms.map (·.1)).Nodup) (i : Nat) (hq : q = (i : Int)) : i < ms.length ∧ LeP.drp ms id = ms.take i ++ ms.drop (i + 1) := by
  rcases h with ⟨h1, _⟩ | ⟨i', y, h1, h2, h3, h4⟩
  · omega
  · obtain rfl : i' = i := by omega
    subst h4
    exact ⟨h2, drp_at hn h3⟩
theorem Fd.keep {ms : List Wt} {id : Int} {q : Int} (h : Fd ms id ms.length q) (hq : q < 0) : LeP.drp ms id = ms := by
  have := h.has
  rw [decide_eq_false (by omega), Bool.eq_false_iff] at this
  exact List.filter_eq_self.2 fun m hm => by
    simp only [bne_iff_ne, ne_eq]
    exact fun e => this (has_iff.2 ⟨m, hm, e⟩)
/-- A block of another type is none of the ledger's. -/
theorem St.out {W w : World} {gh bl bm n : Nat} {k : Int} {ms : List Wt} (h : St W w gh bl bm n k ms) {b : Nat} {cs : Array Value} {t : TypeId} (he : w.heap[b]? = some (.cells cs t (0, 0))) (ht : t ≠ 54) : ¬ Foot gh bl bm b := by
  obtain ⟨Dl, Dm, h1, h2⟩ := h.ls.h
  obtain ⟨es, clock, hl, _⟩ := h1.ml
  obtain ⟨es', clock', hm, _⟩ := h1.mm
  rintro (rfl | rfl | rfl)
  · rw [h1.box] at he; simp at he; exact ht he.2.symm
  · rw [hl] at he; cases he
  · rw [hm] at he; cases he
/-- The ledger and the model's row. -/
structure Pl (W w : World) (gh bl bm n : Nat) (k : Int) (v : Value) (ms : List Wt) : Prop where
  st : St W w gh bl bm n k ms
  row : WRow w W.heap.size v ms
section
variable {W w w' : World} {gh bl bm n : Nat} {k : Int} {v : Value} {ms ms' : List Wt}
theorem Pl.below (h : Pl W w gh bl bm n k v ms) (hb : Below w.heap.size w w') : Pl W w' gh bl bm n k v ms := ⟨h.st.below' hb, h.row.below hb⟩
theorem Pl.row_keeps (h : Pl W w gh bl bm n k v ms) (hc : Chg w w' (Foot gh bl bm)) : WRow w' W.heap.size v ms := h.row.chg hc (fun j hj => by
  obtain ⟨cur, h1⟩ := h.row.cells j hj
  exact St.out h.st h1 (by decide))
theorem box_keeps (h : St W w gh bl bm n k ms) (hc : Chg w w' (Foot gh bl bm)) {b : Nat} {cs : Array Value} {t : TypeId} (he : w.heap[b]? = some (.cells cs t (0, 0))) (ht : t ≠ 54) : w'.heap[b]? = some (.cells cs t (0, 0)) :=
  (hc.block b (Array.getElem?_eq_some_iff.1 he).1 (St.out h he ht)).trans he
/-- The model's row grows. -/
theorem Pl.grow {xs : List Wt} {v' : Value} (h : WRow w W.heap.size v xs) (hs : St W w gh bl bm n k ms) (hr : WRow w' W.heap.size v' ms) (hg : w.grownBy w' v.ownBlock) : Pl W w' gh bl bm n k v' ms := by
  refine ⟨hs.chg (S := fun b => some b = v.ownBlock) ⟨hg.os, hg.tape, hg.output, hg.size, fun b hb hn => hg.block b hb hn⟩ (fun b hb => h.base b hb.symm) (fun b hf hb => ?_), hr⟩
  obtain ⟨cur, h1⟩ := h.cells b hb.symm
  exact St.out hs h1 (by decide) hf
end
/-- What the law expects of Add. -/
theorem want_add (k : Int) (ms : List Wt) (i e p : Int) : addV k ms i e p = if LeP.has ms i = true ∧ ¬ canV k ms e p = 2 then 4 else canV k ms e p := by
  unfold addV
  by_cases hm : may e p
  · have h2 : ¬ canV k ms e p = 2 := by
      unfold canV
      rw [if_neg (not_not_intro hm)]
      split
      · decide
      · split <;> decide
    rw [if_neg (not_not_intro hm)]
    by_cases hh : LeP.has ms i = true
    · rw [if_pos hh, if_pos ⟨hh, h2⟩]
    · rw [if_neg hh, if_neg (fun e => hh e.1)]
  · have h2 : canV k ms e p = 2 := by unfold canV; rw [if_pos hm]
    rw [if_pos hm, h2, if_neg (fun e => e.2 rfl)]
abbrev DK : List CK := [.i .i64, .i .i64, .i .i64, .i .i64]
theorem rowD {W w : World} {a : Option Addr} {len : Nat} {V : Nat → Nat → Value} (h : InRow DK W a len V) (hb : Below W.heap.size W w) (i : Nat) (hi : i < len) :
    ∃ b off d0 d1 d2 d3, a = some ⟨b, off, none⟩ ∧ b < w.heap.size ∧ w.cell? ⟨b, off + i * 4, none⟩ = some (.int .i64 d0) ∧ w.cell? ⟨b, off + i * 4 + 1, none⟩ = some (.int .i64 d1) ∧ w.cell? ⟨b, off + i * 4 + 2, none⟩ = some (.int .i64 d2) ∧ w.cell? ⟨b, off + i * 4 + 3, none⟩ = some (.int .i64 d3) ∧
      (kv d0).wf = true ∧ (kv d1).wf = true ∧ (kv d2).wf = true ∧ (kv d3).wf = true := by
  have z0 := h.int 0 .i64 rfl i hi
  have z1 := h.int 1 .i64 rfl i hi
  have z2 := h.int 2 .i64 rfl i hi
  have z3 := h.int 3 .i64 rfl i hi
  obtain ⟨b, off, hp, hcs⟩ := h
  obtain ⟨rfl, hbl⟩ := hp (by omega)
  have c0 := (hcs i hi 0 _ rfl).1
  have c1 := (hcs i hi 1 _ rfl).1
  have c2 := (hcs i hi 2 _ rfl).1
  have c3 := (hcs i hi 3 _ rfl).1
  rw [z0.1] at c0
  rw [z1.1] at c1
  rw [z2.1] at c2
  rw [z3.1] at c3
  refine ⟨b, off, _, _, _, _, rfl, Nat.lt_of_lt_of_le hbl hb.size, ?_, ?_, ?_, ?_, z0.2, z1.2, z2.2, z3.2⟩
  · rw [(bcell hb).1 b _ hbl]; simpa using c0
  · rw [(bcell hb).1 b _ hbl, show off + i * 4 + 1 = off + (i * 4 + 1) by omega]; simpa using c1
  · rw [(bcell hb).1 b _ hbl, show off + i * 4 + 2 = off + (i * 4 + 2) by omega]; simpa using c2
  · rw [(bcell hb).1 b _ hbl, show off + i * 4 + 3 = off + (i * 4 + 3) by omega]; simpa using c3
end Go.Proofs.Ytfgmenndmcjggaa.LpC

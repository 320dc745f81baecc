/- Package heap, first text: rows of items of one's own; the heap's state in memory. No condition. -/
import Derived.Test.YtiebpmbongmgkaaProg
import Derived.Test.YtiebpmbongmgkaaKit
import Derived.Test.YtiebpmbongmgkaaKit3
import Derived.Test.YtiebpmbongmgkaaRankC
import Derived.Test.YtiebpmbongmgkaaHpPlain
import Derived.Test.YtiebpmbongmgkaaWInvWords
import Derived.Maps.AppendAt
import Derived.Maps.OwnSet
import Derived.OwnWalk
import Derived.StillTactics
import Derived.Deep.Cut
import Derived.Laws.IdiomCopy
set_option linter.unusedVariables false
set_option linter.unusedSimpArgs false
namespace Go.Proofs.Ytiebpmbongmgkaa.HpA
open Go.RowKit Go.Proofs.Ytiebpmbongmgkaa.Kit Go.Proofs.Ytiebpmbongmgkaa.Kit3 HpPlain Go.Maps
open Go.Proofs.YtiebpmbongmgkaaW.PrintWords (setCells_row setCells_far setCells_same)
def cl (x : It) : List Value := [.int .i64 x.1, .int .i64 x.2.1, .int .i64 x.2.2.1, .int .i64 x.2.2.2.1, .int .i64 x.2.2.2.2]
abbrev vl (x : It) : Value := .agg #[.int .i64 x.1, .int .i64 x.2.1, .int .i64 x.2.2.1, .int .i64 x.2.2.2.1, .int .i64 x.2.2.2.2]
def flat (xs : List It) : List Value := xs.flatMap cl
theorem cl_len (x : It) : (cl x).length = 5 := rfl
theorem flat_cons (x : It) (r : List It) : flat (x :: r) = cl x ++ flat r := rfl
theorem flat_len (xs : List It) : (flat xs).length = xs.length * 5 := by
  induction xs with
  | nil => rfl
  | cons x r ih => rw [flat_cons, List.length_append, ih, cl_len, List.length_cons]; omega
theorem flat_app (xs ys : List It) : flat (xs ++ ys) = flat xs ++ flat ys := by simp [flat]
theorem flat_at (xs : List It) (j r : Nat) (x : It) (h : xs[j]? = some x) (hr : r < 5) : (flat xs)[j * 5 + r]? = (cl x)[r]? := by
  induction xs generalizing j with
  | nil => simp at h
  | cons y t ih =>
    rw [flat_cons]
    rcases j with _ | j
    · simp at h
      subst h
      rw [List.getElem?_append_left (by rw [cl_len]; omega), show 0 * 5 + r = r by omega]
    · simp at h
      rw [List.getElem?_append_right (by rw [cl_len]; omega), cl_len, show (j + 1) * 5 + r - 5 = j * 5 + r by omega]
      exact ih j h
theorem flat_take (xs : List It) (k : Nat) : (flat xs).take (k * 5) = flat (xs.take k) := by
  induction xs generalizing k with
  | nil => simp [flat]
  | cons x r ih =>
    rcases k with _ | k
    · simp [flat]
    · rw [flat_cons, List.take_succ_cons, flat_cons, List.take_append, cl_len, show (k + 1) * 5 - 5 = k * 5 by omega, ih, List.take_of_length_le (by rw [cl_len]; omega)]
theorem flat_drop (xs : List It) (k : Nat) : (flat xs).drop (k * 5) = flat (xs.drop k) := by
  induction xs generalizing k with
  | nil => simp [flat]
  | cons x r ih =>
    rcases k with _ | k
    · simp
    · rw [flat_cons, List.drop_succ_cons, List.drop_append, cl_len, show (k + 1) * 5 - 5 = k * 5 by omega, ih, List.drop_eq_nil_of_le (by rw [cl_len]; omega), List.nil_append]
theorem flat_set (ys : List It) (k : Nat) (x : It) (hk : k < ys.length) : flat (ys.set k x) = (flat ys).take (k * 5) ++ cl x ++ (flat ys).drop (k * 5 + 5) := by
  rw [List.set_eq_take_append_cons_drop, if_pos hk, flat_app, flat_take, show k * 5 + 5 = (k + 1) * 5 by omega, flat_drop, List.append_assoc, flat_cons]
theorem flat_one (xs : List It) (v : Value) (h : v ∈ flat xs) : v.oneCell' = true := by
  simp only [flat, List.mem_flatMap] at h
  obtain ⟨x, _, hx⟩ := h
  simp [cl] at hx
  rcases hx with rfl | rfl | rfl | rfl | rfl <;> rfl
theorem take_take' {α : Type} (l : List α) {a b : Nat} (h : a ≤ b) : (l.take b).take a = l.take a := by rw [List.take_take, Nat.min_eq_left h]
theorem splice {α : Type} (l vs : List α) (o N : Nat) (h : o + vs.length ≤ N) (hl : N ≤ l.length) : (l.take o ++ vs ++ l.drop (o + vs.length)).take N = (l.take N).take o ++ vs ++ (l.take N).drop (o + vs.length) := by
  have h1 : (l.take o ++ vs).length = o + vs.length := by rw [List.length_append, List.length_take]; omega
  rw [List.take_append, h1, List.take_of_length_le (by omega), take_take' l (by omega), List.drop_take]
/-- The items that lie in a row of one's own: from block B on. -/
def Row (w : World) (B : Nat) (v : Value) (xs : List It) : Prop := w.ownsRow B 56 5 v xs.length (flat xs)
theorem Row.nil (w : World) (B : Nat) : Row w B (.slice none 0 0) [] := ⟨rfl, .inl ⟨rfl, rfl⟩⟩
theorem Row.read {w : World} {B : Nat} {v : Value} {xs : List It} (h : Row w B v xs) : (v = .slice none 0 0 ∧ xs = []) ∨ ∃ g cap, v = .slice (some ⟨g, 0, none⟩) xs.length cap ∧ B ≤ g ∧ g < w.heap.size ∧ xs.length ≤ cap ∧ cap ≤ maxLen ∧
    (∃ cur, w.heap[g]? = some (.cells cur 56 (0, 0)) ∧ cur.size = cap * 5) ∧ ∀ j x, xs[j]? = some x → ∀ r v, (cl x)[r]? = some v → w.cell? ⟨g, j * 5 + r, none⟩ = some v := by
  obtain ⟨hl, ⟨rfl, h0⟩ | ⟨g, cap, cur, rfl, hB, hg, hn, hm, hs, ht⟩⟩ := h
  · exact .inl ⟨rfl, List.eq_nil_of_length_eq_zero h0⟩
  · refine .inr ⟨g, cap, rfl, hB, (Array.getElem?_eq_some_iff.1 hg).1, hn, hm, ⟨cur, hg, hs⟩, fun j x hj r v hr => ?_⟩
    have hjl : j < xs.length := (List.getElem?_eq_some_iff.1 hj).1
    have hrl : r < 5 := (List.getElem?_eq_some_iff.1 hr).1
    have hf := flat_at xs j r x hj hrl
    rw [cell_of_row w g _ cur _ (0, 0) hg]
    have e : ∀ i, i < xs.length * 5 → cur[i]? = (flat xs)[i]? := fun i hi => by
      rw [← ht, List.getElem?_take, if_pos hi]; simp
    rw [e _ (by omega), hf, hr]
theorem Row.move {w w' : World} {B : Nat} {v : Value} {xs : List It} (h : Row w B v xs) (hm : ∀ k, v.ownBlock = some k → w'.heap[k]? = w.heap[k]?) : Row w' B v xs := Go.Proofs.YtiebpmbongmgkaaW.PrintWords.own_move h hm
theorem Row.lt {w : World} {B : Nat} {v : Value} {xs : List It} (h : Row w B v xs) (k : Nat) (hk : v.ownBlock = some k) : k < w.heap.size := by
  rcases h.read with ⟨rfl, _⟩ | ⟨g, cap, rfl, hB, hg, _⟩
  · simp [Value.ownBlock] at hk
  · simp [Value.ownBlock] at hk; omega
theorem Row.base {w : World} {B : Nat} {v : Value} {xs : List It} (h : Row w B v xs) (k : Nat) (hk : v.ownBlock = some k) : B ≤ k := by
  rcases h.read with ⟨rfl, _⟩ | ⟨g, cap, rfl, hB, hg, _⟩
  · simp [Value.ownBlock] at hk
  · simp [Value.ownBlock] at hk; omega
theorem Row.below {w w' : World} {B : Nat} {v : Value} {xs : List It} (h : Row w B v xs) (hb : Below w.heap.size w w') : Row w' B v xs := Row.move h (fun k hk => hb.block k (Row.lt h k hk))
theorem Row.chg {w w' : World} {B : Nat} {v : Value} {xs : List It} {S : Nat → Prop} (h : Row w B v xs) (hc : Chg w w' S) (hS : ∀ k, v.ownBlock = some k → ¬ S k) : Row w' B v xs := Row.move h (fun k hk => hc.block k (Row.lt h k hk) (hS k hk))
theorem Row.cells {w : World} {B : Nat} {v : Value} {xs : List It} (h : Row w B v xs) (k : Nat) (hk : v.ownBlock = some k) : ∃ cur, w.heap[k]? = some (.cells cur 56 (0, 0)) := by
  obtain ⟨cells, hc⟩ := Go.Proofs.YtiebpmbongmgkaaW.PrintWords.own_typed h k hk
  exact ⟨cells, hc⟩
theorem Row.one {w : World} {B : Nat} {v : Value} {xs : List It} (h : Row w B v xs) : v.cells.toList = [v] ∧ v.oneCell' = true := by
  rcases h.read with ⟨rfl, _⟩ | ⟨g, cap, rfl, _⟩ <;> exact ⟨rfl, rfl⟩
theorem Row.shape {w : World} {B : Nat} {v : Value} {xs : List It} (h : Row w B v xs) : ∃ a cap, v = .slice a xs.length cap := by
  rcases h.read with ⟨rfl, rfl⟩ | ⟨g, cap, rfl, _⟩
  · exact ⟨none, 0, rfl⟩
  · exact ⟨_, cap, rfl⟩
/-- One item written. -/
theorem Row.write {w : World} {B g n cap : Nat} {ys : List It} (h : Row w B (.slice (some ⟨g, 0, none⟩) n cap) ys) (k : Nat) (x : It) (hk : k < ys.length) :
    Row (w.setCells g (k * 5) (cl x)) B (.slice (some ⟨g, 0, none⟩) n cap) (ys.set k x) := by
  obtain ⟨hl, ⟨h0, _⟩ | ⟨g', cap', cur, hv, hB, hg, hn, hm, hs, ht⟩⟩ := h
  · simp at h0
  · simp at hv
    obtain ⟨rfl, rfl, rfl⟩ := hv
    obtain ⟨cur', h1, h2, h3⟩ := setCells_row (cl x) (k * 5) w cur hg (by rw [cl_len]; omega)
    refine ⟨by rw [flat_len], .inr ⟨g, cap, cur', by simp, hB, h1, by simpa using hn, hm, by rw [h2, hs], ?_⟩⟩
    have hcl : cur.toList.length = cap * 5 := by rw [Array.length_toList]; exact hs
    rw [h3, List.length_set, flat_set ys k x hk, ← ht]
    exact splice _ _ _ _ (by rw [cl_len]; omega) (by omega)
/-- Cut short. -/
theorem Row.cut {w : World} {B g n cap : Nat} {ys : List It} (h : Row w B (.slice (some ⟨g, 0, none⟩) n cap) ys) (i : Nat) (hi : i ≤ ys.length) : Row w B (.slice (some ⟨g, 0, none⟩) i cap) (ys.take i) := by
  obtain ⟨hl, ⟨h0, _⟩ | ⟨g', cap', cur, hv, hB, hg, hn, hm, hs, ht⟩⟩ := h
  · simp at h0
  · simp at hv
    obtain ⟨rfl, rfl, rfl⟩ := hv
    have hti : (ys.take i).length = i := by rw [List.length_take]; omega
    refine ⟨by rw [flat_len], .inr ⟨g, cap, cur, by rw [hti], hB, hg, by omega, hm, hs, ?_⟩⟩
    rw [hti, ← flat_take, ← ht, take_take' _ (by omega)]
theorem chg_cells (w : World) (g o : Nat) (vs : List Value) : Chg w (w.setCells g o vs) (fun k => k = g) := by
  obtain ⟨h1, h2, h3, h4⟩ := setCells_same g vs o w
  exact ⟨h1, h2, h3, by omega, fun k _ hk => setCells_far vs o k hk⟩
theorem Chg.of_grown {w w' : World} {r : Option Nat} (h : w.grownBy w' r) : Chg w w' (fun k => some k = r) := ⟨h.os, h.tape, h.output, h.size, fun k hk hn => h.block k hk hn⟩
theorem map_chg {H : Type} {w w' : World} {P : Program} {k : TypeId} {R : Value → Option (DataW H × List MemPlace)} {b n : Nat} {D : DataW H} {S : Nat → Prop} (h : w.ownsMap P k R b n D) (hc : Chg w w' S) (hb : ¬ S b) : w'.ownsMap P k R b n D := by
  have hlt := h.lt
  obtain ⟨es, clock, h1, r⟩ := h
  exact ⟨es, clock, (hc.block b hlt hb).trans h1, r⟩
theorem map_tight {H : Type} {w : World} {P : Program} {k : TypeId} {R : Value → Option (DataW H × List MemPlace)} {b n : Nat} {D : DataW H} (h : w.ownsMap P k R b n D) : w.ownsMap P k R b (Maps.size D) D := by
  obtain ⟨es, clock, h1, F, hs, rfl⟩ := h
  exact ⟨es, clock, h1, F, by simp [Maps.size, length_sorted], rfl⟩
theorem info_it : ∃ i, Try.prog.info? 56 = some i ∧ i.zero = some (.agg #[.int .i64 0, .int .i64 0, .int .i64 0, .int .i64 0, .int .i64 0]) ∧ i.size = 5 ∧ i.bytes = 40 := by
  have h : (Try.prog.info? 56).map (fun i => (i.zero, i.size, i.bytes)) = some (some (.agg #[.int .i64 0, .int .i64 0, .int .i64 0, .int .i64 0, .int .i64 0]), 5, 40) := by kernel_rfl
  obtain ⟨i, hi, he⟩ := Option.map_eq_some_iff.1 h
  simp only [Prod.mk.injEq] at he
  exact ⟨i, hi, he.1, he.2.1, he.2.2⟩
theorem keyed : Keyed Try.prog 3 := int_keyed Try.underlying3
theorem zeroE (w : World) : (zeroValue 3).run Try.prog w = .ok (.int .i64 0) w := by kernel_rfl
/-- The map of places. -/
abbrev DD := DataW Unit
abbrev kv (s : Int) : Lit := .int .i64 s
/-- What the map tells of a list. -/
structure Idx (l : List It) (D : DD) : Prop where
  tidy : Tidy D
  has : ∀ s : Int, (kv s).wf = true → Maps.has D (kv s) = hasS l s
  at_ : ∀ i, i < l.length → ∀ z, D.atKey (kv (at_ l i).1) z = .lit (.int .i64 i)
  size : Maps.size D = l.length
/-- A heap in memory. -/
structure Hp (w : World) (B gh : Nat) (kind : Int) (v : Value) (bm n : Nat) (l : List It) (D : DD) : Prop where
  box : w.heap[gh]? = some (.cells #[.int .i64 kind, v, .map (some bm)] 53 (0, 0))
  row : Row w B v l
  map : w.ownsMap Try.prog 3 (plainElem Try.prog 3) bm n D
  bh : B ≤ gh
  bb : B ≤ bm
theorem Hp.lt {w : World} {B gh bm n : Nat} {kind : Int} {v : Value} {l : List It} {D : DD} (h : Hp w B gh kind v bm n l D) : gh < w.heap.size := (Array.getElem?_eq_some_iff.1 h.box).1
theorem Hp.c0 {w : World} {B gh bm n : Nat} {kind : Int} {v : Value} {l : List It} {D : DD} (h : Hp w B gh kind v bm n l D) : w.cell? ⟨gh, 0, none⟩ = some (.int .i64 kind) := cell_of_row w gh 0 _ _ (0, 0) h.box
theorem Hp.c1 {w : World} {B gh bm n : Nat} {kind : Int} {v : Value} {l : List It} {D : DD} (h : Hp w B gh kind v bm n l D) : w.cell? ⟨gh, 1, none⟩ = some v := cell_of_row w gh 1 _ _ (0, 0) h.box
theorem Hp.c2 {w : World} {B gh bm n : Nat} {kind : Int} {v : Value} {l : List It} {D : DD} (h : Hp w B gh kind v bm n l D) : w.cell? ⟨gh, 2, none⟩ = some (.map (some bm)) := cell_of_row w gh 2 _ _ (0, 0) h.box
theorem Hp.nm {w : World} {B gh bm n : Nat} {kind : Int} {v : Value} {l : List It} {D : DD} (h : Hp w B gh kind v bm n l D) : bm ≠ gh ∧ v.ownBlock ≠ some gh ∧ v.ownBlock ≠ some bm := by
  obtain ⟨es, clock, h1, _⟩ := h.map
  have h2 := h.box
  refine ⟨fun e => ?_, fun e => ?_, fun e => ?_⟩
  · rw [e] at h1; rw [h1] at h2; cases h2
  · obtain ⟨cur, h3⟩ := Row.cells h.row _ e
    rw [h3] at h2
    simp at h2
  · obtain ⟨cur, h3⟩ := Row.cells h.row _ e
    rw [h3] at h1
    cases h1
/-- Where a heap lies. -/
def Foot (gh bm : Nat) (v : Value) (k : Nat) : Prop := k = gh ∨ k = bm ∨ some k = v.ownBlock
theorem Hp.below {w w' : World} {B gh bm n : Nat} {kind : Int} {v : Value} {l : List It} {D : DD} (h : Hp w B gh kind v bm n l D) (hb : Below w.heap.size w w') : Hp w' B gh kind v bm n l D :=
  ⟨(hb.block gh h.lt).trans h.box, Row.below h.row hb, map_chg h.map (Chg.of_below (S := fun _ => False) hb) (fun e => e), h.bh, h.bb⟩
theorem Hp.chg {w w' : World} {B gh bm n : Nat} {kind : Int} {v : Value} {l : List It} {D : DD} {S : Nat → Prop} (h : Hp w B gh kind v bm n l D) (hc : Chg w w' S) (hS : ∀ k, Foot gh bm v k → ¬ S k) : Hp w' B gh kind v bm n l D :=
  ⟨(hc.block gh h.lt (hS _ (.inl rfl))).trans h.box, Row.chg h.row hc (fun k hk => hS k (.inr (.inr hk.symm))), map_chg h.map hc (hS _ (.inr (.inl rfl))), h.bh, h.bb⟩
end Go.Proofs.Ytiebpmbongmgkaa.HpA

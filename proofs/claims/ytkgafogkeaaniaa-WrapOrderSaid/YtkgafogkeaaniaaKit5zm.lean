/- Words of my own: rows of one's own whose elements have k cells each. No program in sight. -/
import Derived.Test.YtkgafogkeaaniaaDvAzm
import Derived.Test.YtkgafogkeaaniaaKit3zm
import Derived.Test.YtkgafogkeaaniaaWWordszm
import Derived.Maps.AppendAt
import Derived.OwnWalk
import Derived.Laws.IdiomCopy
set_option linter.unusedVariables false
namespace Go.Proofs.Ytkgafogkeaaniaa.Kit5
open Go.RowKit Go.Proofs.Ytkgafogkeaaniaa.Kit Go.Proofs.Ytkgafogkeaaniaa.Kit3
open Go.Proofs.YtkgafogkeaaniaaW.PrintWords (setCells_row setCells_far setCells_same)
structure El {α : Type} (k : Nat) (c : α → List Value) : Prop where
  pos : 0 < k
  len : ∀ x, (c x).length = k
  one : ∀ x, ∀ v ∈ c x, v.oneCell' = true
section
variable {α : Type} {T k : Nat} {c : α → List Value}
def gflat (c : α → List Value) (xs : List α) : List Value := xs.flatMap c
theorem gflat_cons (x : α) (r : List α) : gflat c (x :: r) = c x ++ gflat c r := rfl
theorem gflat_app (xs ys : List α) : gflat c (xs ++ ys) = gflat c xs ++ gflat c ys := by simp [gflat]
theorem gflat_len (E : El k c) (xs : List α) : (gflat c xs).length = xs.length * k := by
  induction xs with
  | nil => simp [gflat]
  | cons x r ih => rw [gflat_cons, List.length_append, ih, E.len, List.length_cons, Nat.add_mul, Nat.one_mul, Nat.add_comm]
theorem gflat_at (E : El k c) (xs : List α) (j r : Nat) (x : α) (h : xs[j]? = some x) (hr : r < k) : (gflat c xs)[j * k + r]? = (c x)[r]? := by
  induction xs generalizing j with
  | nil => simp at h
  | cons y t ih =>
    rw [gflat_cons]
    rcases j with _ | j
    · simp at h
      subst h
      rw [List.getElem?_append_left (by rw [E.len]; omega), Nat.zero_mul, Nat.zero_add]
    · simp at h
      rw [Nat.add_mul, Nat.one_mul, List.getElem?_append_right (by rw [E.len]; omega), E.len, show j * k + k + r - k = j * k + r by omega]
      exact ih j h
theorem gflat_take (E : El k c) (xs : List α) (i : Nat) : (gflat c xs).take (i * k) = gflat c (xs.take i) := by
  induction xs generalizing i with
  | nil => simp [gflat]
  | cons x r ih =>
    rcases i with _ | i
    · simp [gflat]
    · rw [gflat_cons, List.take_succ_cons, gflat_cons, List.take_append, E.len, Nat.add_mul, Nat.one_mul, Nat.add_sub_cancel, ih, List.take_of_length_le (by rw [E.len]; omega)]
theorem gflat_drop (E : El k c) (xs : List α) (i : Nat) : (gflat c xs).drop (i * k) = gflat c (xs.drop i) := by
  induction xs generalizing i with
  | nil => simp [gflat]
  | cons x r ih =>
    rcases i with _ | i
    · simp
    · rw [gflat_cons, List.drop_succ_cons, List.drop_append, E.len, Nat.add_mul, Nat.one_mul, Nat.add_sub_cancel, ih, List.drop_eq_nil_of_le (by rw [E.len]; omega), List.nil_append]
theorem gflat_set (E : El k c) (ys : List α) (i : Nat) (x : α) (hi : i < ys.length) : gflat c (ys.set i x) = (gflat c ys).take (i * k) ++ c x ++ (gflat c ys).drop (i * k + k) := by
  rw [List.set_eq_take_append_cons_drop, if_pos hi, gflat_app, gflat_take E, show i * k + k = (i + 1) * k by rw [Nat.add_mul, Nat.one_mul], gflat_drop E, List.append_assoc, gflat_cons]
theorem gflat_one (E : El k c) (xs : List α) (v : Value) (h : v ∈ gflat c xs) : v.oneCell' = true := by
  simp only [gflat, List.mem_flatMap] at h
  obtain ⟨x, _, hx⟩ := h
  exact E.one x v hx
theorem take_take' {β : Type} (l : List β) {a b : Nat} (h : a ≤ b) : (l.take b).take a = l.take a := by rw [List.take_take, Nat.min_eq_left h]
theorem splice {β : Type} (l vs : List β) (o N : Nat) (h : o + vs.length ≤ N) (hl : N ≤ l.length) : (l.take o ++ vs ++ l.drop (o + vs.length)).take N = (l.take N).take o ++ vs ++ (l.take N).drop (o + vs.length) := by
  have h1 : (l.take o ++ vs).length = o + vs.length := by rw [List.length_append, List.length_take]; omega
  rw [List.take_append, h1, List.take_of_length_le (by omega), take_take' l (by omega), List.drop_take]
/-- The elements that lie in a row of one's own: from block B on. -/
def GRow (T k : Nat) (c : α → List Value) (w : World) (B : Nat) (v : Value) (xs : List α) : Prop := w.ownsRow B T k v xs.length (gflat c xs)
theorem GRow.nil (w : World) (B : Nat) : GRow T k c w B (.slice none 0 0) [] := ⟨by simp [gflat], .inl ⟨rfl, rfl⟩⟩
theorem GRow.read (E : El k c) {w : World} {B : Nat} {v : Value} {xs : List α} (h : GRow T k c w B v xs) : (v = .slice none 0 0 ∧ xs = []) ∨ ∃ g cap, v = .slice (some ⟨g, 0, none⟩) xs.length cap ∧ B ≤ g ∧ g < w.heap.size ∧ xs.length ≤ cap ∧ cap ≤ maxLen ∧
    (∃ cur, w.heap[g]? = some (.cells cur T (0, 0)) ∧ cur.size = cap * k) ∧ ∀ j x, xs[j]? = some x → ∀ r v, (c x)[r]? = some v → w.cell? ⟨g, j * k + r, none⟩ = some v := by
  obtain ⟨hl, ⟨rfl, h0⟩ | ⟨g, cap, cur, rfl, hB, hg, hn, hm, hs, ht⟩⟩ := h
  · exact .inl ⟨rfl, List.eq_nil_of_length_eq_zero h0⟩
  · refine .inr ⟨g, cap, rfl, hB, (Array.getElem?_eq_some_iff.1 hg).1, hn, hm, ⟨cur, hg, hs⟩, fun j x hj r v hr => ?_⟩
    have hjl : j < xs.length := (List.getElem?_eq_some_iff.1 hj).1
    have hrl : r < k := by have := (List.getElem?_eq_some_iff.1 hr).1; rw [E.len] at this; exact this
    have hf := gflat_at E xs j r x hj hrl
    rw [cell_of_row w g _ cur _ (0, 0) hg]
    have hm' : (j + 1) * k ≤ xs.length * k := Nat.mul_le_mul_right k hjl
    rw [Nat.add_mul, Nat.one_mul] at hm'
    have e : ∀ i, i < xs.length * k → cur[i]? = (gflat c xs)[i]? := fun i hi => by
      rw [← ht, List.getElem?_take, if_pos hi]; simp
    rw [e _ (by omega), hf, hr]
theorem GRow.move {w w' : World} {B : Nat} {v : Value} {xs : List α} (h : GRow T k c w B v xs) (hm : ∀ j, v.ownBlock = some j → w'.heap[j]? = w.heap[j]?) : GRow T k c w' B v xs := Go.Proofs.YtkgafogkeaaniaaW.PrintWords.own_move h hm
theorem GRow.cells {w : World} {B : Nat} {v : Value} {xs : List α} (h : GRow T k c w B v xs) (j : Nat) (hj : v.ownBlock = some j) : ∃ cur, w.heap[j]? = some (.cells cur T (0, 0)) := Go.Proofs.YtkgafogkeaaniaaW.PrintWords.own_typed h j hj
theorem GRow.lt {w : World} {B : Nat} {v : Value} {xs : List α} (h : GRow T k c w B v xs) (j : Nat) (hj : v.ownBlock = some j) : j < w.heap.size := by
  obtain ⟨cur, h1⟩ := h.cells j hj
  exact (Array.getElem?_eq_some_iff.1 h1).1
theorem GRow.base {w : World} {B : Nat} {v : Value} {xs : List α} (h : GRow T k c w B v xs) (j : Nat) (hj : v.ownBlock = some j) : B ≤ j := by
  obtain ⟨hl, ⟨rfl, h0⟩ | ⟨g, cap, cur, rfl, hB, hg, hn, hm, hs, ht⟩⟩ := h
  · simp [Value.ownBlock] at hj
  · simp [Value.ownBlock] at hj; omega
theorem GRow.lower {w : World} {B B' : Nat} {v : Value} {xs : List α} (h : GRow T k c w B v xs) (hb : B' ≤ B) : GRow T k c w B' v xs := by
  obtain ⟨hl, h0 | ⟨g, cap, cur, rfl, hB, hg, hn, hm, hs, ht⟩⟩ := h
  · exact ⟨hl, .inl h0⟩
  · exact ⟨hl, .inr ⟨g, cap, cur, rfl, by omega, hg, hn, hm, hs, ht⟩⟩
theorem GRow.below {w w' : World} {B : Nat} {v : Value} {xs : List α} (h : GRow T k c w B v xs) (hb : Below w.heap.size w w') : GRow T k c w' B v xs := h.move (fun j hj => hb.block j (h.lt j hj))
theorem GRow.chg {w w' : World} {B : Nat} {v : Value} {xs : List α} {S : Nat → Prop} (h : GRow T k c w B v xs) (hc : Chg w w' S) (hS : ∀ j, v.ownBlock = some j → ¬ S j) : GRow T k c w' B v xs := h.move (fun j hj => hc.block j (h.lt j hj) (hS j hj))
theorem GRow.one (E : El k c) {w : World} {B : Nat} {v : Value} {xs : List α} (h : GRow T k c w B v xs) : v.cells.toList = [v] ∧ v.oneCell' = true := by
  rcases h.read E with ⟨rfl, _⟩ | ⟨g, cap, rfl, _⟩ <;> exact ⟨rfl, rfl⟩
theorem GRow.shape (E : El k c) {w : World} {B : Nat} {v : Value} {xs : List α} (h : GRow T k c w B v xs) : ∃ a cap, v = .slice a xs.length cap ∧ cap ≤ maxLen ∧ xs.length ≤ cap := by
  rcases h.read E with ⟨rfl, rfl⟩ | ⟨g, cap, rfl, _, _, h1, h2, _⟩
  · exact ⟨none, 0, rfl, by simp, by simp⟩
  · exact ⟨_, cap, rfl, h2, h1⟩
/-- One element written. -/
theorem GRow.write (E : El k c) {w : World} {B g n cap : Nat} {ys : List α} (h : GRow T k c w B (.slice (some ⟨g, 0, none⟩) n cap) ys) (i : Nat) (x : α) (hi : i < ys.length) :
    GRow T k c (w.setCells g (i * k) (c x)) B (.slice (some ⟨g, 0, none⟩) n cap) (ys.set i x) := by
  obtain ⟨hl, ⟨h0, _⟩ | ⟨g', cap', cur, hv, hB, hg, hn, hm, hs, ht⟩⟩ := h
  · simp at h0
  · simp at hv
    obtain ⟨rfl, rfl, rfl⟩ := hv
    have hm' : (i + 1) * k ≤ ys.length * k := Nat.mul_le_mul_right k hi
    have hm2 : ys.length * k ≤ cap * k := Nat.mul_le_mul_right k hn
    rw [Nat.add_mul, Nat.one_mul] at hm'
    obtain ⟨cur', h1, h2, h3⟩ := setCells_row (c x) (i * k) w cur hg (by rw [E.len]; omega)
    refine ⟨by rw [gflat_len E], .inr ⟨g, cap, cur', by simp, hB, h1, by simpa using hn, hm, by rw [h2, hs], ?_⟩⟩
    have hcl : cur.toList.length = cap * k := by rw [Array.length_toList]; exact hs
    rw [h3, List.length_set, gflat_set E ys i x hi, ← ht]
    have hsp := splice cur.toList (c x) (i * k) (ys.length * k) (by rw [E.len]; omega) (by omega)
    rw [E.len] at hsp ⊢
    exact hsp
/-- A part of an element written. -/
theorem GRow.part (E : El k c) {w : World} {B g n cap : Nat} {ys : List α} (h : GRow T k c w B (.slice (some ⟨g, 0, none⟩) n cap) ys) (i r : Nat) (x y : α) (vs : List Value) (hi : ys[i]? = some x) (hr : r + vs.length ≤ k) (hy : c y = (c x).take r ++ vs ++ (c x).drop (r + vs.length)) :
    GRow T k c (w.setCells g (i * k + r) vs) B (.slice (some ⟨g, 0, none⟩) n cap) (ys.set i y) := by
  obtain ⟨hil, hix⟩ := List.getElem?_eq_some_iff.1 hi
  have hsplit : gflat c ys = gflat c (ys.take i) ++ c x ++ gflat c (ys.drop (i + 1)) := by
    conv => lhs; rw [← List.take_append_drop i ys]
    rw [gflat_app, List.drop_eq_getElem_cons hil, hix, gflat_cons, List.append_assoc]
  have hA : (gflat c (ys.take i)).length = i * k := by rw [gflat_len E, List.length_take]; congr 1; omega
  have hX : (c x).length = k := E.len x
  have hB : gflat c (ys.set i y) = gflat c (ys.take i) ++ c y ++ gflat c (ys.drop (i + 1)) := by
    rw [List.set_eq_take_append_cons_drop, if_pos hil, gflat_app, gflat_cons, List.append_assoc]
  have h1 : (gflat c ys).take (i * k + r) = gflat c (ys.take i) ++ (c x).take r := by
    rw [hsplit, List.append_assoc, List.take_append, hA, List.take_of_length_le (by omega), show i * k + r - i * k = r by omega, List.take_append_of_le_length (by omega)]
  have h2 : (gflat c ys).drop (i * k + r + vs.length) = (c x).drop (r + vs.length) ++ gflat c (ys.drop (i + 1)) := by
    rw [hsplit, List.append_assoc, List.drop_append, hA, List.drop_eq_nil_of_le (by omega), List.nil_append, show i * k + r + vs.length - i * k = r + vs.length by omega, List.drop_append_of_le_length (by omega)]
  have h3 : gflat c (ys.set i y) = (gflat c ys).take (i * k + r) ++ vs ++ (gflat c ys).drop (i * k + r + vs.length) := by
    rw [hB, hy, h1, h2]; simp [List.append_assoc]
  obtain ⟨hl, ⟨h0, _⟩ | ⟨g', cap', cur, hv, hB', hg, hn, hm, hs, ht⟩⟩ := h
  · simp at h0
  · simp at hv
    obtain ⟨rfl, rfl, rfl⟩ := hv
    have hm' : (i + 1) * k ≤ ys.length * k := Nat.mul_le_mul_right k hil
    have hm2 : ys.length * k ≤ cap * k := Nat.mul_le_mul_right k hn
    rw [Nat.add_mul, Nat.one_mul] at hm'
    obtain ⟨cur', g1, g2, g3⟩ := setCells_row vs (i * k + r) w cur hg (by omega)
    refine ⟨by rw [gflat_len E], .inr ⟨g, cap, cur', by simp, hB', g1, by simpa using hn, hm, by rw [g2, hs], ?_⟩⟩
    have hcl : cur.toList.length = cap * k := by rw [Array.length_toList]; exact hs
    rw [g3, List.length_set, h3, ← ht]
    exact splice cur.toList vs (i * k + r) (ys.length * k) (by omega) (by omega)
/-- Cut short. -/
theorem GRow.cut (E : El k c) {w : World} {B g n cap : Nat} {ys : List α} (h : GRow T k c w B (.slice (some ⟨g, 0, none⟩) n cap) ys) (i : Nat) (hi : i ≤ ys.length) : GRow T k c w B (.slice (some ⟨g, 0, none⟩) i cap) (ys.take i) := by
  obtain ⟨hl, ⟨h0, _⟩ | ⟨g', cap', cur, hv, hB, hg, hn, hm, hs, ht⟩⟩ := h
  · simp at h0
  · simp at hv
    obtain ⟨rfl, rfl, rfl⟩ := hv
    have hti : (ys.take i).length = i := by rw [List.length_take]; omega
    have hm2 : i * k ≤ ys.length * k := Nat.mul_le_mul_right k hi
    refine ⟨by rw [gflat_len E], .inr ⟨g, cap, cur, by rw [hti], hB, hg, by omega, hm, hs, ?_⟩⟩
    rw [hti, ← gflat_take E, ← ht, take_take' _ (by omega)]
theorem Chg.of_grown {w w' : World} {r : Option Nat} (h : w.grownBy w' r) : Chg w w' (fun k => some k = r) := ⟨h.os, h.tape, h.output, h.size, fun k hk hn => h.block k hk hn⟩
theorem run_gapp (E : El k c) {P : Program} {S : Nat} {z : Value} {bytes : Nat} (hS : P.underlying S = some (.slice T)) (hT : (P.info? T).map (fun i => (i.zero, i.size, i.bytes)) = some (some z, k, bytes)) (hz : z.cells.size = k) (hby : bytes ≤ 1024)
    {w : World} {B : Nat} {v : Value} {xs : List α} (ty : TypeId) (h : GRow T k c w B v xs) (ad : Addr) (m : Nat) (ys : List α) (hy : ∀ j x, ys[j]? = some x → ∀ r u, (c x)[r]? = some u → w.cell? (ad.add (j * k + r)) = some u) (hl : xs.length + ys.length ≤ 1000000) (hB : B ≤ w.heap.size) :
    ∃ v' w', (Builtin.append_ #[S, S] ty #[v, .slice (some ad) ys.length m]).run P w = .ok v' w' ∧ GRow T k c w' B v' (xs ++ ys) ∧ w.grownBy w' v.ownBlock ∧ (v' = .slice none 0 0 ↔ v = .slice none 0 0 ∧ ys.length = 0) ∧ (v'.ownBlock = v.ownBlock ∨ v'.ownBlock = some w.heap.size) := by
  obtain ⟨i, hi, he⟩ := Option.map_eq_some_iff.1 hT
  simp only [Prod.mk.injEq] at he
  obtain ⟨v', w', h1, h2, h3, h4, h5⟩ := run_append_own_at (P := P) w B S ty T i z k bytes hS hi he.1 he.2.1 he.2.2 hz E.pos v xs.length (gflat c xs) h ad ys.length m (gflat c ys) (gflat_len E ys)
    (by
      intro j u hj
      have hjl := (List.getElem?_eq_some_iff.1 hj).1
      rw [gflat_len E] at hjl
      have hq : j / k < ys.length := (Nat.div_lt_iff_lt_mul E.pos).2 hjl
      have hr : j % k < k := Nat.mod_lt _ E.pos
      have hx := List.getElem?_eq_getElem hq
      have e : j / k * k + j % k = j := by rw [Nat.mul_comm]; exact Nat.div_add_mod j k
      have := gflat_at E ys (j / k) (j % k) _ hx hr
      rw [e, hj] at this
      have h := hy (j / k) _ hx (j % k) u this.symm
      rw [e] at h
      exact h)
    (fun u hu => gflat_one E ys u hu) (by simp only [maxLen]; omega) (by
      have : (xs.length + ys.length) * bytes ≤ 1000000 * 1024 := Nat.mul_le_mul hl hby
      omega) hB
  refine ⟨v', w', h1, ?_, h3, h4, h5⟩
  unfold GRow
  rw [List.length_append, gflat_app]
  exact h2
theorem exec_app {P : Program} {S : Nat} {w w' : World} {o : Oper} {a : Act} {v v' z : Value} {s x : Operand} (ho : o.op = .call { callee := .builtin .append, args := #[s, x], argTypes := #[S, S] }) (hs : a.eval s = v) (hx : a.eval x = z)
    (hr : (Builtin.append_ #[S, S] o.type #[v, z]).run P w = .ok v' w') : (execOp a.eval o).run P w = .ok (.value v') w' := by
  unfold execOp
  simp only [ho, resolve, invoke, builtin, Sem.run_bind, Sem.run_pure, Result.andThen_ok, List.map_toArray, List.map_cons, List.map_nil, hs, hx, hr]
end
end Go.Proofs.Ytkgafogkeaaniaa.Kit5

/- RankSorts: the reference's row, and the row that comes in. No condition. -/
import Derived.Test.YtmjgadhknliiaaaSoM
import Derived.Test.YtmjgadhknliiaaaKit2
import Derived.Test.YtmjgadhknliiaaaOwnOrders
import Derived.Laws.OwnMore
set_option linter.unusedVariables false
set_option linter.unusedSimpArgs false
namespace Go.Proofs.Ytmjgadhknliiaaa.SoN
open Go.RowKit Go.Proofs.Ytmjgadhknliiaaa.Kit Go.Proofs.Ytmjgadhknliiaaa.Kit2 Go.Proofs.Ytmjgadhknliiaaa.Kit4 Go.Proofs.Ytmjgadhknliiaaa.Kit5 Go.Proofs.Ytmjgadhknliiaaa.Rank Go.Proofs.Ytmjgadhknliiaaa.SoA Go.Proofs.Ytmjgadhknliiaaa.SoM SoPlain
open Go.Proofs.YtmjgadhknliiaaaW.PrintLast
/-- A slot that a later operation of the region writes: as long as that one hasn't been carried out. -/
theorem putSel_offb {b : Nat → Bool} {t : Tmp} {j : Nat} (hj : b j = false) : ∀ {L : List (Nat × Tmp × Value)} {a : Act}, (L.all fun e => !(e.2.1 == t) || (e.1 == j)) = true → (putSel a b L).tmps[t]? = a.tmps[t]?
  | [], _, _ => rfl
  | e :: r, a, h => by
    rw [List.all_cons, Bool.and_eq_true] at h
    unfold putSel
    by_cases hb : b e.1 = true
    · rw [if_pos hb, putSel_offb hj h.2]
      have he : e.2.1 ≠ t := by
        have h1 := h.1
        have h2 : (e.1 == j) = false := by
          cases hh : e.1 == j
          · rfl
          · rw [beq_iff_eq.1 hh, hj] at hb; cases hb
        rw [h2, Bool.or_false] at h1
        simpa using h1
      simp [Act.put, Array.getElem?_setIfInBounds_ne he]
    · rw [if_neg hb]
      exact putSel_offb hj h.2
theorem poffb {b : Nat → Bool} {t : Tmp} {j : Nat} {v : Value} {a a0 : Act} {L : List (Nat × Tmp × Value)} (ha : a = putSel a0 b L) (hj : b j = false) (hd : (L.all fun e => !(e.2.1 == t) || (e.1 == j)) = true) (h : a0.tmps[t]? = some v) : a.tmps[t]? = some v := by
  rw [ha]; exact (putSel_offb hj hd).trans h
/-- A part of a row, as a slice says. -/
def Sp (w : World) (v : Value) (ys : List R) : Prop := (v = .slice none 0 0 ∧ ys = []) ∨ ∃ g off n c, v = .slice (some ⟨g, off, none⟩) n c ∧ n = ys.length ∧ g < w.heap.size ∧ ∀ (j r : Nat) (x : R) (u : Value), ys[j]? = some x → (rcl x)[r]? = some u → w.cell? ⟨g, off + (j * 4 + r), none⟩ = some u
theorem Sp.below {w w' : World} {v : Value} {ys : List R} (h : Sp w v ys) (hb : Below w.heap.size w w') : Sp w' v ys := by
  rcases h with h | ⟨g, off, n, c, h1, h2, h3, h4⟩
  · exact .inl h
  · exact .inr ⟨g, off, n, c, h1, h2, Nat.lt_of_lt_of_le h3 hb.size, fun j r x u hj hu => (hb.cell (p := ⟨g, off + (j * 4 + r), none⟩) h3).trans (h4 j r x u hj hu)⟩
theorem Sp.nil (w : World) : Sp w (.slice none 0 0) [] := .inl ⟨rfl, rfl⟩
theorem Sp.zero (w : World) (g off c : Nat) (hg : g < w.heap.size) : Sp w (.slice (some ⟨g, off, none⟩) 0 c) [] := .inr ⟨g, off, 0, c, rfl, rfl, hg, fun j r x u hj hu => by simp at hj⟩
theorem Sp.take {w : World} {B g len c : Nat} {ms : List R} (h : FRow w B (.slice (some ⟨g, 0, none⟩) len c) ms) (n c' : Nat) (hn : n ≤ ms.length) : Sp w (.slice (some ⟨g, 0, none⟩) n c') (ms.take n) := by
  rcases h.read E4 with ⟨h, _⟩ | ⟨g', cap, hv, h1, h2, h3, h4, _, h5⟩
  · simp at h
  · simp at hv
    obtain ⟨rfl, rfl, rfl⟩ := hv
    refine .inr ⟨g, 0, n, c', rfl, by rw [List.length_take]; omega, h2, fun j r x u hj hu => ?_⟩
    rw [List.getElem?_take] at hj
    split at hj
    · rw [Nat.zero_add]; exact h5 j x hj r u hu
    · cases hj
theorem Sp.drop {w : World} {B g len c : Nat} {ms : List R} (h : FRow w B (.slice (some ⟨g, 0, none⟩) len c) ms) (n c' : Nat) (hn : n ≤ ms.length) : Sp w (.slice (some ⟨g, n * 4, none⟩) (ms.length - n) c') (ms.drop n) := by
  rcases h.read E4 with ⟨h, _⟩ | ⟨g', cap, hv, h1, h2, h3, h4, _, h5⟩
  · simp at h
  · simp at hv
    obtain ⟨rfl, rfl, rfl⟩ := hv
    refine .inr ⟨g, n * 4, _, c', rfl, by rw [List.length_drop], h2, fun j r x u hj hu => ?_⟩
    rw [List.getElem?_drop] at hj
    rw [show n * 4 + (j * 4 + r) = (n + j) * 4 + r by omega]
    exact h5 (n + j) x hj r u hu
theorem run_fapp {w : World} {B : Nat} {v : Value} {xs : List R} (ty : TypeId) (h : FRow w B v xs) {sv : Value} {ys : List R} (hs : Sp w sv ys) (hl : xs.length + ys.length ≤ 1000000) (hB : B ≤ w.heap.size) :
    ∃ v' w', (Builtin.append_ #[37, 37] ty #[v, sv]).run Try.prog w = .ok v' w' ∧ FRow w' B v' (xs ++ ys) ∧ w.grownBy w' v.ownBlock ∧ (v'.ownBlock = v.ownBlock ∨ v'.ownBlock = some w.heap.size) := by
  rcases hs with ⟨rfl, rfl⟩ | ⟨g, off, n, c, rfl, rfl, hg, hc⟩
  · obtain ⟨i, hi, he⟩ := Option.map_eq_some_iff.1 infoF
    refine ⟨v, w, run_append_owned_none (P := Try.prog) w B 37 ty 23 i 4 Try.underlying37 hi v _ _ h, by rw [List.append_nil]; exact h, ⟨rfl, rfl, rfl, Nat.le_refl _, fun _ _ _ => rfl⟩, .inl rfl⟩
  · obtain ⟨v', w', p1, p2, p3, _, p5⟩ := run_gapp E4 Try.underlying37 infoF rfl (by decide) ty h ⟨g, off, none⟩ c ys (fun j x hj r u hu => by
      have := hc j r x u hj hu
      rw [show (⟨g, off, none⟩ : Addr).add (j * 4 + r) = ⟨g, off + (j * 4 + r), none⟩ by simp [Addr.add]; try omega]
      exact this) hl hB
    exact ⟨v', w', p1, p2, p3, p5⟩
theorem sp1 {w : World} {p : Nat} {d : R} (h : At1 w p d) : Sp w (.slice (some ⟨p, 0, none⟩) 1 1) [d] := .inr ⟨p, 0, 1, 1, rfl, rfl, h.lt, fun j r x u hj hu => by
  have := h.cell j x hj r u hu
  rw [show (⟨p, 0, none⟩ : Addr).add (j * 4 + r) = ⟨p, 0 + (j * 4 + r), none⟩ by simp [Addr.add]; try omega] at this
  exact this⟩
/-! ### the row that comes in -/
abbrev DK : List CK := [.i .i64, .i .i64, .i .i64, .i .i64]
def Y (V : Nat → Nat → Value) (i : Nat) : R := ⟨intOf (V i 0), intOf (V i 1), intOf (V i 2), intOf (V i 3)⟩
def ls (V : Nat → Nat → Value) (n : Nat) : List R := (List.range n).map (Y V)
theorem ls_len (V : Nat → Nat → Value) (n : Nat) : (ls V n).length = n := by simp [ls]
theorem ls_at (V : Nat → Nat → Value) (n i : Nat) (h : i < n) : at_ (ls V n) i = Y V i := by
  unfold at_ ls
  rw [List.getD_eq_getElem?_getD, List.getElem?_map, List.getElem?_range h]
  rfl
theorem ls_more (V : Nat → Nat → Value) (n : Nat) : ls V (n + 1) = ls V n ++ [Y V n] := by simp [ls, List.range_succ]
theorem row4 {W w : World} {a : Option Addr} {len : Nat} {V : Nat → Nat → Value} (h : InRow DK W a len V) (hb : Below W.heap.size W w) (i : Nat) (hi : i < len) :
    ∃ g off, a = some ⟨g, off, none⟩ ∧ g < w.heap.size ∧ w.cell? ⟨g, off + i * 4, none⟩ = some (.int .i64 (Y V i).d) ∧ w.cell? ⟨g, off + i * 4 + 1, none⟩ = some (.int .i64 (Y V i).b) ∧ w.cell? ⟨g, off + i * 4 + 2, none⟩ = some (.int .i64 (Y V i).g) ∧ w.cell? ⟨g, off + i * 4 + 3, none⟩ = some (.int .i64 (Y V i).i) := by
  have z0 := h.int 0 .i64 rfl i hi
  have z1 := h.int 1 .i64 rfl i hi
  have z2 := h.int 2 .i64 rfl i hi
  have z3 := h.int 3 .i64 rfl i hi
  obtain ⟨b, off, hp, hcs⟩ := h
  obtain ⟨rfl, hbl⟩ := hp (by omega)
  have c0 := (hcs i hi 0 _ rfl).1
  have c1 := (hcs i hi 1 _ rfl).1
  have c2 := (hcs i hi 2 _ rfl).1
  have c3 := (hcs i hi 3 _ rfl).1
  rw [z0.1] at c0
  rw [z1.1] at c1
  rw [z2.1] at c2
  rw [z3.1] at c3
  exact ⟨b, off, rfl, Nat.lt_of_lt_of_le hbl hb.size, (hb.cell (p := ⟨b, off + i * 4, none⟩) hbl).trans c0, (hb.cell (p := ⟨b, off + i * 4 + 1, none⟩) hbl).trans c1, (hb.cell (p := ⟨b, off + i * 4 + 2, none⟩) hbl).trans c2, (hb.cell (p := ⟨b, off + i * 4 + 3, none⟩) hbl).trans c3⟩
theorem FRow.cells {w : World} {B n c : Nat} {a : Option Addr} {xs : List R} (h : FRow w B (.slice a n c) xs) {i : Nat} (hi : i < xs.length) : ∃ g, a = some ⟨g, 0, none⟩ ∧ g < w.heap.size ∧ w.cell? ⟨g, i * 4, none⟩ = some (.int .i64 (at_ xs i).d) ∧ w.cell? ⟨g, i * 4 + 1, none⟩ = some (.int .i64 (at_ xs i).b) ∧ w.cell? ⟨g, i * 4 + 2, none⟩ = some (.int .i64 (at_ xs i).g) ∧ w.cell? ⟨g, i * 4 + 3, none⟩ = some (.int .i64 (at_ xs i).i) := by
  obtain ⟨g, rfl, _, hg, _, _, hr⟩ := h.get E4 (by rintro rfl; simp at hi)
  have hx := at_get hi
  exact ⟨g, rfl, hg, hr i _ hx 0 _ rfl, hr i _ hx 1 _ rfl, hr i _ hx 2 _ rfl, hr i _ hx 3 _ rfl⟩
theorem RRow.cells {w : World} {B n c : Nat} {a : Option Addr} {xs : List R} (h : RRow w B (.slice a n c) xs) {i : Nat} (hi : i < xs.length) : ∃ g, a = some ⟨g, 0, none⟩ ∧ g < w.heap.size ∧ w.cell? ⟨g, i * 4, none⟩ = some (.int .i64 (at_ xs i).d) ∧ w.cell? ⟨g, i * 4 + 1, none⟩ = some (.int .i64 (at_ xs i).b) ∧ w.cell? ⟨g, i * 4 + 2, none⟩ = some (.int .i64 (at_ xs i).g) ∧ w.cell? ⟨g, i * 4 + 3, none⟩ = some (.int .i64 (at_ xs i).i) := by
  obtain ⟨g, rfl, _, hg, _, _, hr⟩ := h.get E4 (by rintro rfl; simp at hi)
  have hx := at_get hi
  exact ⟨g, rfl, hg, hr i _ hx 0 _ rfl, hr i _ hx 1 _ rfl, hr i _ hx 2 _ rfl, hr i _ hx 3 _ rfl⟩
theorem rless_lt (x y : R) : rless x y = lt x y := (Go.Proofs.Ytmjgadhknliiaaa.OwnOrders.rcmp_less x y).symm
/-! ### the reference's order -/
structure Ws (f : Nat → R) (i : Nat) (ws : List R) : Prop where
  len : ws.length = i
  stb : Stb lt i f (at_ ws)
  srt : Srt lt (at_ ws) 0 i
theorem Ws.nil (f : Nat → R) : Ws f 0 [] := ⟨rfl, ⟨id, id, fun p h => by omega, fun p h => by omega, fun p q h1 h2 => by omega⟩, fun p q h1 h2 h3 => by omega⟩
/-- How far one goes ahead. -/
structure Dw (f : Nat → R) (i j : Nat) (ws : List R) : Prop where
  le : j ≤ i
  hi : ∀ q, j ≤ q → q < i → lt (f i) (at_ ws q) = true
theorem at_ins (ws : List R) (x : R) (j p : Nat) (hj : j ≤ ws.length) : at_ (ws.take j ++ [x] ++ ws.drop j) p = if p < j then at_ ws p else if p = j then x else at_ ws (p - 1) := by
  unfold at_
  rw [List.getD_eq_getElem?_getD, List.append_assoc]
  by_cases h1 : p < j
  · rw [if_pos h1, List.getElem?_append_left (by rw [List.length_take]; omega), List.getElem?_take, if_pos h1, List.getD_eq_getElem?_getD]
  · rw [if_neg h1, List.getElem?_append_right (by rw [List.length_take]; omega), List.length_take, Nat.min_eq_left hj]
    by_cases h2 : p = j
    · rw [if_pos h2, h2, Nat.sub_self]; rfl
    · rw [if_neg h2]
      obtain ⟨d, hd⟩ : ∃ d, p - j = d + 1 := ⟨p - j - 1, by omega⟩
      rw [hd, List.singleton_append, List.getElem?_cons_succ, List.getElem?_drop, show j + d = p - 1 by omega, List.getD_eq_getElem?_getD]
theorem Ws.put {f : Nat → R} {i j : Nat} {ws : List R} (h : Ws f i ws) (hd : Dw f i j ws) (hl : 0 < j → lt (f i) (at_ ws (j - 1)) = false) : Ws f (i + 1) (ws.take j ++ [f i] ++ ws.drop j) := by
  have hlen := h.len
  have hj := hd.le
  have ha : ∀ p, at_ (ws.take j ++ [f i] ++ ws.drop j) p = if p < j then at_ ws p else if p = j then f i else at_ ws (p - 1) := fun p => at_ins ws (f i) j p (by omega)
  obtain ⟨s, t, h1, h2, h3⟩ := h.stb
  refine ⟨by simp; omega, ⟨fun p => if p < j then s p else if p = j then i else s (p - 1), fun q => if q = i then j else if t q < j then t q else t q + 1, fun p hp => ⟨?_, ?_, ?_, ?_⟩, fun p hp => ?_, fun p q hpq hq x y => ?_⟩, fun p q _ hpq hq => ?_⟩
  · dsimp only
    split
    · exact Nat.lt_succ_of_lt (h1 p (by omega)).1
    · split
      · omega
      · exact Nat.lt_succ_of_lt (h1 (p - 1) (by omega)).1
  · dsimp only
    split
    · omega
    · have := (h1 p (by omega)).2.1
      split <;> omega
  · dsimp only
    by_cases c1 : p < j
    · have k := h1 p (by omega)
      rw [if_pos c1, if_neg (by omega), k.2.2.1, if_pos c1]
    · rw [if_neg c1]
      by_cases c2 : p = j
      · rw [if_pos c2, if_pos rfl, c2]
      · have k := h1 (p - 1) (by omega)
        rw [if_neg c2, if_neg (by omega), k.2.2.1, if_neg (by omega)]
        omega
  · dsimp only
    by_cases c1 : p = i
    · rw [if_pos c1, if_neg (by omega), if_pos rfl, c1]
    · have k := h1 p (by omega)
      rw [if_neg c1]
      by_cases c2 : t p < j
      · rw [if_pos c2, if_pos c2, k.2.2.2]
      · rw [if_neg c2, if_neg (by omega), if_neg (by omega), Nat.add_sub_cancel, k.2.2.2]
  · dsimp only
    rw [ha]
    split
    · exact h2 p (by omega)
    · split
      · rfl
      · exact h2 (p - 1) (by omega)
  · dsimp only
    rw [ha, ha] at x y
    by_cases c1 : q < j
    · rw [if_pos (show p < j by omega), if_pos c1] at x y ⊢
      exact h3 p q hpq (by omega) x y
    · by_cases c2 : q = j
      · rw [if_pos (show p < j by omega), if_neg c1, if_pos c2]
        exact (h1 p (by omega)).1
      · rw [if_neg c1, if_neg c2] at x y ⊢
        by_cases c3 : p < j
        · rw [if_pos c3] at x y ⊢
          exact h3 p (q - 1) (by omega) (by omega) x y
        · by_cases c4 : p = j
          · exfalso
            rw [if_neg c3, if_pos c4, hd.hi (q - 1) (by omega) (by omega)] at x
            cases x
          · rw [if_neg c3, if_neg c4] at x y ⊢
            exact h3 (p - 1) (q - 1) (by omega) (by omega) x y
  · rw [ha, ha]
    by_cases c1 : q < j
    · rw [if_pos (show p < j by omega), if_pos c1]
      exact h.srt p q (by omega) hpq (by omega)
    · by_cases c2 : q = j
      · rw [if_pos (show p < j by omega), if_neg c1, if_pos c2]
        have hl' := hl (by omega)
        by_cases e : p = j - 1
        · rw [e]; exact hl'
        · exact ordR.neg _ _ _ (h.srt p (j - 1) (by omega) (by omega) (by omega)) hl'
      · rw [if_neg c1, if_neg c2]
        by_cases c3 : p < j
        · rw [if_pos c3]
          exact h.srt p (q - 1) (by omega) (by omega) (by omega)
        · by_cases c4 : p = j
          · rw [if_neg c3, if_pos c4]
            exact ordR.asy _ _ (hd.hi (q - 1) (by omega) (by omega))
          · rw [if_neg c3, if_neg c4]
            exact h.srt (p - 1) (q - 1) (by omega) (by omega) (by omega)
/-- Does it go one more ahead? -/
def stp (x : R) (ws : List R) : Nat → Bool
  | 0 => false
  | m + 1 => lt x (at_ ws m)
end Go.Proofs.Ytmjgadhknliiaaa.SoN

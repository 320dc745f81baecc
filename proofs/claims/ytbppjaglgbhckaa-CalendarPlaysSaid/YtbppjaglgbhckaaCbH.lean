/- Package calendar: parts of the model's row put together anew. No condition. -/
import Derived.Test.YtbppjaglgbhckaaCbG
import Derived.Laws.OwnMore
set_option linter.unusedVariables false
set_option linter.unusedSimpArgs false
namespace Go.Proofs.Ytbppjaglgbhckaa.CbH
open Go.RowKit Go.Proofs.Ytbppjaglgbhckaa.Kit Go.Proofs.Ytbppjaglgbhckaa.Kit2 Go.Proofs.Ytbppjaglgbhckaa.Kit4 Go.Proofs.Ytbppjaglgbhckaa.Kit5 Go.Proofs.Ytbppjaglgbhckaa.CaA Go.Proofs.Ytbppjaglgbhckaa.CaG Go.Proofs.Ytbppjaglgbhckaa.CaH Go.Proofs.Ytbppjaglgbhckaa.CaI Go.Proofs.Ytbppjaglgbhckaa.CaK Go.Proofs.Ytbppjaglgbhckaa.CaM Go.Proofs.Ytbppjaglgbhckaa.CaN Go.Proofs.Ytbppjaglgbhckaa.CaP Go.Proofs.Ytbppjaglgbhckaa.CaQ Go.Proofs.Ytbppjaglgbhckaa.CaR Go.Proofs.Ytbppjaglgbhckaa.CaT Go.Proofs.Ytbppjaglgbhckaa.CaX Go.Proofs.Ytbppjaglgbhckaa.CaY Go.Proofs.Ytbppjaglgbhckaa.CaZ Go.Proofs.Ytbppjaglgbhckaa.CbA Go.Proofs.Ytbppjaglgbhckaa.CbG
open Go.Proofs.YtbppjaglgbhckaaW.PrintLast Go.Proofs.Ytbppjaglgbhckaa.CbBp
theorem infoD : (Try.prog.info? 34).map (fun i => (i.zero, i.size, i.bytes)) = some (some (.agg #[.int .i64 0, .int .i64 0, .int .i64 0]), 3, 24) := by kernel_rfl
/-- A slot that a later operation of the region writes: as long as that one hasn't been carried out. -/
theorem putSel_offb {b : Nat → Bool} {t : Tmp} {j : Nat} (hj : b j = false) : ∀ {L : List (Nat × Tmp × Value)} {a : Act}, (L.all fun e => !(e.2.1 == t) || (e.1 == j)) = true → (putSel a b L).tmps[t]? = a.tmps[t]?
  | [], _, _ => rfl
  | e :: r, a, h => by
    rw [List.all_cons, Bool.and_eq_true] at h
    unfold putSel
    by_cases hb : b e.1 = true
    · rw [if_pos hb, putSel_offb hj h.2]
      have he : e.2.1 ≠ t := by
        have h1 := h.1
        have h2 : (e.1 == j) = false := by
          cases hh : e.1 == j
          · rfl
          · rw [beq_iff_eq.1 hh, hj] at hb; cases hb
        rw [h2, Bool.or_false] at h1
        simpa using h1
      simp [Act.put, Array.getElem?_setIfInBounds_ne he]
    · rw [if_neg hb]
      exact putSel_offb hj h.2
theorem poffb {b : Nat → Bool} {t : Tmp} {j : Nat} {v : Value} {a a0 : Act} {L : List (Nat × Tmp × Value)} (ha : a = putSel a0 b L) (hj : b j = false) (hd : (L.all fun e => !(e.2.1 == t) || (e.1 == j)) = true) (h : a0.tmps[t]? = some v) : a.tmps[t]? = some v := by
  rw [ha]; exact (putSel_offb hj hd).trans h
/-- A part of a row, as a slice says. -/
def Sp (w : World) (v : Value) (ys : List De) : Prop := (v = .slice none 0 0 ∧ ys = []) ∨ ∃ g off n c, v = .slice (some ⟨g, off, none⟩) n c ∧ n = ys.length ∧ g < w.heap.size ∧ ∀ (j r : Nat) (x : De) (u : Value), ys[j]? = some x → (dcl x)[r]? = some u → w.cell? ⟨g, off + (j * 3 + r), none⟩ = some u
theorem Sp.below {w w' : World} {v : Value} {ys : List De} (h : Sp w v ys) (hb : Below w.heap.size w w') : Sp w' v ys := by
  rcases h with h | ⟨g, off, n, c, h1, h2, h3, h4⟩
  · exact .inl h
  · exact .inr ⟨g, off, n, c, h1, h2, Nat.lt_of_lt_of_le h3 hb.size, fun j r x u hj hu => (hb.cell (p := ⟨g, off + (j * 3 + r), none⟩) h3).trans (h4 j r x u hj hu)⟩
theorem Sp.nil (w : World) : Sp w (.slice none 0 0) [] := .inl ⟨rfl, rfl⟩
theorem Sp.zero (w : World) (g off c : Nat) (hg : g < w.heap.size) : Sp w (.slice (some ⟨g, off, none⟩) 0 c) [] := .inr ⟨g, off, 0, c, rfl, rfl, hg, fun j r x u hj hu => by simp at hj⟩
theorem Sp.take {w : World} {B g off len c : Nat} {ms : List De} (h : MR w B (.slice (some ⟨g, off, none⟩) len c) ms) (n c' : Nat) (hn : n ≤ ms.length) : Sp w (.slice (some ⟨g, off, none⟩) n c') (ms.take n) := by
  rcases h with ⟨h, _⟩ | ⟨g', off', cap, cur, hv, h1, h2, h3, h4, h5⟩
  · simp at h
  · simp at hv
    obtain ⟨⟨rfl, rfl⟩, rfl, rfl⟩ := hv
    refine .inr ⟨g, off, n, c', rfl, by rw [List.length_take]; omega, (Array.getElem?_eq_some_iff.1 h2).1, fun j r x u hj hu => h5 j r x u ?_ hu⟩
    rw [List.getElem?_take] at hj
    split at hj
    · exact hj
    · cases hj
theorem Sp.drop {w : World} {B g off len c : Nat} {ms : List De} (h : MR w B (.slice (some ⟨g, off, none⟩) len c) ms) (n c' : Nat) (hn : n ≤ ms.length) : Sp w (.slice (some ⟨g, off + n * 3, none⟩) (ms.length - n) c') (ms.drop n) := by
  rcases MR.drop h n hn with ⟨h, _⟩ | ⟨g', off', cap, cur, hv, h1, h2, h3, h4, h5⟩
  · simp at h
  · simp at hv
    obtain ⟨⟨rfl, rfl⟩, _, rfl⟩ := hv
    exact .inr ⟨g, off + n * 3, _, c', rfl, by rw [List.length_drop], (Array.getElem?_eq_some_iff.1 h2).1, h5⟩
theorem run_dapp {w : World} {B : Nat} {v : Value} {xs : List De} (ty : TypeId) (h : DRow w B v xs) {sv : Value} {ys : List De} (hs : Sp w sv ys) (hl : xs.length + ys.length ≤ 1000000) (hB : B ≤ w.heap.size) :
    ∃ v' w', (Builtin.append_ #[32, 32] ty #[v, sv]).run Try.prog w = .ok v' w' ∧ DRow w' B v' (xs ++ ys) ∧ w.grownBy w' v.ownBlock ∧ (v'.ownBlock = v.ownBlock ∨ v'.ownBlock = some w.heap.size) := by
  rcases hs with ⟨rfl, rfl⟩ | ⟨g, off, n, c, rfl, rfl, hg, hc⟩
  · obtain ⟨i, hi, he⟩ := Option.map_eq_some_iff.1 infoD
    refine ⟨v, w, run_append_owned_none (P := Try.prog) w B 32 ty 34 i 3 Try.underlying32 hi v _ _ h, by rw [List.append_nil]; exact h, ⟨rfl, rfl, rfl, Nat.le_refl _, fun _ _ _ => rfl⟩, .inl rfl⟩
  · obtain ⟨v', w', p1, p2, p3, _, p5⟩ := run_gapp E3 Try.underlying32 infoD rfl (by decide) ty h ⟨g, off, none⟩ c ys (fun j x hj r u hu => by
      have := hc j r x u hj hu
      rw [show (⟨g, off, none⟩ : Addr).add (j * 3 + r) = ⟨g, off + (j * 3 + r), none⟩ by simp [Addr.add]; try omega]
      exact this) hl hB
    exact ⟨v', w', p1, p2, p3, p5⟩
/-- Does the model go down one more? -/
def stp (ms : List De) (d : It) : Nat → Bool
  | 0 => false
  | m + 1 => match ms[m]? with
    | some x => dlt d x.2
    | none => false
theorem stp_at {ms : List De} {m : Nat} {x : De} (d : It) (h : ms[m]? = some x) : stp ms d (m + 1) = dlt d x.2 := by simp [stp, h]
theorem sp1 {w : World} {p : Nat} {d : De} (h : At1 w p d) : Sp w (.slice (some ⟨p, 0, none⟩) 1 1) [d] := .inr ⟨p, 0, 1, 1, rfl, rfl, h.lt, fun j r x u hj hu => by
  have := h.cell j x hj r u hu
  rw [show (⟨p, 0, none⟩ : Addr).add (j * 3 + r) = ⟨p, 0 + (j * 3 + r), none⟩ by simp [Addr.add]; try omega] at this
  exact this⟩
theorem dlt_at {x y : It} {b : Bool} (h : dlt x y = b) : (decide (x.1 < y.1) || (decide (x.1 = y.1) && decide (x.2 < y.2))) = b := h
end Go.Proofs.Ytbppjaglgbhckaa.CbH

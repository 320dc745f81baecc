/- Package pick: rows of tasks that come in; what a choice of few is beside one of all. No condition. -/
import Derived.Test.YticcgmlgiijjnaaPkF
set_option linter.unusedVariables false
set_option linter.unusedSimpArgs false
namespace Go.Proofs.Yticcgmlgiijjnaa.PkH
open Go.RowKit Go.Proofs.Yticcgmlgiijjnaa.Kit Go.Proofs.Yticcgmlgiijjnaa.Kit2 Go.Proofs.Yticcgmlgiijjnaa.Kit3 Go.Proofs.Yticcgmlgiijjnaa.Kit4 Go.Proofs.Yticcgmlgiijjnaa.Kit5 HpPlain Go.Maps EvPlain Go.Proofs.Yticcgmlgiijjnaa.HpA Go.Proofs.Yticcgmlgiijjnaa.HpB Go.Proofs.Yticcgmlgiijjnaa.HpK Go.Proofs.Yticcgmlgiijjnaa.Win Go.Proofs.Yticcgmlgiijjnaa.Rank Go.Proofs.Yticcgmlgiijjnaa.Cmp Go.Proofs.Yticcgmlgiijjnaa.PkPlain Go.Proofs.Yticcgmlgiijjnaa.PkA Go.Proofs.Yticcgmlgiijjnaa.PkB Go.Proofs.Yticcgmlgiijjnaa.PkC Go.Proofs.Yticcgmlgiijjnaa.PkD Go.Proofs.Yticcgmlgiijjnaa.PkF
abbrev TK : List CK := [.i .i64, .i .i64, .i .i64, .b, .b, .b, .b, .i .i64, .i .i64, .b, .i .i64]
def boolOf : Value → Bool
  | .bool b => b
  | _ => false
def tkOf (V : Nat → Nat → Value) (i : Nat) : Tk := ⟨intOf (V i 0), intOf (V i 1), intOf (V i 2), boolOf (V i 3), boolOf (V i 4), boolOf (V i 5), boolOf (V i 6), intOf (V i 7), intOf (V i 8), boolOf (V i 9), intOf (V i 10)⟩
def tks (V : Nat → Nat → Value) (n : Nat) : List Tk := (List.range n).map (tkOf V)
theorem tks_len (V : Nat → Nat → Value) (n : Nat) : (tks V n).length = n := by simp [tks]
theorem tks_at (V : Nat → Nat → Value) (n i : Nat) (h : i < n) : PkB.at_ (tks V n) i = tkOf V i := by
  unfold PkB.at_ tks
  rw [List.getD_eq_getElem?_getD, List.getElem?_map, List.getElem?_range h]; rfl
theorem InRow.bool {ks : List CK} {W : World} {a : Option Addr} {len : Nat} {V : Nat → Nat → Value} (h : InRow ks W a len V) (j : Nat) (hj : ks[j]? = some .b) (i : Nat) (hi : i < len) : V i j = .bool (boolOf (V i j)) := by
  obtain ⟨b, off, _, h2⟩ := h
  obtain ⟨x, hx⟩ := (h2 i hi j _ hj).2
  rw [hx]
  rfl
theorem qrow {W : World} {a : Option Addr} {len : Nat} {V : Nat → Nat → Value} (h : InRow TK W a len V) : QRow W a (tks V len) := by
  refine ⟨fun j hj => ?_⟩
  rw [tks_len] at hj
  have z0 := (h.int 0 .i64 rfl j hj).1
  have z1 := (h.int 1 .i64 rfl j hj).1
  have z2 := (h.int 2 .i64 rfl j hj).1
  have z3 := InRow.bool h 3 rfl j hj
  have z4 := InRow.bool h 4 rfl j hj
  have z5 := InRow.bool h 5 rfl j hj
  have z6 := InRow.bool h 6 rfl j hj
  have z7 := (h.int 7 .i64 rfl j hj).1
  have z8 := (h.int 8 .i64 rfl j hj).1
  have z9 := InRow.bool h 9 rfl j hj
  have z10 := (h.int 10 .i64 rfl j hj).1
  obtain ⟨b, off, hp, hcs⟩ := h
  obtain ⟨rfl, hbl⟩ := hp (by omega)
  refine ⟨b, off, rfl, hbl, fun r u hr => ?_⟩
  rw [tks_at V len j hj] at hr
  have hc := fun r c (hrc : TK[r]? = some c) => (hcs j hj r c hrc).1
  rw [Nat.add_assoc]
  match r, hr with
  | 0, hr => rw [← Option.some.inj hr]; exact (hc 0 _ rfl).trans (by rw [z0]; rfl)
  | 1, hr => rw [← Option.some.inj hr]; exact (hc 1 _ rfl).trans (by rw [z1]; rfl)
  | 2, hr => rw [← Option.some.inj hr]; exact (hc 2 _ rfl).trans (by rw [z2]; rfl)
  | 3, hr => rw [← Option.some.inj hr]; exact (hc 3 _ rfl).trans (by rw [z3]; rfl)
  | 4, hr => rw [← Option.some.inj hr]; exact (hc 4 _ rfl).trans (by rw [z4]; rfl)
  | 5, hr => rw [← Option.some.inj hr]; exact (hc 5 _ rfl).trans (by rw [z5]; rfl)
  | 6, hr => rw [← Option.some.inj hr]; exact (hc 6 _ rfl).trans (by rw [z6]; rfl)
  | 7, hr => rw [← Option.some.inj hr]; exact (hc 7 _ rfl).trans (by rw [z7]; rfl)
  | 8, hr => rw [← Option.some.inj hr]; exact (hc 8 _ rfl).trans (by rw [z8]; rfl)
  | 9, hr => rw [← Option.some.inj hr]; exact (hc 9 _ rfl).trans (by rw [z9]; rfl)
  | 10, hr => rw [← Option.some.inj hr]; exact (hc 10 _ rfl).trans (by rw [z10]; rfl)
  | r + 11, hr => exact absurd hr (by simp [tcl])
/-- What a row's numbers are, being of 64 bits. -/
structure Wf (t : Tk) : Prop where
  id : (kv t.id).wf = true
  e0 : -9223372036854775808 ≤ t.e ∧ t.e ≤ 9223372036854775807
  g0 : -9223372036854775808 ≤ t.g ∧ t.g ≤ 9223372036854775807
  p0 : -9223372036854775808 ≤ t.p ∧ t.p ≤ 9223372036854775807
theorem wfs {W : World} {a : Option Addr} {len : Nat} {V : Nat → Nat → Value} (h : InRow TK W a len V) (i : Nat) (hi : i < len) : Wf (tkOf V i) := by
  have w0 := (h.int 0 .i64 rfl i hi).2
  have w1 := is64 (h.int 1 .i64 rfl i hi).2
  have w2 := is64 (h.int 2 .i64 rfl i hi).2
  have w8 := is64 (h.int 8 .i64 rfl i hi).2
  exact ⟨w0, ⟨w1.1, by show intOf (V i 1) ≤ _; omega⟩, ⟨w8.1, by show intOf (V i 8) ≤ _; omega⟩, ⟨w2.1, by show intOf (V i 2) ≤ _; omega⟩⟩
theorem Wf.fit {t : Tk} (h : Wf t) (h1 : -1099511627776 ≤ t.r) (h2 : t.r ≤ 1099511627776) : Fit t := ⟨h.g0.1, h.e0.2, h1, h2⟩
/-! ### few and all -/
def cnt (f : Nat → Tk) (c : Int) (y : Bool) (n : Nat) : Nat := ((List.range n).filter fun i => can (f i) c y).length
theorem cnt_succ (f : Nat → Tk) (c : Int) (y : Bool) (n : Nat) : cnt f c y (n + 1) = if can (f n) c y = true then cnt f c y n + 1 else cnt f c y n := by
  unfold cnt
  rw [List.range_succ, List.filter_append, List.length_append]
  by_cases h : can (f n) c y = true
  · rw [if_pos h]; simp [h]
  · rw [if_neg h]; simp [h]
theorem cnt_le (f : Nat → Tk) (c : Int) (y : Bool) (n : Nat) : cnt f c y n ≤ n := by
  unfold cnt
  exact Nat.le_trans (List.length_filter_le _ _) (by simp)
theorem alv_cnt (f : Nat → Tk) (c : Int) (y : Bool) (n : Nat) (h : ∀ i, i < n → fresh f i = true) : (alv f n (on0 f c y)).length = cnt f c y n := by
  unfold alv cnt
  rw [List.length_map]
  congr 1
  apply List.filter_congr
  intro i hi
  unfold on0
  rw [h i (List.mem_range.1 hi), Bool.true_and]
theorem ids_cnt (f : Nat → Tk) (c : Int) (y : Bool) (n k : Nat) (h : ∀ i, i < n → fresh f i = true) : (ids f n c k y).length = min k (cnt f c y n) := by
  unfold ids
  rw [List.length_map, picks_len, alv_cnt f c y n h]
theorem ids_take (f : Nat → Tk) (c : Int) (y : Bool) (n k m : Nat) (h : k ≤ m) : ids f n c k y = (ids f n c m y).take k := by
  unfold ids
  rw [picks_take f n k m _ h, List.map_take]
theorem fresh_of (f : Nat → Tk) (i : Nat) (h : ∀ k, k < i → (f k).id ≠ (f i).id) : fresh f i = true := by
  unfold fresh
  rw [Bool.not_eq_true', List.any_eq_false]
  intro k hk
  have := h k (List.mem_range.1 hk)
  simpa using this
end Go.Proofs.Yticcgmlgiijjnaa.PkH

/- Package calendar: Put. No condition but the order. -/
import Derived.Test.YtbppjaglgbhckaaCaL
set_option linter.unusedVariables false
set_option linter.unusedSimpArgs false
namespace Go.Proofs.Ytbppjaglgbhckaa.CaM
open Go.RowKit Go.Proofs.Ytbppjaglgbhckaa.Kit Go.Proofs.Ytbppjaglgbhckaa.Kit4 Go.Proofs.Ytbppjaglgbhckaa.CaA Go.Proofs.Ytbppjaglgbhckaa.CaB Go.Proofs.Ytbppjaglgbhckaa.CaC Go.Proofs.Ytbppjaglgbhckaa.CaD Go.Proofs.Ytbppjaglgbhckaa.CaF Go.Proofs.Ytbppjaglgbhckaa.CaI Go.Proofs.Ytbppjaglgbhckaa.CaJ Go.Proofs.Ytbppjaglgbhckaa.CaK Go.Proofs.Ytbppjaglgbhckaa.CaL
open Go.Proofs.YtbppjaglgbhckaaW.PrintLast
open Go.Proofs.YtbppjaglgbhckaaW.PrintWords (setCells_row setCells_far setCells_same)
/-- Where one belongs, told by the items alone. -/
def lbi (xs : List It) (x : It) : Nat := (xs.filter (fun y => dlt y x)).length
theorem Lb.eq {xs : List It} {x : It} {i : Nat} (h : Lb xs x i) : xs.take i = xs.filter (fun y => dlt y x) ∧ xs.drop i = xs.filter (fun y => !dlt y x) := by
  have h1 : ∀ y ∈ xs.take i, dlt y x = true := by
    intro y hy
    obtain ⟨k, hk, rfl⟩ := List.getElem_of_mem hy
    rw [List.length_take] at hk
    rw [List.getElem_take]
    exact h.lo k _ (by omega) (List.getElem?_eq_getElem (by omega))
  have h2 : ∀ y ∈ xs.drop i, dlt y x = false := by
    intro y hy
    obtain ⟨k, hk, rfl⟩ := List.getElem_of_mem hy
    rw [List.length_drop] at hk
    rw [List.getElem_drop]
    exact h.hi (i + k) _ (by omega) (List.getElem?_eq_getElem (by omega))
  have e := List.take_append_drop i xs
  constructor
  · conv => rhs; rw [← e, List.filter_append]
    rw [List.filter_eq_self.2 h1, List.filter_eq_nil_iff.2 (fun y hy => by rw [h2 y hy]; decide), List.append_nil]
  · conv => rhs; rw [← e, List.filter_append]
    rw [List.filter_eq_nil_iff.2 (fun y hy => by rw [h1 y hy]; decide), List.filter_eq_self.2 (fun y hy => by rw [h2 y hy]; rfl), List.nil_append]
theorem Lb.lbi {xs : List It} {x : It} {i : Nat} (h : Lb xs x i) : i = lbi xs x := by
  unfold CaM.lbi
  rw [← (Lb.eq h).1, List.length_take]
  have := h.le
  omega
def putL (xs : List It) (x : It) : List It := xs.filter (fun y => dlt y x) ++ x :: xs.filter (fun y => !dlt y x)
theorem Lb.ins {xs : List It} {x : It} {i : Nat} (h : Lb xs x i) : ins xs i x = putL xs x := by
  unfold CaK.ins putL
  rw [(Lb.eq h).1, (Lb.eq h).2]
theorem putL_len (xs : List It) (x : It) : (putL xs x).length = xs.length + 1 := by
  have h : ∀ ys : List It, (ys.filter (fun y => dlt y x)).length + (ys.filter (fun y => !dlt y x)).length = ys.length := by
    intro ys
    induction ys with
    | nil => rfl
    | cons y r ih =>
      cases hd : dlt y x <;> simp [List.filter_cons, hd] at ih ⊢ <;> omega
  have := h xs
  unfold putL
  simp only [List.length_append, List.length_cons]
  omega
theorem putL_mem (xs : List It) (x y : It) : y ∈ putL xs x ↔ y = x ∨ y ∈ xs := by
  unfold putL
  simp only [List.mem_append, List.mem_cons, List.mem_filter]
  cases dlt y x <;> simp [or_comm, or_left_comm] <;> (constructor <;> (rintro (h | h) <;> simp_all))
/-- In order, told by pairs. -/
theorem srt_iff (xs : List It) : Srt xs ↔ xs.Pairwise (fun x y => dlt y x = false) := by
  rw [List.pairwise_iff_getElem]
  constructor
  · intro h i j hi hj hij
    exact h i j _ _ hij (List.getElem?_eq_getElem hi) (List.getElem?_eq_getElem hj)
  · intro h i j x y hij hx hy
    obtain ⟨hi, rfl⟩ := List.getElem?_eq_some_iff.1 hx
    obtain ⟨hj, rfl⟩ := List.getElem?_eq_some_iff.1 hy
    exact h i j hi hj hij
theorem dlt_asym {x y : It} (h : dlt y x = true) : dlt x y = false := by
  rw [dlt_iff] at h
  rw [dlt_no]
  omega
theorem putL_srt {xs : List It} (h : Srt xs) (x : It) : Srt (putL xs x) := by
  rw [srt_iff] at *
  unfold putL
  rw [List.pairwise_append]
  refine ⟨h.sublist List.filter_sublist, ?_, ?_⟩
  · rw [List.pairwise_cons]
    refine ⟨fun y hy => ?_, h.sublist List.filter_sublist⟩
    have := (List.mem_filter.1 hy).2
    simpa using this
  · intro a ha b hb
    have h1 : dlt a x = true := (List.mem_filter.1 ha).2
    rcases List.mem_cons.1 hb with rfl | hb
    · exact dlt_asym h1
    · have h2 : dlt b x = false := by simpa using (List.mem_filter.1 hb).2
      rw [dlt_iff] at h1
      rw [dlt_no] at *
      omega
/-- What an operation leaves of the calendar. -/
def Got (w w' : World) (B gq : Nat) (v : Value) (xs : List It) : Prop := ∃ v', Q w' B gq v' xs ∧ Chg w w' (fun k => k = gq ∨ some k = v.ownBlock) ∧ (v'.ownBlock = v.ownBlock ∨ ∀ k, v'.ownBlock = some k → w.heap.size ≤ k)
/-- Where Put's last region stands. -/
structure PutR (W : World) (B gq : Nat) (v : Value) (xs : List It) (i : Nat) (x : It) (b : Nat → Bool) (vc : Value) (w' : World) : Prop where
  n0 : b 7 = false → b 8 = false → b 11 = false → w' = W
  n1 : b 7 = true → b 8 = false → b 11 = false → w' = W.alloc (.cells #[.int .i64 x.1, .int .i64 x.2] 44)
  n2 : b 8 = true → b 11 = false → Ins (W.alloc (.cells #[.int .i64 x.1, .int .i64 x.2] 44)) B v xs i x vc w'
  n3 : b 11 = true → ∃ w2, Ins (W.alloc (.cells #[.int .i64 x.1, .int .i64 x.2] 44)) B v xs i x vc w2 ∧ w' = w2.setCells gq 0 [vc]
theorem PutR.start {W : World} {B gq : Nat} {v : Value} {xs : List It} {i : Nat} {x : It} {vc : Value} : PutR W B gq v xs i x (fun _ => false) vc W := ⟨fun _ _ _ => rfl, fun h => (by cases h), fun h => (by cases h), fun h => (by cases h)⟩
theorem PutR.low {W w' : World} {B gq : Nat} {v : Value} {xs : List It} {i : Nat} {x : It} {b : Nat → Bool} {vc : Value} (h : PutR W B gq v xs i x b vc w') (k : Nat) (hk : k ≠ 7 ∧ k ≠ 8 ∧ k ≠ 11) : PutR W B gq v xs i x (up b k) vc w' := by
  constructor
  · rw [up_ne hk.1.symm, up_ne hk.2.1.symm, up_ne hk.2.2.symm]; exact h.n0
  · rw [up_ne hk.1.symm, up_ne hk.2.1.symm, up_ne hk.2.2.symm]; exact h.n1
  · rw [up_ne hk.2.1.symm, up_ne hk.2.2.symm]; exact h.n2
  · rw [up_ne hk.2.2.symm]; exact h.n3
theorem PutR.bel {W w' : World} {B gq : Nat} {v : Value} {xs : List It} {i : Nat} {x : It} {b : Nat → Bool} {vc : Value} (h : PutR W B gq v xs i x b vc w') (h8 : b 8 = false) (h11 : b 11 = false) : Below W.heap.size W w' := by
  cases h7 : b 7
  · rw [h.n0 h7 h8 h11]; exact Below.refl _ _
  · rw [h.n1 h7 h8 h11]; exact (Below.refl _ _).alloc (Nat.le_refl _) _
theorem PutR.s7 {W w' : World} {B gq : Nat} {v : Value} {xs : List It} {i : Nat} {x : It} {b : Nat → Bool} {vc : Value} (h8 : b 8 = false) (h11 : b 11 = false) (hw : w' = W.alloc (.cells #[.int .i64 x.1, .int .i64 x.2] 44)) : PutR W B gq v xs i x (up b 7) vc w' := by
  constructor
  · intro h; rw [up_self] at h; cases h
  · intro _ _ _; exact hw
  · intro h; rw [up_ne (by decide), h8] at h; cases h
  · intro h; rw [up_ne (by decide), h11] at h; cases h
theorem PutR.s8 {W w' : World} {B gq : Nat} {v : Value} {xs : List It} {i : Nat} {x : It} {b : Nat → Bool} {vc : Value} (h11 : b 11 = false) (hi : Ins (W.alloc (.cells #[.int .i64 x.1, .int .i64 x.2] 44)) B v xs i x vc w') : PutR W B gq v xs i x (up b 8) vc w' := by
  constructor
  · intro _ h; rw [up_self] at h; cases h
  · intro _ h; rw [up_self] at h; cases h
  · intro _ _; exact hi
  · intro h; rw [up_ne (by decide), h11] at h; cases h
theorem PutR.s11 {W w' w2 : World} {B gq : Nat} {v : Value} {xs : List It} {i : Nat} {x : It} {b : Nat → Bool} {vc : Value} (hi : Ins (W.alloc (.cells #[.int .i64 x.1, .int .i64 x.2] 44)) B v xs i x vc w2) (hw : w' = w2.setCells gq 0 [vc]) : PutR W B gq v xs i x (up b 11) vc w' := by
  constructor
  · intro _ _ h; rw [up_self] at h; cases h
  · intro _ _ h; rw [up_self] at h; cases h
  · intro _ h; rw [up_self] at h; cases h
  · intro _; exact ⟨w2, hi, hw⟩
theorem Q.ne {w : World} {B gq : Nat} {v : Value} {xs : List It} (h : Q w B gq v xs) : v.ownBlock ≠ some gq := Row.ne h.row h.box (by decide)
/-- The box's slice replaced, the new row standing. -/
theorem Ins.box {W w2 : World} {B gq : Nat} {v vc : Value} {xs : List It} {i : Nat} {x : It} {o : Obj} (h : Q W B gq v xs) (hi : Ins (W.alloc o) B v xs i x vc w2) :
    w2.heap[gq]? = some (.cells #[v] 42 (0, 0)) := by
  have hq := h.lt
  exact (hi.chg.block gq (by simp; omega) (fun e => Q.ne h e.symm)).trans ((Below.heap_alloc W o gq hq).trans h.box)
theorem Ins.got {W w2 : World} {B gq : Nat} {v vc : Value} {xs : List It} {i : Nat} {x : It} {o : Obj} (h : Q W B gq v xs) (hi : Ins (W.alloc o) B v xs i x vc w2) : Got W (w2.setCells gq 0 [vc]) B gq v (ins xs i x) := by
  have hb := Ins.box h hi
  have hne : vc.ownBlock ≠ some gq := by
    rcases hi.own with e | e
    · rw [e]; exact Q.ne h
    · intro e2
      have := e gq e2
      have := h.lt
      simp at *
      omega
  have hX := chg_set w2 gq 0 [vc]
  refine ⟨vc, ⟨?_, Row.move hi.row (fun k hk => hX.block k (Row.lt hi.row k hk) (fun e => hne (by rw [← e]; exact hk))), h.base⟩, ?_, ?_⟩
  · rw [World.setCells, World.setCells]
    rw [blk_set hb 0 vc]
    simp
  · have h1 : Chg W (W.alloc o) (fun k => k = gq ∨ some k = v.ownBlock) := Chg.of_below ((Below.refl _ _).alloc (Nat.le_refl _) _)
    have h2 := h1.trans hi.chg (fun k _ e => .inr e)
    exact h2.trans hX (fun k _ e => .inl e)
  · rcases hi.own with e | e
    · exact .inl e
    · exact .inr (fun k hk => by have := e k hk; simp at this; omega)
end Go.Proofs.Ytbppjaglgbhckaa.CaM

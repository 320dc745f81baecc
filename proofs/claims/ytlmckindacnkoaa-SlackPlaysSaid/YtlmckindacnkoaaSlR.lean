/- Package slack: the reference's queue: its state; appends onto its rows. No condition. -/
import Derived.Test.YtlmckindacnkoaaSlQ
set_option linter.unusedVariables false
set_option linter.unusedSimpArgs false
namespace Go.Proofs.Ytlmckindacnkoaa.SlR
open Go.RowKit Go.Proofs.Ytlmckindacnkoaa.Kit Go.Proofs.Ytlmckindacnkoaa.SlA Go.Proofs.Ytlmckindacnkoaa.SlB Go.Proofs.Ytlmckindacnkoaa.SlC Go.Proofs.Ytlmckindacnkoaa.SlD Go.Proofs.Ytlmckindacnkoaa.SlE Go.Proofs.Ytlmckindacnkoaa.SlF Go.Proofs.Ytlmckindacnkoaa.SlG Go.Proofs.Ytlmckindacnkoaa.SlH Go.Proofs.Ytlmckindacnkoaa.SlI Go.Proofs.Ytlmckindacnkoaa.SlJ Go.Proofs.Ytlmckindacnkoaa.SlK Go.Proofs.Ytlmckindacnkoaa.SlL
/-- A queue of the reference: its box, and the row that it bears. -/
structure RQ (w : World) (B gr : Nat) (v : Value) (xs : List It) : Prop where
  box : w.heap[gr]? = some (.cells #[v] 29 (0, 0))
  row : Row w B 42 v xs
  base : B ≤ gr
theorem RQ.cell {w : World} {B gr : Nat} {v : Value} {xs : List It} (h : RQ w B gr v xs) : w.cell? ⟨gr, 0, none⟩ = some v := cell_of_row w gr 0 _ _ (0, 0) h.box
theorem RQ.lt {w : World} {B gr : Nat} {v : Value} {xs : List It} (h : RQ w B gr v xs) : gr < w.heap.size := (Array.getElem?_eq_some_iff.1 h.box).1
theorem RQ.below {w w' : World} {B gr : Nat} {v : Value} {xs : List It} (h : RQ w B gr v xs) (hb : Below w.heap.size w w') : RQ w' B gr v xs :=
  ⟨(hb.block gr (Array.getElem?_eq_some_iff.1 h.box).1).trans h.box, Row.below h.row hb, h.base⟩
theorem info_itR : ∃ i, Try.prog.info? 42 = some i ∧ i.zero = some (.agg #[.int .i64 0, .int .i64 0]) ∧ i.size = 2 ∧ i.bytes = 16 := by
  have h : (Try.prog.info? 42).map (fun i => (i.zero, i.size, i.bytes)) = some (some (.agg #[.int .i64 0, .int .i64 0]), 2, 16) := by kernel_rfl
  obtain ⟨i, hi, he⟩ := Option.map_eq_some_iff.1 h
  simp only [Prod.mk.injEq] at he
  exact ⟨i, hi, he.1, he.2.1, he.2.2⟩
theorem run_appR {w : World} {B : Nat} {v : Value} {xs : List It} (ty : TypeId) (h : Row w B 42 v xs) (ad : Addr) (c : Nat) (ys : List It)
    (hy : ∀ (j : Nat) (x : It), ys[j]? = some x → w.cell? (ad.add (j * 2)) = some (.int .i64 x.1) ∧ w.cell? (ad.add (j * 2 + 1)) = some (.int .i64 x.2)) (hl : xs.length + ys.length ≤ 1000000) (hB : B ≤ w.heap.size) :
    ∃ v' w', (Builtin.append_ #[27, 27] ty #[v, .slice (some ad) ys.length c]).run Try.prog w = .ok v' w' ∧ Row w' B 42 v' (xs ++ ys) ∧ w.grownBy w' v.ownBlock ∧
      (v' = .slice none 0 0 ↔ v = .slice none 0 0 ∧ ys.length = 0) ∧ (v'.ownBlock = v.ownBlock ∨ v'.ownBlock = some w.heap.size) := by
  obtain ⟨i, hi, hz, hs, hb⟩ := info_itR
  obtain ⟨v', w', h1, h2, h3, h4, h5⟩ := run_append_own_at (P := Try.prog) w B 27 ty 42 i _ 2 16 Try.underlying27 hi hz hs hb rfl (by decide) v xs.length (flat xs) h ad ys.length c (flat ys) (flat_len ys) (flat_get ys w ad hy)
    (by intro u hu; simp only [flat, List.mem_flatMap] at hu; obtain ⟨x, _, hx⟩ := hu; simp at hx; rcases hx with rfl | rfl <;> rfl) (by simp only [maxLen]; omega) (by omega) hB
  refine ⟨v', w', h1, ?_, h3, h4, h5⟩
  unfold Row
  rw [List.length_append, flat_app]
  exact h2
theorem exec_appR {w w' : World} {o : Oper} {a : Act} {v v' z : Value} {s x : Operand} (ho : o.op = .call { callee := .builtin .append, args := #[s, x], argTypes := #[27, 27] }) (hs : a.eval s = v) (hx : a.eval x = z)
    (hr : (Builtin.append_ #[27, 27] o.type #[v, z]).run Try.prog w = .ok v' w') : (execOp a.eval o).run Try.prog w = .ok (.value v') w' := by
  unfold execOp
  simp only [ho, resolve, invoke, builtin, Sem.run_bind, Sem.run_pure, Result.andThen_ok, List.map_toArray, List.map_cons, List.map_nil, hs, hx, hr]
theorem wpList_appR {ops : Array Oper} {rest : List Oper} {o : Oper} {a : Act} {Q : Exit → Act → World → Prop} {w : World} (hgd : o.guard = none) (s x : Operand)
    (ho : o.op = .call { callee := .builtin .append, args := #[s, x], argTypes := #[27, 27] }) (B : Nat) (v : Value) (xs : List It) (hs : a.eval s = v) (h : Row w B 42 v xs)
    (ad : Addr) (c : Nat) (ys : List It) (hx : a.eval x = .slice (some ad) ys.length c) (hy : ∀ (j : Nat) (x : It), ys[j]? = some x → w.cell? (ad.add (j * 2)) = some (.int .i64 x.1) ∧ w.cell? (ad.add (j * 2 + 1)) = some (.int .i64 x.2))
    (hl : xs.length + ys.length ≤ 1000000) (hB : B ≤ w.heap.size)
    (K : ∀ v' w', Row w' B 42 v' (xs ++ ys) → w.grownBy w' v.ownBlock → (v' = .slice none 0 0 ↔ v = .slice none 0 0 ∧ ys.length = 0) → (v'.ownBlock = v.ownBlock ∨ v'.ownBlock = some w.heap.size) → wpList Try.prog ops Q rest (a.put o.dst v') w') :
    wpList Try.prog ops Q (o :: rest) a w := by
  refine wpList_plain hgd fun K' hK => ?_
  obtain ⟨v', w', h1, h2, h3, h4, h5⟩ := run_appR o.type h ad c ys hy hl hB
  unfold Oper.wp
  rw [exec_appR ho hs hx h1]
  exact hK _ _ (K v' w' h2 h3 h4 h5)
end Go.Proofs.Ytlmckindacnkoaa.SlR

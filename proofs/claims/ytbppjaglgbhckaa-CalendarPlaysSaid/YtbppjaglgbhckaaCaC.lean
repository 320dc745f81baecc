/- Package calendar, third text: append onto a row of items of one's own; slices.Clone. No condition. -/
import Derived.Test.YtbppjaglgbhckaaCaB
import Derived.Maps.AppendAt
import Derived.OwnWalk
import Derived.Lib.SliceRun
set_option linter.unusedVariables false
set_option linter.unusedSimpArgs false
namespace Go.Proofs.Ytbppjaglgbhckaa.CaC
open Go.RowKit Go.Proofs.Ytbppjaglgbhckaa.Kit Go.Proofs.Ytbppjaglgbhckaa.CaA Go.Proofs.Ytbppjaglgbhckaa.CaB
theorem info_it : ∃ i, Try.prog.info? 44 = some i ∧ i.zero = some (.agg #[.int .i64 0, .int .i64 0]) ∧ i.size = 2 ∧ i.bytes = 16 := by
  have h : (Try.prog.info? 44).map (fun i => (i.zero, i.size, i.bytes)) = some (some (.agg #[.int .i64 0, .int .i64 0]), 2, 16) := by kernel_rfl
  obtain ⟨i, hi, he⟩ := Option.map_eq_some_iff.1 h
  simp only [Prod.mk.injEq] at he
  exact ⟨i, hi, he.1, he.2.1, he.2.2⟩
theorem flat_get (ys : List It) (w : World) (ad : Addr) (h : ∀ (j : Nat) (x : It), ys[j]? = some x → w.cell? (ad.add (j * 2)) = some (.int .i64 x.1) ∧ w.cell? (ad.add (j * 2 + 1)) = some (.int .i64 x.2)) :
    ∀ j u, (flat ys)[j]? = some u → w.cell? (ad.add j) = some u := by
  intro j u hj
  have hl := (List.getElem?_eq_some_iff.1 hj).1
  rw [flat_len] at hl
  have hk : j / 2 < ys.length := by omega
  have hx := List.getElem?_eq_getElem hk
  have hf := flat_at ys (j / 2) _ hx
  have hc := h (j / 2) _ hx
  rcases Nat.mod_two_eq_zero_or_one j with hm | hm
  · have e : j = j / 2 * 2 := by omega
    rw [e] at hj ⊢
    rw [hf.1] at hj
    rw [← hj]; exact hc.1
  · have e : j = j / 2 * 2 + 1 := by omega
    rw [e] at hj ⊢
    rw [hf.2] at hj
    rw [← hj]; exact hc.2
theorem run_app {w : World} {B : Nat} {v : Value} {xs : List It} (ty : TypeId) (h : Row w B 44 v xs) (ad : Addr) (c : Nat) (ys : List It)
    (hy : ∀ (j : Nat) (x : It), ys[j]? = some x → w.cell? (ad.add (j * 2)) = some (.int .i64 x.1) ∧ w.cell? (ad.add (j * 2 + 1)) = some (.int .i64 x.2)) (hl : xs.length + ys.length ≤ 1000000) (hB : B ≤ w.heap.size) :
    ∃ v' w', (Builtin.append_ #[40, 40] ty #[v, .slice (some ad) ys.length c]).run Try.prog w = .ok v' w' ∧ Row w' B 44 v' (xs ++ ys) ∧ w.grownBy w' v.ownBlock ∧
      (v' = .slice none 0 0 ↔ v = .slice none 0 0 ∧ ys.length = 0) ∧ (v'.ownBlock = v.ownBlock ∨ v'.ownBlock = some w.heap.size) := by
  obtain ⟨i, hi, hz, hs, hb⟩ := info_it
  obtain ⟨v', w', h1, h2, h3, h4, h5⟩ := run_append_own_at (P := Try.prog) w B 40 ty 44 i _ 2 16 Try.underlying40 hi hz hs hb rfl (by decide) v xs.length (flat xs) h ad ys.length c (flat ys) (flat_len ys) (flat_get ys w ad hy)
    (by intro u hu; simp only [flat, List.mem_flatMap] at hu; obtain ⟨x, _, hx⟩ := hu; simp at hx; rcases hx with rfl | rfl <;> rfl) (by simp only [maxLen]; omega) (by omega) hB
  refine ⟨v', w', h1, ?_, h3, h4, h5⟩
  unfold Row
  rw [List.length_append, flat_app]
  exact h2
theorem exec_app {w w' : World} {o : Oper} {a : Act} {v v' z : Value} {s x : Operand} (ho : o.op = .call { callee := .builtin .append, args := #[s, x], argTypes := #[40, 40] }) (hs : a.eval s = v) (hx : a.eval x = z)
    (hr : (Builtin.append_ #[40, 40] o.type #[v, z]).run Try.prog w = .ok v' w') : (execOp a.eval o).run Try.prog w = .ok (.value v') w' := by
  unfold execOp
  simp only [ho, resolve, invoke, builtin, Sem.run_bind, Sem.run_pure, Result.andThen_ok, List.map_toArray, List.map_cons, List.map_nil, hs, hx, hr]
theorem wpList_app {ops : Array Oper} {rest : List Oper} {o : Oper} {a : Act} {Q : Exit → Act → World → Prop} {w : World} (hgd : o.guard = none) (s x : Operand)
    (ho : o.op = .call { callee := .builtin .append, args := #[s, x], argTypes := #[40, 40] }) (B : Nat) (v : Value) (xs : List It) (hs : a.eval s = v) (h : Row w B 44 v xs)
    (ad : Addr) (c : Nat) (ys : List It) (hx : a.eval x = .slice (some ad) ys.length c) (hy : ∀ (j : Nat) (x : It), ys[j]? = some x → w.cell? (ad.add (j * 2)) = some (.int .i64 x.1) ∧ w.cell? (ad.add (j * 2 + 1)) = some (.int .i64 x.2))
    (hl : xs.length + ys.length ≤ 1000000) (hB : B ≤ w.heap.size)
    (K : ∀ v' w', Row w' B 44 v' (xs ++ ys) → w.grownBy w' v.ownBlock → (v' = .slice none 0 0 ↔ v = .slice none 0 0 ∧ ys.length = 0) → (v'.ownBlock = v.ownBlock ∨ v'.ownBlock = some w.heap.size) → wpList Try.prog ops Q rest (a.put o.dst v') w') :
    wpList Try.prog ops Q (o :: rest) a w := by
  refine wpList_plain hgd fun K' hK => ?_
  obtain ⟨v', w', h1, h2, h3, h4, h5⟩ := run_app o.type h ad c ys hy hl hB
  unfold Oper.wp
  rw [exec_app ho hs hx h1]
  exact hK _ _ (K v' w' h2 h3 h4 h5)
theorem add0 (g j : Nat) : (⟨g, 0, none⟩ : Addr).add j = ⟨g, j, none⟩ := by unfold Addr.add; split <;> simp_all
end Go.Proofs.Ytbppjaglgbhckaa.CaC

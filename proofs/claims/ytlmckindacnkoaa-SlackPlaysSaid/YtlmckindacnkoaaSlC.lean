/- Package slack, third text: append onto a row of items of one's own; slices.Clone. No condition. -/
import Derived.Test.YtlmckindacnkoaaSlB
import Derived.Maps.AppendAt
import Derived.OwnWalk
import Derived.Lib.SliceRun
set_option linter.unusedVariables false
set_option linter.unusedSimpArgs false
namespace Go.Proofs.Ytlmckindacnkoaa.SlC
open Go.RowKit Go.Proofs.Ytlmckindacnkoaa.Kit Go.Proofs.Ytlmckindacnkoaa.SlA Go.Proofs.Ytlmckindacnkoaa.SlB
theorem info_it : ∃ i, Try.prog.info? 41 = some i ∧ i.zero = some (.agg #[.int .i64 0, .int .i64 0]) ∧ i.size = 2 ∧ i.bytes = 16 := by
  have h : (Try.prog.info? 41).map (fun i => (i.zero, i.size, i.bytes)) = some (some (.agg #[.int .i64 0, .int .i64 0]), 2, 16) := by kernel_rfl
  obtain ⟨i, hi, he⟩ := Option.map_eq_some_iff.1 h
  simp only [Prod.mk.injEq] at he
  exact ⟨i, hi, he.1, he.2.1, he.2.2⟩
theorem flat_get (ys : List It) (w : World) (ad : Addr) (h : ∀ (j : Nat) (x : It), ys[j]? = some x → w.cell? (ad.add (j * 2)) = some (.int .i64 x.1) ∧ w.cell? (ad.add (j * 2 + 1)) = some (.int .i64 x.2)) :
    ∀ j u, (flat ys)[j]? = some u → w.cell? (ad.add j) = some u := by
  intro j u hj
  have hl := (List.getElem?_eq_some_iff.1 hj).1
  rw [flat_len] at hl
  have hk : j / 2 < ys.length := by omega
  have hx := List.getElem?_eq_getElem hk
  have hf := flat_at ys (j / 2) _ hx
  have hc := h (j / 2) _ hx
  rcases Nat.mod_two_eq_zero_or_one j with hm | hm
  · have e : j = j / 2 * 2 := by omega
    rw [e] at hj ⊢
    rw [hf.1] at hj
    rw [← hj]; exact hc.1
  · have e : j = j / 2 * 2 + 1 := by omega
    rw [e] at hj ⊢
    rw [hf.2] at hj
    rw [← hj]; exact hc.2
theorem run_app {w : World} {B : Nat} {v : Value} {xs : List It} (ty : TypeId) (h : Row w B 41 v xs) (ad : Addr) (c : Nat) (ys : List It)
    (hy : ∀ (j : Nat) (x : It), ys[j]? = some x → w.cell? (ad.add (j * 2)) = some (.int .i64 x.1) ∧ w.cell? (ad.add (j * 2 + 1)) = some (.int .i64 x.2)) (hl : xs.length + ys.length ≤ 1000000) (hB : B ≤ w.heap.size) :
    ∃ v' w', (Builtin.append_ #[38, 38] ty #[v, .slice (some ad) ys.length c]).run Try.prog w = .ok v' w' ∧ Row w' B 41 v' (xs ++ ys) ∧ w.grownBy w' v.ownBlock ∧
      (v' = .slice none 0 0 ↔ v = .slice none 0 0 ∧ ys.length = 0) ∧ (v'.ownBlock = v.ownBlock ∨ v'.ownBlock = some w.heap.size) := by
  obtain ⟨i, hi, hz, hs, hb⟩ := info_it
  obtain ⟨v', w', h1, h2, h3, h4, h5⟩ := run_append_own_at (P := Try.prog) w B 38 ty 41 i _ 2 16 Try.underlying38 hi hz hs hb rfl (by decide) v xs.length (flat xs) h ad ys.length c (flat ys) (flat_len ys) (flat_get ys w ad hy)
    (by intro u hu; simp only [flat, List.mem_flatMap] at hu; obtain ⟨x, _, hx⟩ := hu; simp at hx; rcases hx with rfl | rfl <;> rfl) (by simp only [maxLen]; omega) (by omega) hB
  refine ⟨v', w', h1, ?_, h3, h4, h5⟩
  unfold Row
  rw [List.length_append, flat_app]
  exact h2
theorem exec_app {w w' : World} {o : Oper} {a : Act} {v v' z : Value} {s x : Operand} (ho : o.op = .call { callee := .builtin .append, args := #[s, x], argTypes := #[38, 38] }) (hs : a.eval s = v) (hx : a.eval x = z)
    (hr : (Builtin.append_ #[38, 38] o.type #[v, z]).run Try.prog w = .ok v' w') : (execOp a.eval o).run Try.prog w = .ok (.value v') w' := by
  unfold execOp
  simp only [ho, resolve, invoke, builtin, Sem.run_bind, Sem.run_pure, Result.andThen_ok, List.map_toArray, List.map_cons, List.map_nil, hs, hx, hr]
theorem wpList_app {ops : Array Oper} {rest : List Oper} {o : Oper} {a : Act} {Q : Exit → Act → World → Prop} {w : World} (hgd : o.guard = none) (s x : Operand)
    (ho : o.op = .call { callee := .builtin .append, args := #[s, x], argTypes := #[38, 38] }) (B : Nat) (v : Value) (xs : List It) (hs : a.eval s = v) (h : Row w B 41 v xs)
    (ad : Addr) (c : Nat) (ys : List It) (hx : a.eval x = .slice (some ad) ys.length c) (hy : ∀ (j : Nat) (x : It), ys[j]? = some x → w.cell? (ad.add (j * 2)) = some (.int .i64 x.1) ∧ w.cell? (ad.add (j * 2 + 1)) = some (.int .i64 x.2))
    (hl : xs.length + ys.length ≤ 1000000) (hB : B ≤ w.heap.size)
    (K : ∀ v' w', Row w' B 41 v' (xs ++ ys) → w.grownBy w' v.ownBlock → (v' = .slice none 0 0 ↔ v = .slice none 0 0 ∧ ys.length = 0) → (v'.ownBlock = v.ownBlock ∨ v'.ownBlock = some w.heap.size) → wpList Try.prog ops Q rest (a.put o.dst v') w') :
    wpList Try.prog ops Q (o :: rest) a w := by
  refine wpList_plain hgd fun K' hK => ?_
  obtain ⟨v', w', h1, h2, h3, h4, h5⟩ := run_app o.type h ad c ys hy hl hB
  unfold Oper.wp
  rw [exec_app ho hs hx h1]
  exact hK _ _ (K v' w' h2 h3 h4 h5)
theorem add0 (g j : Nat) : (⟨g, 0, none⟩ : Addr).add j = ⟨g, j, none⟩ := by unfold Addr.add; split <;> simp_all
set_option maxHeartbeats 4000000 in
set_option maxRecDepth 100000 in
theorem Clone_at (w : World) (B : Nat) (v : Value) (xs : List It) (h : Row w B 41 v xs) (hl : xs.length ≤ 1000) :
    Calls Try.prog 19 #[v] w fun r w' => ∃ v', r = .returned v' ∧ Row w' w.heap.size 41 v' xs ∧ Below w.heap.size w w' := by
  have q38 : ∀ (w : World) (a : Option Addr) (n c n' c' : Nat), (binOp .eql 38 (.slice a n c) (.slice none n' c')).run Try.prog w = .ok (.bool a.isNone) w := fun w a n c n' c' => Lib.run_eql_slice_nil w _ _ a n c n' c' Try.underlying38
  rcases h.read with ⟨rfl, rfl⟩ | ⟨g, cap, rfl, hB, hg, hn, hm, hr⟩
  · go_enter Try.func19, Try.ntmps19
    go_wp2_with fail
    go_ret
    exact ⟨_, rfl, ⟨by simp [flat], .inl ⟨rfl, rfl⟩⟩, by (repeat (with_reducible first | exact Below.refl _ _ | apply below_drewN | apply below_drew))⟩
  · have HR := Side.mk hr
    have HH := Side.mk h
    clear hr h hB hn hm
    have HG := Side.mk hg
    clear hg
    go_enter Try.func19, Try.ntmps19
    go_wp2_with (at_builtin; refine wpList_app rfl _ _ rfl w.heap.size _ [] rfl ?c1 ⟨g, 0, none⟩ cap xs rfl ?c2 ?c3 ?c4 ?c5)
    case c1 => exact ⟨rfl, .inr ⟨w.heap.size, 0, #[], rfl, Nat.le_refl _, heap_alloc_new w _, Nat.le_refl _, by simp only [maxLen]; omega, rfl, rfl⟩⟩
    case c2 =>
      intro j x hj
      rw [add0, add0, World.cell?_alloc_some _ _ _ (by rw [(HR.out j x hj).1]; rfl), World.cell?_alloc_some _ _ _ (by rw [(HR.out j x hj).2]; rfl)]
      exact HR.out j x hj
    case c3 => simp; omega
    case c4 => simp
    case c5 =>
      intro v' w' hrow hgr _ hat
      have HW := Side.mk hrow
      have HB : Side (Below w.heap.size w w') := ⟨Below.grown ((Below.refl _ w).alloc (Nat.le_refl _) _) hgr (by simp) (by intro k hk; simp [Value.ownBlock] at hk; omega)⟩
      clear hrow hgr hat
      go_wp2
      go_ret
      exact ⟨_, rfl, HW.out, HB.out⟩
end Go.Proofs.Ytlmckindacnkoaa.SlC

/- Package calendar: items copied between rows; a row with room shifted; a row grown by nothings. No condition. -/
import Derived.Test.YtbppjaglgbhckaaCaI
import Derived.Lib.Overlaps
import Derived.Lib.AppendZerosOnto
import Derived.Laws.Append
set_option linter.unusedVariables false
set_option linter.unusedSimpArgs false
namespace Go.Proofs.Ytbppjaglgbhckaa.CaJ
open Go.RowKit Go.Proofs.Ytbppjaglgbhckaa.Kit Go.Proofs.Ytbppjaglgbhckaa.CaA Go.Proofs.Ytbppjaglgbhckaa.CaB Go.Proofs.Ytbppjaglgbhckaa.CaC Go.Proofs.Ytbppjaglgbhckaa.CaD Go.Proofs.Ytbppjaglgbhckaa.CaF
open Go.Proofs.YtbppjaglgbhckaaW.PrintWords (setCells_row setCells_far setCells_same)
theorem flat_one (ys : List It) : ∀ v ∈ flat ys, v.oneCell' = true := by
  intro u hu
  simp only [flat, List.mem_flatMap] at hu
  obtain ⟨x, _, hx⟩ := hu
  simp at hx
  rcases hx with rfl | rfl <;> rfl
/-- copy(d, s), into a block of cells. -/
theorem run_copy_it (w : World) (ty : TypeId) (g o dLen dCap : Nat) (ad : Addr) (sLen sCap : Nat) (ys : List It) (cur : Array Value) (t : TypeId) (hg : w.heap[g]? = some (.cells cur t (0, 0)))
    (hn : ys.length = Nat.min sLen dLen) (hfit : o + ys.length * 2 ≤ cur.size)
    (hs : ∀ (j : Nat) (x : It), ys[j]? = some x → w.cell? (ad.add (j * 2)) = some (.int .i64 x.1) ∧ w.cell? (ad.add (j * 2 + 1)) = some (.int .i64 x.2)) :
    (Builtin.copy_ #[40, 40] ty #[.slice (some ⟨g, o, none⟩) dLen dCap, .slice (some ad) sLen sCap]).run Try.prog w = .ok (goInt ys.length) (w.setCells g o (flat ys)) := by
  obtain ⟨i, hi, hz, hsz, hb⟩ := info_it
  have hl := run_firstCells_some (P := Try.prog) w 2 ys.length ad sLen sCap (flat ys) (flat_len ys) (flat_get ys w ad hs)
  have hst := run_storeCells_cells (P := Try.prog) g o (flat ys) 0 w (fun j hj => by
      rw [flat_len] at hj
      rw [cell_of_row w g _ cur t (0, 0) hg, Array.getElem?_eq_getElem (by omega)]; rfl) (fun j _ => by simp [World.frozen?, hg]) (flat_one ys)
  simp only [Nat.add_zero] at hst
  have hn' : Nat.min sLen dLen = ys.length := hn.symm
  simp [Builtin.copy_, run_underlying Try.underlying40, Builtin.lenOf, sizeOf, typeInfo, hi, hsz, hn', hl, hst]
theorem exec_copy {w w' : World} {o : Oper} {a : Act} {v v' z : Value} {s x : Operand} (ho : o.op = .call { callee := .builtin .copy, args := #[s, x], argTypes := #[40, 40] }) (hs : a.eval s = v) (hx : a.eval x = z)
    (hr : (Builtin.copy_ #[40, 40] o.type #[v, z]).run Try.prog w = .ok v' w') : (execOp a.eval o).run Try.prog w = .ok (.value v') w' := by
  unfold execOp
  simp only [ho, resolve, invoke, builtin, Sem.run_bind, Sem.run_pure, Result.andThen_ok, List.map_toArray, List.map_cons, List.map_nil, hs, hx, hr]
theorem wpList_run {ops : Array Oper} {rest : List Oper} {o : Oper} {a : Act} {Q : Exit → Act → World → Prop} {w : World} (hgd : o.guard = none) (v' : Value) (w' : World) (h : (execOp a.eval o).run Try.prog w = .ok (.value v') w')
    (K : wpList Try.prog ops Q rest (a.put o.dst v') w') : wpList Try.prog ops Q (o :: rest) a w := by
  refine wpList_plain hgd fun K' hK => ?_
  unfold Oper.wp
  rw [h]
  exact hK _ _ K
theorem exec_grow {w w' : World} {o : Oper} {a : Act} {v v' z : Value} {s x : Operand} (ho : o.op = .call { callee := .builtin .append, args := #[s, x], argTypes := #[40, 3] }) (hs : a.eval s = v) (hx : a.eval x = z)
    (hr : (Builtin.append_ #[40, 3] o.type #[v, z]).run Try.prog w = .ok v' w') : (execOp a.eval o).run Try.prog w = .ok (.value v') w' := by
  unfold execOp
  simp only [ho, resolve, invoke, builtin, Sem.run_bind, Sem.run_pure, Result.andThen_ok, List.map_toArray, List.map_cons, List.map_nil, hs, hx, hr]
/-- Room for one more: what stands behind i moved by one, x put at i. -/
theorem Row.shift {w : World} {B g n cap : Nat} {t : TypeId} {xs : List It} (h : Row w B t (.slice (some ⟨g, 0, none⟩) n cap) xs) (i : Nat) (x : It) (hi : i ≤ xs.length) (hc : n + 1 ≤ cap) :
    Row ((w.setCells g ((i + 1) * 2) (flat (xs.drop i))).setCells g (i * 2) (flat [x])) B t (.slice (some ⟨g, 0, none⟩) (n + 1) cap) (xs.take i ++ x :: xs.drop i) := by
  obtain ⟨hl, ⟨h0, _⟩ | ⟨g', cap', cur, hv, hB, hg, hn, hm, hs, ht⟩⟩ := h
  · simp at h0
  · simp at hv
    obtain ⟨rfl, rfl, rfl⟩ := hv
    have hdl : (flat (xs.drop i)).length = (xs.length - i) * 2 := by rw [flat_len, List.length_drop]
    obtain ⟨c1, h1, h2, h3⟩ := setCells_row (flat (xs.drop i)) ((i + 1) * 2) w cur hg (by rw [hdl, hs]; omega)
    obtain ⟨c2, k1, k2, k3⟩ := setCells_row (flat [x]) (i * 2) _ c1 h1 (by rw [flat_len, h2, hs]; simp; omega)
    have hln : (xs.take i ++ x :: xs.drop i).length = xs.length + 1 := by simp; omega
    have hcl : cur.toList.length = cap * 2 := by rw [Array.length_toList]; exact hs
    refine ⟨by rw [flat_len], .inr ⟨g, cap, c2, by rw [hln], hB, k1, by rw [hln]; exact hc, hm, by rw [k2, h2, hs], ?_⟩⟩
    have e1 : cur.toList.take (i * 2) = flat (xs.take i) := by
      rw [← flat_take, ← ht, take_take _ (by omega)]
    have e2 : c1.toList.take (i * 2) = flat (xs.take i) := by
      rw [h3, List.append_assoc, List.take_append_of_le_length (by rw [List.length_take]; omega), take_take _ (by omega), e1]
    have e3 : c1.toList.drop ((i + 1) * 2) = flat (xs.drop i) ++ cur.toList.drop ((i + 1) * 2 + (flat (xs.drop i)).length) := by
      rw [h3, List.append_assoc, List.drop_append_of_le_length (by rw [List.length_take]; omega), List.drop_eq_nil_of_le (by rw [List.length_take]; omega)]
      rfl
    rw [hln, k3, e2, show i * 2 + (flat [x]).length = (i + 1) * 2 by rw [flat_len]; simp; omega, e3, ← List.append_assoc, flat_app]
    have e4 : flat (x :: xs.drop i) = flat [x] ++ flat (xs.drop i) := by rw [← flat_app]; rfl
    rw [e4, ← List.append_assoc]
    apply List.take_left'
    simp only [List.length_append, flat_len, List.length_take, List.length_drop, List.length_cons, List.length_nil]
    omega
/-- Items written over items. -/
theorem Row.splice {w : World} {B g n cap : Nat} {t : TypeId} {ys : List It} (h : Row w B t (.slice (some ⟨g, 0, none⟩) n cap) ys) (k : Nat) (zs : List It) (hk : k + zs.length ≤ ys.length) :
    Row (w.setCells g (k * 2) (flat zs)) B t (.slice (some ⟨g, 0, none⟩) n cap) (ys.take k ++ zs ++ ys.drop (k + zs.length)) := by
  obtain ⟨hl, ⟨h0, _⟩ | ⟨g', cap', cur, hv, hB, hg, hn, hm, hs, ht⟩⟩ := h
  · simp at h0
  · simp at hv
    obtain ⟨rfl, rfl, rfl⟩ := hv
    obtain ⟨c1, h1, h2, h3⟩ := setCells_row (flat zs) (k * 2) w cur hg (by rw [flat_len, hs]; omega)
    have hln : (ys.take k ++ zs ++ ys.drop (k + zs.length)).length = ys.length := by simp; omega
    have hcl : cur.toList.length = cap * 2 := by rw [Array.length_toList]; exact hs
    refine ⟨by rw [flat_len], .inr ⟨g, cap, c1, by rw [hln], hB, h1, by omega, hm, by rw [h2, hs], ?_⟩⟩
    rw [hln, h3, CaF.splice _ _ _ _ (by rw [flat_len]; omega) (by omega), ht, flat_len, ← Nat.add_mul, flat_app, flat_app, flat_take, flat_drop]
theorem zeros_flat (k : Nat) : (Builtin.zeroCells (Value.agg #[.int .i64 0, .int .i64 0]).cells k).toList = flat (List.replicate k (0, 0)) := by
  have hc : (Value.agg #[.int .i64 0, .int .i64 0]).cells = #[.int .i64 0, .int .i64 0] := rfl
  have h2 : (#[Value.int .i64 0, .int .i64 0] : Array Value).size = 2 := rfl
  rw [hc]
  apply List.ext_getElem?
  intro j
  have hlen : (Builtin.zeroCells #[Value.int .i64 0, .int .i64 0] k).toList.length = k * 2 := by simp [Builtin.zeroCells]
  by_cases hj : j < k * 2
  · have hr : (List.replicate k ((0, 0) : It))[j / 2]? = some (0, 0) := by rw [List.getElem?_replicate, if_pos (by omega)]
    have hf := flat_at _ (j / 2) _ hr
    have hz : (Builtin.zeroCells #[Value.int .i64 0, .int .i64 0] k).toList[j]? = some (.int .i64 0) := by
      have : (Builtin.zeroCells #[Value.int .i64 0, .int .i64 0] k).toList[j]? = some ((#[Value.int .i64 0, .int .i64 0] : Array Value)[j % 2]!) := by
        simp [Builtin.zeroCells, hj]
      rw [this]
      rcases Nat.mod_two_eq_zero_or_one j with h | h <;> rw [h] <;> rfl
    rw [hz]
    rcases Nat.mod_two_eq_zero_or_one j with h | h
    · rw [show j = j / 2 * 2 by omega]
      exact hf.1.symm
    · rw [show j = j / 2 * 2 + 1 by omega]
      exact hf.2.symm
  · rw [List.getElem?_eq_none (by omega), List.getElem?_eq_none (by rw [flat_len, List.length_replicate]; omega)]
/-- append(s[:i], make([]T, k)...) past the capacity. -/
theorem run_zeros {w : World} {B g n cap : Nat} {xs : List It} (ty : TypeId) (h : Row w B 44 (.slice (some ⟨g, 0, none⟩) n cap) xs) (i : Nat) (hi : i ≤ xs.length) (k : Nat) (h0 : 0 < k) (hc : cap < i + k) (hk : i + k ≤ 1000000) (hB : B ≤ w.heap.size) :
    ∃ G, i + k ≤ G ∧ ∃ w', (Builtin.append_ #[40, 3] ty #[.slice (some ⟨g, 0, none⟩) i cap, .int .i64 k]).run Try.prog w = .ok (.slice (some ⟨w.heap.size, 0, none⟩) (i + k) G) w' ∧
      Row w' B 44 (.slice (some ⟨w.heap.size, 0, none⟩) (i + k) G) (xs.take i ++ List.replicate k (0, 0)) ∧ Below w.heap.size w w' ∧ w.heap.size < w'.heap.size := by
  obtain ⟨it, hit, hz, hsz, hb⟩ := info_it
  rcases h.read with ⟨h1, _⟩ | ⟨g', cap', hv, hBg, hgl, hn, hm, hr⟩
  · simp at h1
  simp at hv
  obtain ⟨rfl, rfl, rfl⟩ := hv
  have hold : (Builtin.firstCells it.size i (.slice (some ⟨g, 0, none⟩) i cap)).run Try.prog w.drew = .ok (flat (xs.take i)).toArray w.drew := by
    rw [hsz]
    refine run_firstCells_some w.drew 2 i ⟨g, 0, none⟩ i cap (flat (xs.take i)) (by rw [flat_len, List.length_take]; omega) (flat_get (xs.take i) w.drew ⟨g, 0, none⟩ (fun j x hj => ?_))
    rw [List.getElem?_take] at hj
    split at hj
    · rw [add0, add0]
      exact hr j x hj
    · cases hj
  have hG1 := grownCap_ge w (i + k) cap 44
  have hG2 := grownCap_le_maxLen w (i + k) cap 44 (by simp only [maxLen]; omega)
  have hrz := Go.Lib.run_append_grow_zeros w 40 3 ty 44 it _ .i64 .i64 Try.underlying40 Try.underlying3 hit hz (some ⟨g, 0, none⟩) i cap _ hold k h0 (by omega) hc (by omega) (by rw [hb]; omega) (growslice_fits hc (by rw [hb]; omega))
  generalize grownCap w (i + k) cap 44 = G at *
  refine ⟨G, hG1, _, hrz, ?_, ⟨rfl, rfl, rfl, by simp, fun q hq => heap_alloc_old w.drew _ hq⟩, by simp⟩
  have hln : (xs.take i ++ List.replicate k ((0, 0) : It)).length = i + k := by simp; omega
  have hcs : (Value.agg #[.int .i64 0, .int .i64 0]).cells.size = 2 := rfl
  refine ⟨by rw [flat_len], .inr ⟨w.heap.size, G, _, by rw [hln], hB, heap_alloc_new w.drew _, by rw [hln]; exact hG1, hG2, ?_, ?_⟩⟩
  · simp only [Array.size_append, List.size_toArray, size_zeroCells, hcs, flat_len, List.length_take]
    omega
  · rw [hln, flat_app, ← zeros_flat]
    simp only [Array.toList_append]
    apply List.take_left'
    simp only [List.length_append, flat_len, List.length_take, Array.length_toList, size_zeroCells, hcs]
    omega
theorem info_row {w : World} {B g n cap : Nat} {t : TypeId} {xs : List It} (h : Row w B t (.slice (some ⟨g, 0, none⟩) n cap) xs) : n = xs.length ∧ n ≤ cap ∧ B ≤ g ∧ g < w.heap.size ∧ cap ≤ maxLen ∧ ∃ cur, w.heap[g]? = some (.cells cur t (0, 0)) ∧ cur.size = cap * 2 ∧
    ∀ j x, xs[j]? = some x → w.cell? ⟨g, j * 2, none⟩ = some (.int .i64 x.1) ∧ w.cell? ⟨g, j * 2 + 1, none⟩ = some (.int .i64 x.2) := by
  have hrd := h.read
  obtain ⟨hl, ⟨h0, _⟩ | ⟨g', cap', cur, hv, hB, hg, hn, hm, hs, ht⟩⟩ := h
  · simp at h0
  · simp at hv
    obtain ⟨rfl, rfl, rfl⟩ := hv
    rcases hrd with ⟨h1, _⟩ | ⟨g', cap', hv, _, _, _, _, hr⟩
    · simp at h1
    · simp at hv
      obtain ⟨rfl, rfl⟩ := hv
      exact ⟨rfl, hn, hB, (Array.getElem?_eq_some_iff.1 hg).1, hm, cur, hg, hs, hr⟩
end Go.Proofs.Ytbppjaglgbhckaa.CaJ

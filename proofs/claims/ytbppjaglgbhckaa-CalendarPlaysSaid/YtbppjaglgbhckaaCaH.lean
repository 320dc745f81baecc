/- Package calendar, eighth text: rows of whole numbers; what Give gives, in plain words. No condition. -/
import Derived.Test.YtbppjaglgbhckaaCaG
set_option linter.unusedVariables false
set_option linter.unusedSimpArgs false
namespace Go.Proofs.Ytbppjaglgbhckaa.CaH
open Go.RowKit Go.Proofs.Ytbppjaglgbhckaa.Kit Go.Proofs.Ytbppjaglgbhckaa.CaA Go.Proofs.Ytbppjaglgbhckaa.CaB Go.Proofs.Ytbppjaglgbhckaa.CaC Go.Proofs.Ytbppjaglgbhckaa.CaD Go.Proofs.Ytbppjaglgbhckaa.CaF Go.Proofs.Ytbppjaglgbhckaa.CaG
def ints (xs : List Int) : List Value := xs.map (fun x => .int .i64 x)
/-- Whole numbers in a row of one's own. -/
def IRow (w : World) (B : Nat) (v : Value) (xs : List Int) : Prop := w.ownsRow B 3 1 v xs.length (ints xs)
theorem IRow.read {w : World} {B : Nat} {v : Value} {xs : List Int} (h : IRow w B v xs) : (v = .slice none 0 0 ∧ xs = []) ∨ ∃ g cap, v = .slice (some ⟨g, 0, none⟩) xs.length cap ∧ B ≤ g ∧ g < w.heap.size ∧ xs.length ≤ cap ∧ cap ≤ maxLen ∧
    ∀ (j : Nat) (x : Int), xs[j]? = some x → w.cell? ⟨g, j, none⟩ = some (.int .i64 x) := by
  obtain ⟨hl, ⟨rfl, h0⟩ | ⟨g, cap, cur, rfl, hB, hg, hn, hm, hs, ht⟩⟩ := h
  · exact .inl ⟨rfl, List.eq_nil_of_length_eq_zero h0⟩
  · refine .inr ⟨g, cap, rfl, hB, (Array.getElem?_eq_some_iff.1 hg).1, hn, hm, fun j x hj => ?_⟩
    have hjl : j < xs.length := (List.getElem?_eq_some_iff.1 hj).1
    rw [cell_of_row w g _ cur _ (0, 0) hg]
    have e : cur[j]? = (ints xs)[j]? := by rw [← ht, List.getElem?_take, if_pos (by omega)]; simp
    rw [e]
    simp [ints, hj]
theorem IRow.nil (w : World) (B : Nat) : IRow w B (.slice none 0 0) [] := ⟨rfl, .inl ⟨rfl, rfl⟩⟩
theorem IRow.move {w w' : World} {B : Nat} {v : Value} {xs : List Int} (h : IRow w B v xs) (hm : ∀ k, v.ownBlock = some k → w'.heap[k]? = w.heap[k]?) : IRow w' B v xs := Go.Proofs.YtbppjaglgbhckaaW.PrintWords.own_move h hm
theorem IRow.lt {w : World} {B : Nat} {v : Value} {xs : List Int} (h : IRow w B v xs) (k : Nat) (hk : v.ownBlock = some k) : k < w.heap.size := by
  rcases h.read with ⟨rfl, _⟩ | ⟨g, cap, rfl, hB, hg, _⟩
  · simp [Value.ownBlock] at hk
  · simp [Value.ownBlock] at hk; omega
theorem IRow.base {w : World} {B : Nat} {v : Value} {xs : List Int} (h : IRow w B v xs) (k : Nat) (hk : v.ownBlock = some k) : B ≤ k := by
  rcases h.read with ⟨rfl, _⟩ | ⟨g, cap, rfl, hB, hg, _⟩
  · simp [Value.ownBlock] at hk
  · simp [Value.ownBlock] at hk; omega
theorem IRow.below {w w' : World} {B : Nat} {v : Value} {xs : List Int} (h : IRow w B v xs) (hb : Below w.heap.size w w') : IRow w' B v xs := IRow.move h (fun k hk => hb.block k (IRow.lt h k hk))
theorem IRow.chg {w w' : World} {B : Nat} {v : Value} {xs : List Int} {S : Nat → Prop} (h : IRow w B v xs) (hc : Chg w w' S) (hS : ∀ k, v.ownBlock = some k → ¬ S k) : IRow w' B v xs := IRow.move h (fun k hk => hc.block k (IRow.lt h k hk) (hS k hk))
theorem Row.chg {w w' : World} {B : Nat} {t : TypeId} {v : Value} {xs : List It} {S : Nat → Prop} (h : Row w B t v xs) (hc : Chg w w' S) (hS : ∀ k, v.ownBlock = some k → ¬ S k) : Row w' B t v xs := Row.move h (fun k hk => hc.block k (Row.lt h k hk) (hS k hk))
theorem info_int : ∃ i, Try.prog.info? 3 = some i ∧ i.zero = some (.int .i64 0) ∧ i.size = 1 ∧ i.bytes = 8 := by
  have h : (Try.prog.info? 3).map (fun i => (i.zero, i.size, i.bytes)) = some (some (.int .i64 0), 1, 8) := by kernel_rfl
  obtain ⟨i, hi, he⟩ := Option.map_eq_some_iff.1 h
  simp only [Prod.mk.injEq] at he
  exact ⟨i, hi, he.1, he.2.1, he.2.2⟩
theorem run_iapp {w : World} {B : Nat} {v : Value} {xs : List Int} (ty : TypeId) (h : IRow w B v xs) (ad : Addr) (c : Nat) (x : Int)
    (hy : w.cell? (ad.add 0) = some (.int .i64 x)) (hl : xs.length ≤ 1000000) (hB : B ≤ w.heap.size) :
    ∃ v' w', (Builtin.append_ #[28, 28] ty #[v, .slice (some ad) 1 c]).run Try.prog w = .ok v' w' ∧ IRow w' B v' (xs ++ [x]) ∧ w.grownBy w' v.ownBlock ∧ (v'.ownBlock = v.ownBlock ∨ v'.ownBlock = some w.heap.size) := by
  obtain ⟨i, hi, hz, hs, hb⟩ := info_int
  obtain ⟨v', w', h1, h2, h3, h4, h5⟩ := run_append_own_at (P := Try.prog) w B 28 ty 3 i _ 1 8 Try.underlying28 hi hz hs hb rfl (by decide) v xs.length (ints xs) h ad 1 c [.int .i64 x] rfl
    (by intro j u hj; rcases j with _ | j <;> simp at hj; subst hj; exact hy) (by intro u hu; simp at hu; subst hu; rfl) (by simp only [maxLen]; omega) (by omega) hB
  refine ⟨v', w', h1, ?_, h3, h5⟩
  unfold IRow
  rw [List.length_append, show ints (xs ++ [x]) = ints xs ++ [.int .i64 x] by simp [ints]]
  exact h2
theorem wpList_iapp {ops : Array Oper} {rest : List Oper} {o : Oper} {a : Act} {Q : Exit → Act → World → Prop} {w : World} (hgd : o.guard = none) (s x : Operand)
    (ho : o.op = .call { callee := .builtin .append, args := #[s, x], argTypes := #[28, 28] }) (B : Nat) (v : Value) (xs : List Int) (hs : a.eval s = v) (h : IRow w B v xs)
    (ad : Addr) (c : Nat) (z : Int) (hx : a.eval x = .slice (some ad) 1 c) (hy : w.cell? (ad.add 0) = some (.int .i64 z))
    (hl : xs.length ≤ 1000000) (hB : B ≤ w.heap.size)
    (K : ∀ v' w', IRow w' B v' (xs ++ [z]) → w.grownBy w' v.ownBlock → (v'.ownBlock = v.ownBlock ∨ v'.ownBlock = some w.heap.size) → wpList Try.prog ops Q rest (a.put o.dst v') w') :
    wpList Try.prog ops Q (o :: rest) a w := by
  refine wpList_plain hgd fun K' hK => ?_
  obtain ⟨v', w', h1, h2, h3, h5⟩ := run_iapp o.type h ad c z hy hl hB
  unfold Oper.wp execOp
  simp only [ho, resolve, invoke, builtin, Sem.run_bind, Sem.run_pure, Result.andThen_ok, List.map_toArray, List.map_cons, List.map_nil, hs, hx, h1]
  exact hK _ _ (K v' w' h2 h3 h5)
end Go.Proofs.Ytbppjaglgbhckaa.CaH

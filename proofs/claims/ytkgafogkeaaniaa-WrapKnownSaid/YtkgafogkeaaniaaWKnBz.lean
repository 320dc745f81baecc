/- WrapKnown: rows that printed functions give, in memory; a call through a function's value. No condition. -/
import Derived.Test.YtkgafogkeaaniaaWKnAz
set_option linter.unusedVariables false
set_option linter.unusedSimpArgs false
namespace Go.Proofs.Ytkgafogkeaaniaa.WKnB
open Go.RowKit Go.Proofs.Ytkgafogkeaaniaa.Kit Go.Proofs.Ytkgafogkeaaniaa.Kit3 Go.Proofs.Ytkgafogkeaaniaa.Kit4 Go.Proofs.Ytkgafogkeaaniaa.Kit5 Go.Proofs.Ytkgafogkeaaniaa.WlA Go.Proofs.Ytkgafogkeaaniaa.WlB Go.Proofs.Ytkgafogkeaaniaa.WlC Go.Proofs.Ytkgafogkeaaniaa.WlD Go.Proofs.Ytkgafogkeaaniaa.WlK Go.Proofs.Ytkgafogkeaaniaa.WKnA
open Go.Proofs.Ytkgafogkeaaniaa.PW
open Go.Proofs.YtkgafogkeaaniaaW.PrintLast
open Go.Proofs.YtkgafogkeaaniaaW.PrintWords hiding below_then below_alloc below_drew
theorem kr_row {w : World} {base : Nat} {ok : Nat → Prop} {v : Value} {l : List S41} (h : Kd.R k41 41 w base ok v l) (hne : l ≠ []) :
    ∃ g cap, v = .slice (some ⟨g, 0, none⟩) l.length cap ∧ base ≤ g ∧ g < w.heap.size ∧ l.length ≤ cap ∧ Kd.C k41 w (some ⟨g, 0, none⟩) l.length l ∧ ∀ (j : Nat) (x : S41), l[j]? = some x → ∀ r u, (pcl x)[r]? = some u → w.cell? ⟨g, j * 8 + r, none⟩ = some u := by
  obtain ⟨A, c, he, hl, hC⟩ := Kd.R_reads h
  obtain ⟨inner, ⟨_, ho⟩, _⟩ := h.2
  rcases ho with ⟨_, h0⟩ | ⟨g, cap, cur, rfl, hb, hg, hn, _⟩
  · exact absurd (List.eq_nil_of_length_eq_zero h0) hne
  · injection he with h1 h2 h3
    subst h1
    refine ⟨g, cap, rfl, hb, (Array.getElem?_eq_some_iff.1 hg).1, hn, hC, fun j x hj r u hr => ?_⟩
    have hjl : j < l.length := (List.getElem?_eq_some_iff.1 hj).1
    obtain ⟨ad, cs, e, _, hK, hcs⟩ := Kd.C_get hC x (j : Int) (by omega) (by omega)
    injection e with e
    subst e
    have hx : l.getD (Int.toNat (j : Int)) x = x := by
      rw [Int.toNat_natCast, List.getD_eq_getElem?_getD, hj]; rfl
    rw [hx] at hK
    have hk := k41_open hK
    have := hcs r u (by rw [hk]; exact hr)
    rw [Int.toNat_natCast, show (⟨g, 0, none⟩ : Addr).add (j * k41.sz + r) = ⟨g, j * 8 + r, none⟩ by
      show Addr.add ⟨g, 0, none⟩ (j * 8 + r) = _
      rw [Addr.add_lit, Nat.zero_add]] at this
    exact this
theorem goesT_ {P : Program} {ops : Array Oper} {Q : Exit → Act → World → Prop} {oi : Oper} {N : Option Tmp} {a : Act} {w : World} {K : Act → World → Prop} {f : FuncId} {fn : Func} {az : Array Operand} {ts : Array TypeId} {t : Tmp} (hf : P.funcs[f]? = some fn) (hname : (fn.name == "runtime.NumGoroutine") = false) (hb : fn.body.isSome = true) (args : Array Value)
    (hw : Region.wanted oi (yielded ops a.tmps) = true) (hN : oi.dst = N) (hop : oi.op = .call { callee := .value (.tmp t), args := az, argTypes := ts }) (ht : a.eval (.tmp t) = .func (.func f) #[] #[]) (hargs : az.map a.eval = args)
    (h : Calls P f args w fun e w' => ∃ v, e = .returned v ∧ K (a.put N v) w') : if Region.wanted oi (yielded ops a.tmps) = true then Oper.wp P oi a w K Q else K (a.put N undef) w := by
  refine call_ f args hw hN ?_ h
  have he := enters_ hf hname hb args w
  unfold execOp
  simp [hop, resolve, Deferred.ofValue, invoke, ht, hargs, he]
end Go.Proofs.Ytkgafogkeaaniaa.WKnB

/- Package wrap: what Lay answers; where it stands while it lays. No condition. -/
import Derived.Test.YtkgafogkeaaniaaWlBzm
set_option linter.unusedVariables false
set_option linter.unusedSimpArgs false
namespace Go.Proofs.Ytkgafogkeaaniaa.WlC
open Go.RowKit Go.Proofs.Ytkgafogkeaaniaa.Kit Go.Proofs.Ytkgafogkeaaniaa.Kit3 Go.Proofs.Ytkgafogkeaaniaa.Kit4 Go.Proofs.Ytkgafogkeaaniaa.Kit5 Go.Proofs.Ytkgafogkeaaniaa.WlA Go.Proofs.Ytkgafogkeaaniaa.WlB
open Go.Proofs.Ytkgafogkeaaniaa.PW
open Go.Proofs.YtkgafogkeaaniaaW.PrintLast
open Go.Proofs.YtkgafogkeaaniaaW.PrintWords hiding below_then below_alloc below_drew
def pcl (x : S41) : List Value := [.int .i64 x.f0, .int .i64 x.f1, .int .i64 x.f2, .int .i64 x.f3.f0, .int .i64 x.f3.f1, .int .i64 x.f4.f0, .int .i64 x.f4.f1, .bool x.f5]
theorem E8 : El 8 pcl := ⟨by decide, fun _ => rfl, fun x v hv => by simp [pcl] at hv; rcases hv with rfl | rfl | rfl | rfl | rfl | rfl | rfl | rfl <;> rfl⟩
abbrev PRow := GRow 41 8 pcl
theorem infoP : (Try.prog.info? 41).map (fun i => (i.zero, i.size, i.bytes)) = some (some (.agg #[.int .i64 0, .int .i64 0, .int .i64 0, .int .i64 0, .int .i64 0, .int .i64 0, .int .i64 0, .bool false]), 8, 64) := by kernel_rfl
/-- One share laid, piece by piece. -/
def inn (k : Nat) (fr e0 e1 id : Int) (sl : Bool) : Nat → Int → Int → Int → Int → Int → List S41 → Option (Int × Int × Int × List S41)
  | 0, _, _, _, _, _, _ => none
  | f + 1, core, a0, a1, l0, l1, out =>
    if l0 > 0 then
      (ratio_Sub.f k e0 e1 a0 a1).bind fun rm => if rm.2.2 = 0 then
      (wrap_less.f k l0 l1 rm.1 rm.2.1).bind fun n =>
      (ratio_Add.f k a0 a1 n.1 n.2).bind fun nx => if nx.2.2 = 0 then
      (ratio_Sub.f k l0 l1 n.1 n.2).bind fun lf => if lf.2.2 = 0 then
      (ratio_Cmp.f k nx.1 nx.2.1 e0 e1).bind fun c =>
        if 0 ≤ core ∧ core < 1000 ∧ out.length < 1000 then
          (if c = 0 then inn k fr e0 e1 id sl f (core + 1) fr 1 lf.1 lf.2.1 (out ++ [⟨3, core, id, ⟨a0, a1⟩, ⟨nx.1, nx.2.1⟩, sl⟩])
          else inn k fr e0 e1 id sl f core nx.1 nx.2.1 lf.1 lf.2.1 (out ++ [⟨3, core, id, ⟨a0, a1⟩, ⟨nx.1, nx.2.1⟩, sl⟩]))
        else none
      else none else none else none
    else some (core, a0, a1, out)
def layL (k F : Nat) (fr tt : Int) : List S49 → Int → Int → Int → List S41 → Option (List S41)
  | [], _, _, _, out => some out
  | x :: r, core, a0, a1, out => (inn k fr tt 1 x.f0 x.f2 F core a0 a1 x.f1.f0 x.f1.f1 out).bind fun s => layL k F fr tt r s.1 s.2.1 s.2.2.1 s.2.2.2
def layF (k F : Nat) (l : List S49) (fr tt co : Int) : Option (List S41 × Int) :=
  (mayF k l fr tt co).bind fun e => if e = 0 then (layL k F fr tt l 0 fr 1 []).bind fun out => some (out, 0) else some ([], e)
abbrev rat (x y : Int) : Obj := .cells #[.int .i64 x, .int .i64 y] 37 (0, 0)
/-- While shares are laid. -/
structure Ly (W w : World) (gs ga ge : Nat) (a0 a1 tt : Int) (v : Value) (out : List S41) : Prop where
  bel : Below W.heap.size W w
  s : w.heap[gs]? = some (.cells #[.int .i64 0] 54 (0, 0))
  a : w.heap[ga]? = some (rat a0 a1)
  e : w.heap[ge]? = some (rat tt 1)
  row : PRow w W.heap.size v out
  b1 : W.heap.size ≤ ga
  n1 : ga ≠ ge
section
variable {W w w' : World} {gs ga ge : Nat} {a0 a1 tt : Int} {v : Value} {out : List S41}
theorem lt_of {g : Nat} {o : Obj} (h : w.heap[g]? = some o) : g < w.heap.size := (Array.getElem?_eq_some_iff.1 h).1
theorem keep_blk {g : Nat} {o : Obj} (h : w.heap[g]? = some o) (hb : Below w.heap.size w w') : w'.heap[g]? = some o := (hb.block g (lt_of h)).trans h
theorem Ly.below (h : Ly W w gs ga ge a0 a1 tt v out) (hb : Below w.heap.size w w') : Ly W w' gs ga ge a0 a1 tt v out :=
  ⟨below_then h.bel h.bel.size hb, keep_blk h.s hb, keep_blk h.a hb, keep_blk h.e hb, h.row.below hb, h.b1, h.n1⟩
/-- A box of a fraction is written. -/
theorem set_rat {g : Nat} {x y x' y' : Int} (h : w.heap[g]? = some (rat x y)) :
    ((w.setCell ⟨g, 0, none⟩ (.int .i64 x')).setCell ⟨g, 1, none⟩ (.int .i64 y')).heap[g]? = some (rat x' y') ∧ Chg w ((w.setCell ⟨g, 0, none⟩ (.int .i64 x')).setCell ⟨g, 1, none⟩ (.int .i64 y')) (fun k => k = g) := by
  have h1 := Kit.blk_set h 0 (.int .i64 x')
  have h2 := Kit.blk_set h1 1 (.int .i64 y')
  refine ⟨h2, ?_⟩
  exact (Chg.set w g 0 (.int .i64 x')).trans (Chg.set _ g 1 (.int .i64 y')) (fun _ _ h => h)
theorem chg_blk {g k : Nat} {o : Obj} (hc : Chg w w' (fun k => k = g)) (h : w.heap[k]? = some o) (hn : k ≠ g) : w'.heap[k]? = some o := (hc.block k (lt_of h) hn).trans h
theorem ne_ty {g k : Nat} {cs ds : Array Value} {t u : TypeId} (h : w.heap[g]? = some (.cells cs t (0, 0))) (h' : w.heap[k]? = some (.cells ds u (0, 0))) (hn : t ≠ u) : g ≠ k := by
  intro e
  subst e
  rw [h] at h'
  simp at h'
  exact hn h'.2
/-- A box of a fraction, none of these, is written. -/
theorem Ly.other (h : Ly W w gs ga ge a0 a1 tt v out) {g : Nat} {x y : Int} (hg : w.heap[g]? = some (rat x y)) (hb : W.heap.size ≤ g) (h1 : g ≠ ga) (h2 : g ≠ ge) (hc : Chg w w' (fun k => k = g)) : Ly W w' gs ga ge a0 a1 tt v out := by
  refine ⟨h.bel.trans (Chg.below hc h.bel.size (fun k e => by rw [e]; exact hb)), chg_blk hc h.s (ne_ty h.s hg (by decide)), chg_blk hc h.a (fun e => h1 e.symm), chg_blk hc h.e (fun e => h2 e.symm), h.row.chg hc (fun j hj e => ?_), h.b1, h.n1⟩
  obtain ⟨cur, hj'⟩ := h.row.cells j hj
  exact ne_ty hj' hg (by decide) e
theorem Ly.at_ (h : Ly W w gs ga ge a0 a1 tt v out) {x y : Int} (hc : Chg w w' (fun k => k = ga)) (hg : w'.heap[ga]? = some (rat x y)) : Ly W w' gs ga ge x y tt v out := by
  refine ⟨h.bel.trans (Chg.below hc h.bel.size (fun k e => by rw [e]; exact h.b1)), chg_blk hc h.s (ne_ty h.s h.a (by decide)), hg, chg_blk hc h.e (fun e => h.n1 e.symm), h.row.chg hc (fun j hj e => ?_), h.b1, h.n1⟩
  obtain ⟨cur, hj'⟩ := h.row.cells j hj
  exact ne_ty hj' h.a (by decide) e
/-- One piece more. -/
theorem Ly.grow (h : Ly W w gs ga ge a0 a1 tt v out) {v' : Value} {out' : List S41} (hr : PRow w' W.heap.size v' out') (hg : w.grownBy w' v.ownBlock) : Ly W w' gs ga ge a0 a1 tt v' out' := by
  have hk : ∀ {g : Nat} {cs : Array Value} {t : TypeId}, w.heap[g]? = some (.cells cs t (0, 0)) → t ≠ 41 → w'.heap[g]? = some (.cells cs t (0, 0)) := fun {g cs t} hx ht => by
    refine (hg.block g (lt_of hx) (fun e => ?_)).trans hx
    obtain ⟨cur, hj'⟩ := h.row.cells g e.symm
    exact ne_ty hx hj' ht rfl
  refine ⟨⟨hg.os.trans h.bel.os, hg.tape.trans h.bel.tape, hg.output.trans h.bel.output, Nat.le_trans h.bel.size hg.size, fun b hb => (hg.block b (Nat.lt_of_lt_of_le hb h.bel.size) (fun e => by have := h.row.base b e.symm; omega)).trans (h.bel.block b hb)⟩, hk h.s (by decide), hk h.a (by decide), hk h.e (by decide), hr, h.b1, h.n1⟩
theorem grown_blk {g : Nat} {cs : Array Value} {t : TypeId} (h : PRow w W.heap.size v out) (hg : w.grownBy w' v.ownBlock) (hx : w.heap[g]? = some (.cells cs t (0, 0))) (ht : t ≠ 41) : w'.heap[g]? = some (.cells cs t (0, 0)) := by
  refine (hg.block g (lt_of hx) (fun e => ?_)).trans hx
  obtain ⟨cur, hj'⟩ := h.cells g e.symm
  exact ne_ty hx hj' ht rfl
end
theorem rat0 {w : World} {g : Nat} {x y : Int} (h : w.heap[g]? = some (rat x y)) : w.cell? ⟨g, 0, none⟩ = some (.int .i64 x) := cell_of_row w g 0 _ _ (0, 0) h
theorem rat1 {w : World} {g : Nat} {x y : Int} (h : w.heap[g]? = some (rat x y)) : w.cell? ⟨g, 1, none⟩ = some (.int .i64 y) := cell_of_row w g 1 _ _ (0, 0) h
abbrev shr (x0 x1 x2 : Int) (x3 : Bool) : Obj := .cells #[.int .i64 x0, .int .i64 x1, .int .i64 x2, .bool x3] 49 (0, 0)
theorem run_papp {w : World} {B : Nat} {v : Value} {xs : List S41} (ty : TypeId) (h : PRow w B v xs) (p : Nat) (x : S41) (hp : w.heap[p]? = some (.cells (pcl x).toArray 41 (0, 0))) (hl : xs.length < 1000) (hB : B ≤ w.heap.size) :
    ∃ v' w', (Builtin.append_ #[26, 26] ty #[v, .slice (some ⟨p, 0, none⟩) 1 1]).run Try.prog w = .ok v' w' ∧ PRow w' B v' (xs ++ [x]) ∧ w.grownBy w' v.ownBlock := by
  obtain ⟨v', w', p1, p2, p3, _, p5⟩ := run_gapp E8 Try.underlying26 infoP rfl (by decide) ty h ⟨p, 0, none⟩ 1 [x] (fun j y hj r u hu => by
    rcases j with _ | j
    · simp at hj
      subst hj
      rw [show (⟨p, 0, none⟩ : Addr).add (0 * 8 + r) = ⟨p, r, none⟩ by rw [Nat.zero_mul, Nat.zero_add, Addr.add_lit, Nat.zero_add]]
      rw [cell_of_row w p r _ _ (0, 0) hp]
      simpa using hu
    · simp at hj) (by simp; omega) hB
  exact ⟨v', w', p1, p2, p3⟩
theorem wpList_papp {ops : Array Oper} {rest : List Oper} {o : Oper} {a : Act} {Q : Exit → Act → World → Prop} {w : World} (hgd : o.guard = none) (s x : Operand)
    (ho : o.op = .call { callee := .builtin .append, args := #[s, x], argTypes := #[26, 26] }) (B : Nat) (v : Value) (xs : List S41) (hs : a.eval s = v) (h : PRow w B v xs)
    (p : Nat) (y : S41) (hx : a.eval x = .slice (some ⟨p, 0, none⟩) 1 1) (hp : w.heap[p]? = some (.cells (pcl y).toArray 41 (0, 0))) (hl : xs.length < 1000) (hB : B ≤ w.heap.size)
    (K : ∀ v' w', PRow w' B v' (xs ++ [y]) → w.grownBy w' v.ownBlock → wpList Try.prog ops Q rest (a.put o.dst v') w') :
    wpList Try.prog ops Q (o :: rest) a w := by
  refine wpList_plain hgd fun K' hK => ?_
  obtain ⟨v', w', h1, h2, h3⟩ := run_papp o.type h p y hp hl hB
  unfold Oper.wp
  rw [exec_app ho hs hx h1]
  exact hK _ _ (K v' w' h2 h3)
end Go.Proofs.Ytkgafogkeaaniaa.WlC

/- Rows of ranks that are turned in place. No condition. -/
import Derived.Test.YtmjgadhknliiaaaSoP
import Derived.Test.YtmjgadhknliiaaaRank
import Derived.Test.YtmjgadhknliiaaaKit3
import Derived.Test.YtmjgadhknliiaaaKit4
import Derived.Test.YtmjgadhknliiaaaKit5
import Derived.Deep.RegionHeld3
import Derived.StillTactics
import Derived.Deep.Cut
import Derived.Deep.DeepCutAuto
set_option linter.unusedVariables false
set_option linter.unusedSimpArgs false
namespace Go.Proofs.Ytmjgadhknliiaaa.SoA
open Go.RowKit Go.Proofs.Ytmjgadhknliiaaa.Kit Go.Proofs.Ytmjgadhknliiaaa.Kit3 Go.Proofs.Ytmjgadhknliiaaa.Kit4 Go.Proofs.Ytmjgadhknliiaaa.Kit5 Go.Proofs.Ytmjgadhknliiaaa.Cmp Go.Proofs.Ytmjgadhknliiaaa.Rank
open Go.Proofs.YtmjgadhknliiaaaW.PrintLast
open Go.Proofs.YtmjgadhknliiaaaW.PrintWords (run_store_run)
def rcl (x : R) : List Value := [.int .i64 x.d, .int .i64 x.b, .int .i64 x.g, .int .i64 x.i]
theorem E4 : El 4 rcl := ⟨by decide, fun _ => rfl, fun x v hv => by simp [rcl] at hv; rcases hv with rfl | rfl | rfl | rfl <;> rfl⟩
abbrev RRow := GRow 26 4 rcl
theorem infoR : (Try.prog.info? 26).map (fun i => (i.zero, i.size, i.bytes)) = some (some (.agg #[.int .i64 0, .int .i64 0, .int .i64 0, .int .i64 0]), 4, 32) := by kernel_rfl
theorem goes_v {ops : Array Oper} {Q : Exit → Act → World → Prop} {oi : Oper} {N : Option Tmp} {a : Act} {w : World} {K : Act → World → Prop} {f : FuncId} {fn : Func} {us : Array Operand} {ts : Array TypeId} {x : Operand} (hf : Try.prog.funcs[f]? = some fn) (hname : (fn.name == "runtime.NumGoroutine") = false) (hb : fn.body.isSome = true) (args : Array Value)
    (hw : Region.wanted oi (yielded ops a.tmps) = true) (hN : oi.dst = N) (hx : a.eval x = .func (.func f) #[] #[]) (hop : oi.op = .call { callee := .value x, args := us, argTypes := ts }) (hargs : us.map a.eval = args)
    (h : Calls Try.prog f args w fun e w' => ∃ v, e = .returned v ∧ K (a.put N v) w') : if Region.wanted oi (yielded ops a.tmps) = true then Oper.wp Try.prog oi a w K Q else K (a.put N undef) w := by
  refine call_ f args hw hN ?_ h
  have he := enters_ hf hname hb args w
  unfold execOp
  simp [hop, resolve, Deferred.ofValue, invoke, hx, hargs, he]
def zR : R := ⟨0, 0, 0, 0⟩
def at_ (xs : List R) (p : Nat) : R := xs.getD p zR
theorem at_get {xs : List R} {p : Nat} (h : p < xs.length) : xs[p]? = some (at_ xs p) := by
  unfold at_
  rw [List.getD_eq_getElem?_getD, List.getElem?_eq_getElem h]
  rfl
theorem at_set {xs : List R} {i p : Nat} {v : R} (h : i < xs.length) : at_ (xs.set i v) p = if p = i then v else at_ xs p := by
  unfold at_
  rw [List.getD_eq_getElem?_getD, List.getD_eq_getElem?_getD, List.getElem?_set]
  by_cases e : p = i
  · rw [if_pos e.symm, if_pos h, if_pos e]; rfl
  · rw [if_neg (fun h => e h.symm), if_neg e]
/-- Two change places. -/
def sw (xs : List R) (i j : Nat) : List R := (xs.set i (at_ xs j)).set j (at_ xs i)
theorem sw_len (xs : List R) (i j : Nat) : (sw xs i j).length = xs.length := by simp [sw]
theorem at_sw {xs : List R} {i j p : Nat} (hi : i < xs.length) (hj : j < xs.length) : at_ (sw xs i j) p = at_ xs (if p = j then i else if p = i then j else p) := by
  unfold sw
  rw [at_set (by simpa using hj), at_set hi]
  repeat' split
  all_goals rfl
/-- The row, in memory. -/
structure M (w : World) (B g n cap : Nat) (xs : List R) : Prop where
  row : RRow w B (.slice (some ⟨g, 0, none⟩) n cap) xs
  len : xs.length = n
  small : n ≤ 1000
theorem M.lt {w : World} {B g n cap : Nat} {xs : List R} (h : M w B g n cap xs) : g < w.heap.size := h.row.lt g rfl
theorem M.cell {w : World} {B g n cap : Nat} {xs : List R} (h : M w B g n cap xs) {p : Nat} (hp : p < n) : w.cell? ⟨g, p * 4, none⟩ = some (.int .i64 (at_ xs p).d) ∧ w.cell? ⟨g, p * 4 + 1, none⟩ = some (.int .i64 (at_ xs p).b) ∧ w.cell? ⟨g, p * 4 + 2, none⟩ = some (.int .i64 (at_ xs p).g) ∧ w.cell? ⟨g, p * 4 + 3, none⟩ = some (.int .i64 (at_ xs p).i) := by
  have hl := h.len
  obtain ⟨g', hg, _, _, _, _, hr⟩ := h.row.get E4 (by rintro rfl; simp at hl; omega)
  obtain rfl : g = g' := by simpa using hg
  have hx := at_get (xs := xs) (p := p) (by omega)
  exact ⟨hr p _ hx 0 _ rfl, hr p _ hx 1 _ rfl, hr p _ hx 2 _ rfl, hr p _ hx 3 _ rfl⟩
theorem M.below {w w' : World} {B g n cap : Nat} {xs : List R} (h : M w B g n cap xs) (hb : Below w.heap.size w w') : M w' B g n cap xs := ⟨h.row.below hb, h.len, h.small⟩
theorem M.write {w : World} {B g n cap : Nat} {xs : List R} (h : M w B g n cap xs) {i : Nat} (hi : i < n) (x : R) : M (w.setCells g (i * 4) (rcl x)) B g n cap (xs.set i x) := ⟨h.row.write E4 i x (by rw [h.len]; exact hi), by simp [h.len], h.small⟩
theorem M.store {w : World} {B g n cap : Nat} {xs : List R} (h : M w B g n cap xs) {i : Nat} (hi : i < n) (x : R) (u : Value) (hu : u.cells.toList = rcl x) : (Instr.storeAt 26 (.pointer (some ⟨g, i * 4, none⟩)) u).run Try.prog w = .ok () (w.setCells g (i * 4) (rcl x)) := by
  have hl := h.len
  rcases h.row.read E4 with ⟨h0, _⟩ | ⟨g', cap', hv, _, _, h1, _, ⟨cur, hc, hs⟩, _⟩
  · simp at h0
  · simp at hv
    obtain ⟨rfl, _, rfl⟩ := hv
    refine run_store_run 26 u (rcl x) hc hu (by kernel_rfl) ?_ (E4.one x)
    show i * 4 + 4 ≤ cur.size
    omega
theorem M.swap {w : World} {B g n cap : Nat} {xs : List R} (h : M w B g n cap xs) {i j : Nat} (hi : i < n) (hj : j < n) : M ((w.setCells g (i * 4) (rcl (at_ xs j))).setCells g (j * 4) (rcl (at_ xs i))) B g n cap (sw xs i j) := (h.write hi _).write hj _
/-- Two stores, the second one behind the first. -/
structure Two (W : World) (g i j : Nat) (xs : List R) (s1 s2 : Nat) (b : Nat → Bool) (w' : World) : Prop where
  n : b s1 = false → w' = W
  d : b s2 = true → b s1 = true
  y1 : b s1 = true → b s2 = false → w' = W.setCells g (i * 4) (rcl (at_ xs j))
  y2 : b s2 = true → w' = (W.setCells g (i * 4) (rcl (at_ xs j))).setCells g (j * 4) (rcl (at_ xs i))
section
variable {W w' : World} {g i j s1 s2 k : Nat} {xs : List R} {b : Nat → Bool}
theorem Two.start : Two W g i j xs s1 s2 (fun _ => false) W := ⟨fun _ => rfl, fun h => (by cases h), fun h => (by cases h), fun h => (by cases h)⟩
theorem Two.low (h : Two W g i j xs s1 s2 b w') (k : Nat) (hk : (s1 != k && s2 != k) = true) : Two W g i j xs s1 s2 (up b k) w' := by
  simp only [Bool.and_eq_true, bne_iff_ne, ne_eq] at hk
  have e1 := up_ne (b := b) hk.1
  have e2 := up_ne (b := b) hk.2
  constructor
  · rw [e1]; exact h.n
  · rw [e1, e2]; exact h.d
  · rw [e1, e2]; exact h.y1
  · rw [e2]; exact h.y2
theorem Two.st1 (h : Two W g i j xs s1 s2 b w') (h1 : b s1 = false) (hk : (s2 != s1) = true) : Two W g i j xs s1 s2 (up b s1) (W.setCells g (i * 4) (rcl (at_ xs j))) := by
  simp only [bne_iff_ne, ne_eq] at hk
  have e2 := up_ne (b := b) hk
  have h2 : b s2 = false := by
    cases e : b s2
    · rfl
    · rw [h.d e] at h1; cases h1
  constructor
  · rw [up_self]; exact fun e => by cases e
  · rw [e2, h2]; exact fun e => by cases e
  · exact fun _ _ => rfl
  · rw [e2, h2]; exact fun e => by cases e
theorem Two.st2 (h1 : b s1 = true) (hk : (s1 != s2) = true) : Two W g i j xs s1 s2 (up b s2) ((W.setCells g (i * 4) (rcl (at_ xs j))).setCells g (j * 4) (rcl (at_ xs i))) := by
  simp only [bne_iff_ne, ne_eq] at hk
  have e1 := up_ne (b := b) hk
  constructor
  · rw [e1, h1]; exact fun e => by cases e
  · rw [e1]; exact fun _ => h1
  · rw [up_self]; exact fun _ e => by cases e
  · exact fun _ => rfl
end
theorem sw_chg {W : World} {B g n cap i j : Nat} {xs : List R} (h : M W B g n cap xs) : Chg W ((W.setCells g (i * 4) (rcl (at_ xs j))).setCells g (j * 4) (rcl (at_ xs i))) (fun k => k = g) := (chg_cells W g _ _).trans (chg_cells _ g _ _) (fun _ _ h => h)
/-! ### which goes first -/
def lt (x y : R) : Bool := decide (rcmp x y < 0)
theorem lt_iff {x y : R} : lt x y = true ↔ x.d < y.d ∨ (x.d = y.d ∧ (y.b < x.b ∨ (x.b = y.b ∧ ((x.b = 1 ∧ y.g < x.g) ∨ ((x.b = 1 → x.g = y.g) ∧ x.i < y.i))))) := by
  unfold lt rcmp c2 c1 or2 cmp3
  rw [decide_eq_true_eq]
  by_cases h1 : x.d < y.d
  · simp [h1]
  · by_cases h2 : y.d < x.d
    · have : ¬ x.d = y.d := by omega
      simp [h1, h2, this]
    · have e1 : x.d = y.d := by omega
      by_cases h3 : y.b < x.b
      · simp [e1, h3]
      · by_cases h4 : x.b < y.b
        · have : ¬ x.b = y.b := by omega
          simp [e1, h3, h4, this]
        · have e2 : x.b = y.b := by omega
          by_cases h5 : y.b = 1
          · by_cases h6 : y.g < x.g
            · simp [e1, e2, h5, h6]
            · by_cases h7 : x.g < y.g
              · have : ¬ x.g = y.g := by omega
                simp [e1, e2, h5, h6, h7, this]
              · have e3 : x.g = y.g := by omega
                simp [e1, e2, h5, e3]
                (repeat' split) <;> omega
          · simp [e1, e2, h5]
            (repeat' split) <;> omega
theorem lt_no {x y : R} : lt x y = false ↔ ¬ (x.d < y.d ∨ (x.d = y.d ∧ (y.b < x.b ∨ (x.b = y.b ∧ ((x.b = 1 ∧ y.g < x.g) ∨ ((x.b = 1 → x.g = y.g) ∧ x.i < y.i)))))) := by rw [← lt_iff]; simp
theorem ordR : SoPlain.Ord lt := ⟨fun x y h => by rw [lt_iff] at h; rw [lt_no]; omega, fun x y z h1 h2 => by rw [lt_no] at *; omega⟩
end Go.Proofs.Ytmjgadhknliiaaa.SoA

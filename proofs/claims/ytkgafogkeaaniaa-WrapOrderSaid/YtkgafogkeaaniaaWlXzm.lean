/- Package wrap: Lay in whole numbers: all fractions over one denominator. No condition. -/
import Derived.Test.YtkgafogkeaaniaaRwVzm
import Derived.Test.YtkgafogkeaaniaaWlCzm
set_option linter.unusedVariables false
set_option linter.unusedSimpArgs false
namespace Go.Proofs.Ytkgafogkeaaniaa.WlX
open Go.RowKit Go.Proofs.Ytkgafogkeaaniaa.PW Go.Proofs.YtkgafogkeaaniaaW.PrintWords Go.Proofs.Ytkgafogkeaaniaa.RwC Go.Proofs.Ytkgafogkeaaniaa.RwD Go.Proofs.Ytkgafogkeaaniaa.RwV WhPlain RaPlain Go.Proofs.Ytkgafogkeaaniaa.WlA Go.Proofs.Ytkgafogkeaaniaa.WlC
theorem up {α : Type} {f : Nat → Option α} (m : ∀ k, LeO (f k) (f (k + 1))) {k : Nat} {r : α} (h : f k = some r) (j : Nat) : f (k + j) = some r := by
  induction j with
  | zero => exact h
  | succ j ih => exact m _ _ ih
structure Mb (M : Int) : Prop where
  pos : 0 < M
  le : M ≤ 16777216
abbrev Sm (a : Int) : Prop := a.natAbs ≤ 1125899906842624
def rt (M a : Int) : S37 := ⟨(red a M).1, (red a M).2⟩
section
variable {M : Int} (hM : Mb M) {a b : Int}
include hM
theorem fr (ha : Sm a) : Fr (red a M) := by
  obtain ⟨h1, h2⟩ := red_le (n := a) hM.pos
  have hr := red_R (n := a) hM.pos
  have := hr.pos
  have := hM.le
  exact ⟨hr, by unfold I; omega, by unfold I; omega⟩
theorem fits (ha : Sm a) : FitR (red a M) := by
  obtain ⟨h1, h2⟩ := red_le (n := a) hM.pos
  have := hM.le
  exact ⟨by omega, by omega⟩
theorem add_red : add (red a M) (red b M) = red (a + b) M := by
  have h := Q.add (red_Q (n := a) hM.pos) (red_Q (n := b) hM.pos)
  exact h.unique (red_Q (n := a + b) hM.pos) (by rw [← Int.add_mul, Int.mul_assoc])
theorem sub_red : sub (red a M) (red b M) = red (a - b) M := by
  have h := Q.sub (red_Q (n := a) hM.pos) (red_Q (n := b) hM.pos)
  exact h.unique (red_Q (n := a - b) hM.pos) (by rw [← Int.sub_mul, Int.mul_assoc])
omit hM in
theorem whole_Q (n : Int) : Q (n, 1) n 1 := ⟨⟨by show (0 : Int) < 1; decide, by simp⟩, by decide, by simp⟩
theorem whole_red (n : Int) : red (n * M) M = (n, 1) := (red_Q (n := n * M) hM.pos).unique (whole_Q n) (by simp)
theorem mul_red (c : Int) : mul (red a M) (c, 1) = red (a * c) M := by
  have h := Q.mul (red_Q (n := a) hM.pos) (whole_Q c)
  exact h.unique (red_Q (n := a * c) hM.pos) (by simp)
theorem cmp_red : cmp3 ((red a M).1 * (red b M).2) ((red b M).1 * (red a M).2) = cmp3 a b := by
  have h1 := Q.lt (red_Q (n := a) hM.pos) (red_Q (n := b) hM.pos)
  have h2 := Q.lt (red_Q (n := b) hM.pos) (red_Q (n := a) hM.pos)
  rw [Int.mul_lt_mul_right hM.pos] at h1 h2
  unfold cmp3
  by_cases c1 : a < b
  · rw [if_pos c1, if_pos (h1.2 c1)]
  · rw [if_neg c1, if_neg (fun h => c1 (h1.1 h))]
    by_cases c2 : b < a
    · rw [if_pos c2, if_pos (h2.2 c2)]
    · rw [if_neg c2, if_neg (fun h => c2 (h2.1 h))]
theorem pos_red : 0 < (red a M).1 ↔ 0 < a := by
  have h := (red_Q (n := a) hM.pos)
  have e := h.eq
  have p := h.r.pos
  constructor
  · intro q
    have : 0 < (red a M).1 * M := Int.mul_pos q hM.pos
    rw [e] at this
    exact Int.pos_of_mul_pos_left this p
  · intro q
    have : 0 < a * (red a M).2 := Int.mul_pos q p
    rw [← e] at this
    exact Int.pos_of_mul_pos_left this hM.pos
theorem neg_red : (red a M).1 < 0 ↔ a < 0 := by
  have h := (red_Q (n := a) hM.pos)
  have e := h.eq
  have p := h.r.pos
  constructor
  · intro q
    rcases Int.lt_or_le a 0 with h0 | h0
    · exact h0
    · have h1 : (red a M).1 * M < 0 := Int.mul_neg_of_neg_of_pos q hM.pos
      have h2 : 0 ≤ a * (red a M).2 := Int.mul_nonneg h0 (by omega)
      omega
  · intro q
    rcases Int.lt_or_le (red a M).1 0 with h0 | h0
    · exact h0
    · have h1 : a * (red a M).2 < 0 := Int.mul_neg_of_neg_of_pos q p
      have h2 : 0 ≤ (red a M).1 * M := Int.mul_nonneg h0 (by have := hM.pos; omega)
      omega
theorem Add_r (ha : Sm a) (hb : Sm b) (hc : Sm (a + b)) (j : Nat) : ratio_Add.f (K0 + 4 + j) (red a M).1 (red a M).2 (red b M).1 (red b M).2 = some ((red (a + b) M).1, (red (a + b) M).2, 0) := by
  have h := add_f (fr hM ha) (fr hM hb) (by rw [add_red hM]; exact fits hM hc)
  rw [add_red hM] at h
  have := up (f := fun k => ratio_Add.f k (red a M).1 (red a M).2 (red b M).1 (red b M).2) (fun k => ratio_Add.mono _ _ _ _ k) h (3 + j)
  rw [show K0 + 4 + j = K0 + 1 + (3 + j) by omega]
  exact this
theorem Sub_r (ha : Sm a) (hb : Sm b) (hc : Sm (a - b)) (j : Nat) : ratio_Sub.f (K0 + 4 + j) (red a M).1 (red a M).2 (red b M).1 (red b M).2 = some ((red (a - b) M).1, (red (a - b) M).2, 0) := by
  have h := sub_f (fr hM ha) (fr hM hb) (by rw [sub_red hM]; exact fits hM hc)
  rw [sub_red hM] at h
  have := up (f := fun k => ratio_Sub.f k (red a M).1 (red a M).2 (red b M).1 (red b M).2) (fun k => ratio_Sub.mono _ _ _ _ k) h (3 + j)
  rw [show K0 + 4 + j = K0 + 1 + (3 + j) by omega]
  exact this
theorem Cmp_r (ha : Sm a) (hb : Sm b) (j : Nat) : ratio_Cmp.f (K0 + 4 + j) (red a M).1 (red a M).2 (red b M).1 (red b M).2 = some (cmp3 a b) := by
  have h := cmp_f (fr hM ha) (fr hM hb)
  rw [cmp_red hM] at h
  exact up (f := fun k => ratio_Cmp.f k (red a M).1 (red a M).2 (red b M).1 (red b M).2) (fun k => ratio_Cmp.mono _ _ _ _ k) h j
theorem Mul_r (c : Int) (ha : Sm a) (hc0 : Sm c) (hc : Sm (a * c)) (j : Nat) : ratio_Mul.f (K0 + 4 + j) (red a M).1 (red a M).2 c 1 = some ((red (a * c) M).1, (red (a * c) M).2, 0) := by
  have hw : Fr (c, 1) := ⟨(whole_Q c).r, by unfold I; omega, by unfold I; omega⟩
  have h := mul_f (x := red a M) (y := (c, 1)) (fr hM ha) hw (by rw [mul_red hM]; exact fits hM hc)
  rw [mul_red hM] at h
  have := up (f := fun k => ratio_Mul.f k (red a M).1 (red a M).2 c 1) (fun k => ratio_Mul.mono _ _ _ _ k) h (3 + j)
  rw [show K0 + 4 + j = K0 + 1 + (3 + j) by omega]
  exact this
theorem Less_r (ha : Sm a) (hb : Sm b) (j : Nat) : wrap_less.f (K0 + 4 + j) (red a M).1 (red a M).2 (red b M).1 (red b M).2 = some ((red (if b < a then b else a) M).1, (red (if b < a then b else a) M).2) := by
  unfold wrap_less.f
  rw [Cmp_r hM hb ha, Option.bind_some]
  by_cases c : b < a
  · rw [if_pos c, cmp3_lt c]; rfl
  · rw [if_neg c, if_neg (by rcases Int.lt_or_eq_of_le (Int.not_lt.1 c) with h | h <;> first | (rw [cmp3_gt h]; decide) | (rw [cmp3_eq h.symm]; decide))]
end
/-- A piece in whole numbers. -/
def pc (M core id : Int) (sl : Bool) (a b : Int) : S41 := ⟨3, core, id, rt M a, rt M b, sl⟩
/-- One share laid. -/
def stp (M s t core a id : Int) (sl : Bool) (l : Int) (out : List S41) : Int × Int × List S41 :=
  if l ≤ 0 then (core, a, out)
  else if l < t - a then (core, a + l, out ++ [pc M core id sl a (a + l)])
  else if l = t - a then (core + 1, s, out ++ [pc M core id sl a t])
  else (core + 1, s + (l - (t - a)), out ++ [pc M core id sl a t, pc M (core + 1) id sl s (s + (l - (t - a)))])
def layI (M s t : Int) : List (Int × Int × Bool) → Int → Int → List S41 → Int × Int × List S41
  | [], core, a, out => (core, a, out)
  | x :: r, core, a, out => layI M s t r (stp M s t core a x.1 x.2.2 x.2.1 out).1 (stp M s t core a x.1 x.2.2 x.2.1 out).2.1 (stp M s t core a x.1 x.2.2 x.2.1 out).2.2
def toS (M : Int) (x : Int × Int × Bool) : S49 := ⟨x.1, rt M x.2.1, x.2.2⟩
/-- The line. -/
structure Ln (M s t fr tt : Int) : Prop where
  hM : Mb M
  hs : s = fr * M
  ht : t = tt * M
  bs : s.natAbs ≤ 281474976710656
  bt : t.natAbs ≤ 281474976710656
  lt : s < t
section
variable {M s t fr tt : Int} (L : Ln M s t fr tt) (k : Nat)
include L
theorem inn_0 (core a id : Int) (sl : Bool) (l : Int) (hl : l ≤ 0) (F : Nat) (out : List S41) : inn k fr tt 1 id sl (F + 1) core (red a M).1 (red a M).2 (red l M).1 (red l M).2 out = some (core, (red a M).1, (red a M).2, out) := by
  unfold inn
  rw [if_neg (fun h => by have := (pos_red L.hM).1 h; omega)]
theorem inn_s (j : Nat) (core a id : Int) (sl : Bool) (l : Int) (hl : 0 < l) (ha : s ≤ a) (hat : a < t) (hls : l ≤ t - s) (F : Nat) (out : List S41) (hc : 0 ≤ core) (hc1 : core < 1000) (ho : out.length < 1000) :
    inn (K0 + 4 + j) fr tt 1 id sl (F + 1) core (red a M).1 (red a M).2 (red l M).1 (red l M).2 out =
      if t - a ≤ l then inn (K0 + 4 + j) fr tt 1 id sl F (core + 1) (red s M).1 (red s M).2 (red (l - (t - a)) M).1 (red (l - (t - a)) M).2 (out ++ [pc M core id sl a t])
      else inn (K0 + 4 + j) fr tt 1 id sl F core (red (a + l) M).1 (red (a + l) M).2 (red 0 M).1 (red 0 M).2 (out ++ [pc M core id sl a (a + l)]) := by
  have hM := L.hM
  have b1' := L.bs
  have b2' := L.bt
  have b1 : Sm s := by unfold Sm; omega
  have b2 : Sm t := by unfold Sm; omega
  have e1 : red t M = (tt, 1) := by rw [L.ht]; exact whole_red hM tt
  have e2 : red s M = (fr, 1) := by rw [L.hs]; exact whole_red hM fr
  have sa : Sm a := by unfold Sm at *; omega
  have sla : Sm l := by unfold Sm at *; omega
  have sr : Sm (t - a) := by unfold Sm at *; omega
  rw [inn, if_pos ((pos_red hM).2 hl)]
  have q1 := Sub_r hM b2 sa sr j
  rw [e1] at q1
  rw [q1, Option.bind_some, if_pos rfl, Less_r hM sla sr j, Option.bind_some]
  simp only []
  by_cases c : t - a ≤ l
  · have c' : (if t - a < l then t - a else l) = t - a := by split <;> omega
    rw [c', if_pos c, Add_r hM sa sr (by unfold Sm at *; omega) j, Option.bind_some, if_pos rfl, Sub_r hM sla sr (by unfold Sm at *; omega) j, Option.bind_some, if_pos rfl]
    simp only []
    rw [show a + (t - a) = t by omega]
    have q2 := Cmp_r hM b2 b2 j
    rw [cmp3_eq rfl] at q2
    have q3 := q2
    rw [e1] at q3 ⊢
    rw [q3, Option.bind_some, if_pos ⟨hc, hc1, ho⟩, if_pos rfl, e2, pc, rt, rt, e1]
  · have c' : (if t - a < l then t - a else l) = l := by split <;> omega
    rw [c', if_neg c, Add_r hM sa sla (by unfold Sm at *; omega) j, Option.bind_some, if_pos rfl, Sub_r hM sla sla (by unfold Sm at *; omega) j, Option.bind_some, if_pos rfl]
    simp only []
    have q2 := Cmp_r hM (a := a + l) (by unfold Sm at *; omega) b2 j
    rw [cmp3_lt (by omega), e1] at q2
    rw [q2, Option.bind_some, if_pos ⟨hc, hc1, ho⟩, if_neg (by decide), pc, rt, rt, show l - l = 0 by omega]
theorem inn_stp (j : Nat) (core a id : Int) (sl : Bool) (l : Int) (hl : 0 ≤ l) (ha : s ≤ a) (hat : a < t) (hls : l ≤ t - s) (F : Nat) (out : List S41) (hc : 0 ≤ core) (hc1 : core + 1 < 1000) (ho : out.length + 1 < 1000) :
    inn (K0 + 4 + j) fr tt 1 id sl (F + 3) core (red a M).1 (red a M).2 (red l M).1 (red l M).2 out = some ((stp M s t core a id sl l out).1, (red (stp M s t core a id sl l out).2.1 M).1, (red (stp M s t core a id sl l out).2.1 M).2, (stp M s t core a id sl l out).2.2) := by
  unfold stp
  by_cases h0 : l ≤ 0
  · rw [inn_0 L _ _ _ _ _ _ h0, if_pos h0]
  rw [if_neg h0, inn_s L j core a id sl l (by omega) ha hat hls (F + 2) out hc (by omega) (by omega)]
  by_cases h1 : l < t - a
  · rw [if_pos h1, if_neg (by omega), inn_0 L _ _ _ _ _ _ (Int.le_refl _)]
  rw [if_neg h1, if_pos (by omega)]
  by_cases h2 : l = t - a
  · rw [if_pos h2, show l - (t - a) = 0 by omega, inn_0 L _ _ _ _ _ _ (Int.le_refl _)]
  rw [if_neg h2, inn_s L j (core + 1) s id sl (l - (t - a)) (by omega) (Int.le_refl _) L.lt (by omega) (F + 1) _ (by omega) hc1 (by simp; omega), if_neg (by omega), inn_0 L _ _ _ _ _ _ (Int.le_refl _)]
  simp
theorem stp_ok (core a id : Int) (sl : Bool) (l : Int) (hl : 0 ≤ l) (ha : s ≤ a) (hat : a < t) (hls : l ≤ t - s) (out : List S41) :
    (core ≤ (stp M s t core a id sl l out).1 ∧ (stp M s t core a id sl l out).1 ≤ core + 1) ∧ (s ≤ (stp M s t core a id sl l out).2.1 ∧ (stp M s t core a id sl l out).2.1 < t) ∧ (stp M s t core a id sl l out).2.2.length ≤ out.length + 2 ∧
    (stp M s t core a id sl l out).1 * (t - s) + ((stp M s t core a id sl l out).2.1 - s) = core * (t - s) + (a - s) + l := by
  have := L.lt
  unfold stp
  split
  · exact ⟨⟨Int.le_refl _, by show core ≤ core + 1; omega⟩, ⟨ha, hat⟩, by show out.length ≤ _; omega, by show core * (t - s) + (a - s) = _; omega⟩
  split
  · exact ⟨⟨Int.le_refl _, by show core ≤ core + 1; omega⟩, ⟨by show s ≤ a + l; omega, by show a + l < t; omega⟩, by simp, by show core * (t - s) + (a + l - s) = _; omega⟩
  split
  · refine ⟨⟨by show core ≤ core + 1; omega, Int.le_refl _⟩, ⟨Int.le_refl _, L.lt⟩, by simp, ?_⟩
    show (core + 1) * (t - s) + (s - s) = _
    rw [Int.add_mul]
    omega
  · refine ⟨⟨by show core ≤ core + 1; omega, Int.le_refl _⟩, ⟨by show s ≤ s + (l - (t - a)); omega, by show s + (l - (t - a)) < t; omega⟩, by simp, ?_⟩
    show (core + 1) * (t - s) + (s + (l - (t - a)) - s) = _
    rw [Int.add_mul]
    omega
theorem layL_I (j F : Nat) : ∀ (xs : List (Int × Int × Bool)) (core a : Int) (out : List S41), (∀ x ∈ xs, 0 ≤ x.2.1 ∧ x.2.1 ≤ t - s) → s ≤ a → a < t → 0 ≤ core → core + xs.length < 900 → out.length + 2 * xs.length < 900 →
    layL (K0 + 4 + j) (F + 3) fr tt (xs.map (toS M)) core (red a M).1 (red a M).2 out = some (layI M s t xs core a out).2.2
  | [], core, a, out, _, _, _, _, _, _ => rfl
  | x :: r, core, a, out, hx, h1, h2, h3, h4, h5 => by
    obtain ⟨p1, p2⟩ := hx x (List.mem_cons_self ..)
    simp only [List.length_cons] at h4 h5
    obtain ⟨⟨o1, o2⟩, ⟨o3, o4⟩, o5, _⟩ := stp_ok L core a x.1 x.2.2 x.2.1 p1 h1 h2 p2 out
    rw [List.map_cons, layL, show (toS M x).f1.f0 = (red x.2.1 M).1 from rfl, show (toS M x).f1.f1 = (red x.2.1 M).2 from rfl, show (toS M x).f0 = x.1 from rfl, show (toS M x).f2 = x.2.2 from rfl, inn_stp L j core a x.1 x.2.2 x.2.1 p1 h1 h2 p2 F out h3 (by omega) (by omega), Option.bind_some, layI]
    exact layL_I j F r (stp M s t core a x.1 x.2.2 x.2.1 out).1 (stp M s t core a x.1 x.2.2 x.2.1 out).2.1 (stp M s t core a x.1 x.2.2 x.2.1 out).2.2 (fun y hy => hx y (List.mem_cons_of_mem _ hy)) o3 o4 (by omega) (by omega) (by omega)
end
end Go.Proofs.Ytkgafogkeaaniaa.WlX

/- Plain facts on a ledger's weights: the multiple of their periods, their sum, who is there; no program in sight. -/
import Derived.Test.YtfgmenndmcjggaaRaK
set_option linter.unusedVariables false
set_option linter.unusedSimpArgs false
namespace Go.Proofs.Ytfgmenndmcjggaa.LeP
open RaPlain Go.Proofs.Ytfgmenndmcjggaa.RaK
abbrev Wt := Int × Int × Int
def has (ms : List Wt) (s : Int) : Bool := ms.any fun m => m.1 == s
def cnt (ms : List Wt) (q : Int) : Nat := ms.countP fun m => m.2.2 == q
/-- The least common multiple of all periods. -/
def ll (ms : List Wt) : Nat := ms.foldr (fun m a => Nat.lcm m.2.2.natAbs a) 1
/-- All weights in parts of M. -/
def num (M : Int) (ms : List Wt) : Int := (ms.map fun m => m.2.1 * (M / m.2.2)).sum
abbrev may (e p : Int) : Prop := 1 ≤ e ∧ e ≤ p ∧ p ≤ 1048575
theorem has_iff {ms : List Wt} {s : Int} : has ms s = true ↔ ∃ m ∈ ms, m.1 = s := by simp [has]
theorem cnt_pos {ms : List Wt} {q : Int} : 0 < cnt ms q ↔ ∃ m ∈ ms, m.2.2 = q := by simp [cnt, List.countP_pos_iff]
theorem cnt_snoc (ms : List Wt) (x : Wt) (q : Int) : cnt (ms ++ [x]) q = cnt ms q + if x.2.2 = q then 1 else 0 := by
  unfold cnt
  rw [List.countP_append, List.countP_singleton]
  simp
theorem has_snoc (ms : List Wt) (x : Wt) (s : Int) : has (ms ++ [x]) s = (has ms s || x.1 == s) := by simp [has]
theorem ll_dvd {ms : List Wt} {m : Wt} (h : m ∈ ms) : m.2.2.natAbs ∣ ll ms := by
  induction ms with
  | nil => simp at h
  | cons x r ih =>
    rcases List.mem_cons.1 h with rfl | h
    · exact Nat.dvd_lcm_left _ _
    · exact Nat.dvd_trans (ih h) (Nat.dvd_lcm_right _ _)
theorem ll_least {ms : List Wt} {a : Nat} (h : ∀ m ∈ ms, m.2.2.natAbs ∣ a) : ll ms ∣ a := by
  induction ms with
  | nil => exact Nat.one_dvd _
  | cons x r ih => exact Nat.lcm_dvd (h x (by simp)) (ih (fun m hm => h m (by simp [hm])))
theorem ll_sub {a b : List Wt} (h : ∀ m ∈ a, m ∈ b) : ll a ∣ ll b := ll_least fun m hm => ll_dvd (h m hm)
theorem ll_perm {a b : List Wt} (h : a.Perm b) : ll a = ll b := Nat.dvd_antisymm (ll_sub fun m hm => h.mem_iff.1 hm) (ll_sub fun m hm => h.mem_iff.2 hm)
theorem ll_pos {ms : List Wt} (h : ∀ m ∈ ms, 0 < m.2.2) : 0 < ll ms := by
  induction ms with
  | nil => decide
  | cons x r ih => exact Nat.lcm_pos (by have := h x (by simp); omega) (ih (fun m hm => h m (by simp [hm])))
theorem ll_snoc (ms : List Wt) (x : Wt) : ll (ms ++ [x]) = Nat.lcm x.2.2.natAbs (ll ms) := ll_perm (List.perm_append_singleton x ms)
theorem num_nil (M : Int) : num M [] = 0 := rfl
theorem num_cons (M : Int) (x : Wt) (r : List Wt) : num M (x :: r) = x.2.1 * (M / x.2.2) + num M r := by simp [num]
theorem num_snoc (M : Int) (ms : List Wt) (x : Wt) : num M (ms ++ [x]) = num M ms + x.2.1 * (M / x.2.2) := by
  unfold num
  rw [List.map_append, List.sum_append]
  simp
theorem num_perm {M : Int} {a b : List Wt} (h : a.Perm b) : num M a = num M b := by
  unfold num
  induction h with
  | nil => rfl
  | cons x _ ih => simp only [List.map_cons, List.sum_cons, ih]
  | swap x y l => simp only [List.map_cons, List.sum_cons]; omega
  | trans _ _ h1 h2 => exact h1.trans h2
theorem num_scale {ms : List Wt} (k M : Int) (h : ∀ m ∈ ms, m.2.2 ∣ M) : num (k * M) ms = k * num M ms := by
  induction ms with
  | nil => simp [num_nil]
  | cons x r ih =>
    rw [num_cons, num_cons, ih (fun m hm => h m (by simp [hm])), Int.mul_ediv_assoc k (h x (by simp)), Int.mul_add]
    congr 1
    rw [← Int.mul_assoc, ← Int.mul_assoc, Int.mul_comm x.2.1 k]
theorem num_nonneg {ms : List Wt} {M : Int} (hM : 0 ≤ M) (h : ∀ m ∈ ms, may m.2.1 m.2.2) : 0 ≤ num M ms := by
  induction ms with
  | nil => simp [num_nil]
  | cons x r ih =>
    rw [num_cons]
    have h1 := h x (by simp)
    unfold may at h1
    have h2 := Int.ediv_nonneg hM (show 0 ≤ x.2.2 by omega)
    have h3 := Int.mul_nonneg (show 0 ≤ x.2.1 by omega) h2
    have := ih (fun m hm => h m (by simp [hm]))
    omega
theorem ll_dvdI {ms : List Wt} {m : Wt} (h : m ∈ ms) : m.2.2 ∣ (ll ms : Int) := Int.natAbs_dvd.1 (Int.natCast_dvd_natCast.2 (ll_dvd h))
structure Good (k : Int) (ms : List Wt) (s : Int × Int) : Prop where
  nd : (ms.map (·.1)).Nodup
  ok : ∀ m ∈ ms, may m.2.1 m.2.2 ∧ -9223372036854775808 ≤ m.1 ∧ m.1 < 9223372036854775808
  l : ll ms ≤ 16777216
  hq : Q s (num (ll ms) ms) (ll ms)
  c : num (ll ms) ms ≤ k * ll ms
  k1 : 1 ≤ k ∧ k ≤ 64
theorem Good.may {k : Int} {ms : List Wt} {s : Int × Int} (h : Good k ms s) : ∀ m ∈ ms, may m.2.1 m.2.2 := fun m hm => (h.ok m hm).1
theorem Good.pos {k : Int} {ms : List Wt} {s : Int × Int} (h : Good k ms s) : 0 < ll ms := ll_pos fun m hm => by have := h.may m hm; unfold LeP.may at this; omega
theorem Good.sm {k : Int} {ms : List Wt} {s : Int × Int} (h : Good k ms s) : Sm s 1073741824 16777216 := by
  have hp := h.pos
  have e : s = red (num (ll ms) ms) (ll ms) := Q.unique h.hq (red_Q (by omega)) rfl
  have hl := red_le (n := num (ll ms) ms) (d := (ll ms : Int)) (by omega)
  rw [← e] at hl
  have h0 := num_nonneg (M := (ll ms : Int)) (by omega) h.may
  have h1 := h.l
  have h2 := h.c
  have h3 := h.k1
  have h4 := h.hq.r.pos
  have h5 : k * (ll ms : Int) ≤ 64 * 16777216 := Int.mul_le_mul h3.2 (by omega) (by omega) (by omega)
  exact ⟨h.hq.r, by omega, by omega⟩
def canV (k : Int) (ms : List Wt) (e p : Int) : Int :=
  if ¬ may e p then 2 else if 16777216 < Nat.lcm p.natAbs (ll ms) then 7
  else if k * (ll (ms ++ [(0, e, p)]) : Int) < num (ll (ms ++ [(0, e, p)])) (ms ++ [(0, e, p)]) then 8 else 0
theorem qsm {e p : Int} (h : may e p) : Sm (q e p) 1048575 1048575 := q_sm (by unfold may at h; omega) (by unfold may at h; omega) (by unfold may at h; omega)
theorem qQ {e p : Int} (h : may e p) : Q (q e p) e p := by
  have := q_Q (n := e) (d := p) (by unfold may at h; omega)
  unfold may at h
  rw [show sg p e = e by unfold sg; rw [if_neg (by omega)], show ((p.natAbs : Nat) : Int) = p by omega] at this
  exact this
theorem Good.addQ {k : Int} {ms : List Wt} {s : Int × Int} (h : Good k ms s) {i e p : Int} (hm : LeP.may e p) :
    Q (add s (q e p)) (num (ll (ms ++ [(i, e, p)])) (ms ++ [(i, e, p)])) (ll (ms ++ [(i, e, p)])) := by
  have hQ := Q.ad h.hq (qQ hm)
  have hp := h.pos
  have hL : 0 < ll (ms ++ [(i, e, p)]) := ll_pos fun m hmm => by
    rcases List.mem_append.1 hmm with h1 | h1
    · have := h.may m h1; unfold LeP.may at this; omega
    · simp at h1; subst h1; unfold LeP.may at hm; show 0 < p; omega
  obtain ⟨a, ha⟩ : (ll ms : Int) ∣ (ll (ms ++ [(i, e, p)]) : Int) := Int.natCast_dvd_natCast.2 (ll_sub fun m hmm => by simp [hmm])
  obtain ⟨b, hb⟩ : p ∣ (ll (ms ++ [(i, e, p)]) : Int) := ll_dvdI (m := (i, e, p)) (by simp)
  refine hQ.move (by omega) ?_
  rw [num_snoc]
  show _ = (num _ ms + e * ((ll (ms ++ [(i, e, p)]) : Int) / p)) * _
  have e1 : (ll (ms ++ [(i, e, p)]) : Int) / p = b := by rw [hb]; exact Int.mul_ediv_cancel_left b (by unfold LeP.may at hm; omega)
  have e2 : num (ll (ms ++ [(i, e, p)])) ms = a * num (ll ms) ms := by rw [ha, Int.mul_comm]; exact num_scale a _ (fun m hm => ll_dvdI hm)
  rw [e1, e2]
  generalize num (ll ms) ms = x
  generalize (ll (ms ++ [(i, e, p)]) : Int) = y at *
  generalize (ll ms : Int) = z at *
  clear hQ hp hL e1 e2
  subst ha
  have : x * p * (z * a) = a * x * (z * p) := by simp only [Int.mul_comm, Int.mul_left_comm]
  have h3 : e * z * (z * a) = e * b * (z * p) := by rw [hb]; simp only [Int.mul_comm, Int.mul_left_comm]
  rw [Int.add_mul, Int.add_mul, this, h3]
theorem canV_id (ms : List Wt) (i e p : Int) : ll (ms ++ [(i, e, p)]) = ll (ms ++ [(0, e, p)]) ∧ ∀ M, num M (ms ++ [(i, e, p)]) = num M (ms ++ [(0, e, p)]) :=
  ⟨by rw [ll_snoc, ll_snoc], fun M => by rw [num_snoc, num_snoc]⟩
theorem canV_zero {k : Int} {ms : List Wt} {e p : Int} (h : canV k ms e p = 0) : may e p ∧ Nat.lcm p.natAbs (ll ms) ≤ 16777216 ∧ num (ll (ms ++ [(0, e, p)])) (ms ++ [(0, e, p)]) ≤ k * (ll (ms ++ [(0, e, p)]) : Int) := by
  unfold canV at h
  by_cases h1 : may e p
  · rw [if_neg (by simpa using h1)] at h
    by_cases h2 : 16777216 < Nat.lcm p.natAbs (ll ms)
    · rw [if_pos h2] at h; omega
    · rw [if_neg h2] at h
      by_cases h3 : k * (ll (ms ++ [(0, e, p)]) : Int) < num (ll (ms ++ [(0, e, p)])) (ms ++ [(0, e, p)])
      · rw [if_pos h3] at h; omega
      · exact ⟨h1, by omega, by omega⟩
  · rw [if_pos h1] at h; omega
theorem Good.add {k : Int} {ms : List Wt} {s : Int × Int} (h : Good k ms s) {i e p : Int} (hi : LeP.has ms i = false) (hw : -9223372036854775808 ≤ i ∧ i < 9223372036854775808) (hc : canV k ms e p = 0) : Good k (ms ++ [(i, e, p)]) (RaK.add s (q e p)) := by
  obtain ⟨h1, h2, h3⟩ := canV_zero hc
  obtain ⟨e1, e2⟩ := canV_id ms i e p
  refine ⟨?_, ?_, by rw [ll_snoc]; exact h2, h.addQ h1, by rw [e2, e1]; exact h3, h.k1⟩
  · rw [List.map_append, List.nodup_append]
    refine ⟨h.nd, by simp, ?_⟩
    intro a ha b hb e
    simp at hb
    obtain ⟨m, hm, rfl⟩ := List.mem_map.1 ha
    rw [Bool.eq_false_iff] at hi
    exact hi (has_iff.2 ⟨m, hm, e.trans hb⟩)
  · intro m hm
    rcases List.mem_append.1 hm with hm | hm
    · exact h.ok m hm
    · simp at hm; subst hm; exact ⟨h1, hw⟩
def drp (ms : List Wt) (i : Int) : List Wt := ms.filter fun m => m.1 != i
theorem drp_perm {ms : List Wt} (hn : (ms.map (·.1)).Nodup) {m : Wt} (hm : m ∈ ms) : ms.Perm (m :: drp ms m.1) := by
  induction ms with
  | nil => simp at hm
  | cons x r ih =>
    have hn' := List.nodup_cons.1 hn
    rcases List.mem_cons.1 hm with rfl | h
    · have : drp (m :: r) m.1 = r := by
        unfold drp
        rw [List.filter_cons_of_neg (by simp)]
        refine List.filter_eq_self.2 fun y hy => ?_
        simp only [bne_iff_ne, ne_eq]
        exact fun e => hn'.1 (List.mem_map.2 ⟨y, hy, e⟩)
      rw [this]
    · have hne : x.1 ≠ m.1 := fun e => hn'.1 (List.mem_map.2 ⟨m, h, e.symm⟩)
      have : drp (x :: r) m.1 = x :: drp r m.1 := by
        unfold drp
        rw [List.filter_cons_of_pos (by simpa using hne)]
      rw [this]
      exact ((ih hn'.2 h).cons x).trans (List.Perm.swap m x _)
theorem drp_mem {ms : List Wt} {i : Int} {m : Wt} : m ∈ drp ms i ↔ m ∈ ms ∧ m.1 ≠ i := by simp [drp]
theorem drp_has (ms : List Wt) (i s : Int) : LeP.has (drp ms i) s = (LeP.has ms s && s != i) := by
  rw [Bool.eq_iff_iff, has_iff, Bool.and_eq_true, has_iff]
  constructor
  · rintro ⟨m, hm, rfl⟩
    obtain ⟨h1, h2⟩ := drp_mem.1 hm
    exact ⟨⟨m, h1, rfl⟩, by simpa using h2⟩
  · rintro ⟨⟨m, hm, rfl⟩, h⟩
    exact ⟨m, drp_mem.2 ⟨hm, by simpa using h⟩, rfl⟩
theorem cnt_perm {a b : List Wt} (h : a.Perm b) (q : Int) : cnt a q = cnt b q := h.countP_eq _
theorem cnt_cons (x : Wt) (ms : List Wt) (q : Int) : cnt (x :: ms) q = cnt ms q + if x.2.2 = q then 1 else 0 := by
  unfold cnt
  rw [List.countP_cons]
  simp
theorem Good.sub {k : Int} {ms : List Wt} {s : Int × Int} (h : Good k ms s) {m : Wt} (hm : m ∈ ms) : Good k (drp ms m.1) (RaK.sub s (q m.2.1 m.2.2)) := by
  have hp := drp_perm h.nd hm
  have hmay := h.may m hm
  have hpos := h.pos
  have hok : ∀ x ∈ drp ms m.1, LeP.may x.2.1 x.2.2 ∧ -9223372036854775808 ≤ x.1 ∧ x.1 < 9223372036854775808 := fun x hx => h.ok x (drp_mem.1 hx).1
  have hpos' : 0 < ll (drp ms m.1) := ll_pos fun x hx => by have := (hok x hx).1; unfold LeP.may at this; omega
  have hd : ll (drp ms m.1) ∣ ll ms := ll_sub fun x hx => (drp_mem.1 hx).1
  obtain ⟨a, ha⟩ : (ll (drp ms m.1) : Int) ∣ (ll ms : Int) := Int.natCast_dvd_natCast.2 hd
  obtain ⟨b, hb⟩ : m.2.2 ∣ (ll ms : Int) := ll_dvdI hm
  have e1 : (ll ms : Int) / m.2.2 = b := by rw [hb]; exact Int.mul_ediv_cancel_left b (by unfold LeP.may at hmay; omega)
  have e2 : num (ll ms) (drp ms m.1) = a * num (ll (drp ms m.1)) (drp ms m.1) := by rw [ha, Int.mul_comm]; exact num_scale a _ (fun m hm => ll_dvdI hm)
  have e3 : num (ll ms) ms = m.2.1 * b + a * num (ll (drp ms m.1)) (drp ms m.1) := by rw [num_perm hp, num_cons, e1, e2]
  have hb0 : 0 ≤ b := by rw [← e1]; exact Int.ediv_nonneg (by omega) (by unfold LeP.may at hmay; omega)
  have ha0 : 0 < a := by
    rcases Int.lt_or_le 0 a with h0 | h0
    · exact h0
    · have : (ll (drp ms m.1) : Int) * a ≤ 0 := Int.mul_nonpos_of_nonneg_of_nonpos (by omega) h0
      omega
  refine ⟨?_, hok, Nat.le_trans (Nat.le_of_dvd hpos hd) h.l, ?_, ?_, h.k1⟩
  · exact (List.nodup_cons.1 ((hp.map (·.1)).nodup_iff.1 h.nd)).2
  · have hQ := Q.sb h.hq (qQ hmay)
    refine hQ.move (by omega) ?_
    rw [e3]
    generalize num (ll (drp ms m.1)) (drp ms m.1) = x
    generalize (ll (drp ms m.1) : Int) = y at *
    generalize (ll ms : Int) = z at *
    clear e1 e2 e3 hQ
    have h1 : m.2.1 * b * m.2.2 = m.2.1 * z := by rw [hb]; simp only [Int.mul_comm, Int.mul_left_comm]
    have h2 : a * x * m.2.2 * y = x * (z * m.2.2) := by rw [ha]; simp only [Int.mul_comm, Int.mul_left_comm]
    rw [Int.add_mul, h1, show m.2.1 * z + a * x * m.2.2 - m.2.1 * z = a * x * m.2.2 by omega, h2]
  · have hc := h.c
    rw [e3] at hc
    have h5 : 0 ≤ m.2.1 * b := Int.mul_nonneg (by unfold LeP.may at hmay; omega) hb0
    have h6 : a * num (ll (drp ms m.1)) (drp ms m.1) ≤ a * (k * (ll (drp ms m.1) : Int)) := by
      have : k * (ll ms : Int) = a * (k * (ll (drp ms m.1) : Int)) := by rw [ha]; simp only [Int.mul_comm, Int.mul_left_comm]
      omega
    exact Int.le_of_mul_le_mul_left h6 ha0
theorem Good.nil {k : Int} (hk : 1 ≤ k ∧ k ≤ 64) : Good k [] (0, 1) :=
  ⟨by simp, by simp, by decide, ⟨⟨by decide, by decide⟩, by decide, by decide⟩, by simp [num_nil, ll]; omega, hk⟩
end Go.Proofs.Ytfgmenndmcjggaa.LeP

/- LedgerPlays: the reference's multiple and sum of a row of weights. No condition. -/
import Derived.Test.YtfgmenndmcjggaaLKnA
import Derived.Test.YtfgmenndmcjggaaKit5
import Derived.Laws.OwnMore
set_option linter.unusedVariables false
set_option linter.unusedSimpArgs false
namespace Go.Proofs.Ytfgmenndmcjggaa.LpA
open Go.RowKit Go.Proofs.Ytfgmenndmcjggaa.Kit Go.Proofs.Ytfgmenndmcjggaa.Kit2 Go.Proofs.Ytfgmenndmcjggaa.Kit3 Go.Proofs.Ytfgmenndmcjggaa.Kit4 Go.Proofs.Ytfgmenndmcjggaa.Kit5 Go.Proofs.Ytfgmenndmcjggaa.LeP Go.Maps Go.Proofs.Ytfgmenndmcjggaa.LeA Go.Proofs.Ytfgmenndmcjggaa.LeF Go.Proofs.Ytfgmenndmcjggaa.LeH Go.Proofs.Ytfgmenndmcjggaa.LeK
open Go.Proofs.Ytfgmenndmcjggaa.PR WhPlain RaPlain Go.Proofs.Ytfgmenndmcjggaa.RaK
open Go.Proofs.YtfgmenndmcjggaaW.PrintLast Go.Proofs.YtfgmenndmcjggaaW.PrintWords
def sw (m : Wt) : S42 := ⟨m.1, m.2.1, m.2.2⟩
def wcl (x : Wt) : List Value := [.int .i64 x.1, .int .i64 x.2.1, .int .i64 x.2.2]
theorem E3 : El 3 wcl := ⟨by decide, fun _ => rfl, fun x v hv => by simp [wcl] at hv; rcases hv with rfl | rfl | rfl <;> rfl⟩
abbrev WRow := GRow 42 3 wcl
theorem WRow.reads {w : World} {B : Nat} {v : Value} {ms : List Wt} (h : WRow w B v ms) : ∃ A c, v = .slice A ms.length c ∧ ms.length ≤ c ∧ Kd.C k42 w A (ms.map sw).length (ms.map sw) := by
  rcases h.read E3 with ⟨rfl, rfl⟩ | ⟨g, cap, rfl, hB, hg, hn, hm, _, hr⟩
  · exact ⟨none, 0, rfl, Nat.le_refl _, rfl, by simp, fun h => absurd h (by simp)⟩
  · refine ⟨_, cap, rfl, hn, rfl, by rw [List.length_map]; unfold maxLen at hm; omega, fun _ => ⟨_, rfl, fun j p hj => ?_⟩⟩
    rw [List.getElem?_map] at hj
    obtain ⟨x, hx, rfl⟩ := Option.map_eq_some_iff.1 hj
    refine ⟨[.int .i64 x.1, .int .i64 x.2.1, .int .i64 x.2.2], rfl, k42_mk w (sw x), fun i u hu => ?_⟩
    have := hr j x hx i u hu
    rw [show (⟨g, 0, none⟩ : Addr).add (j * k42.sz + i) = ⟨g, j * 3 + i, none⟩ by
      show Addr.add ⟨g, 0, none⟩ (j * 3 + i) = _
      rw [Addr.add_lit, Nat.zero_add]]
    exact this
theorem rd_at {ms : List Wt} {j : Nat} {x : Wt} (h : ms[j]? = some x) : rd_T42 (ms.map sw) (j : Int) = sw x := by
  unfold rd_T42
  rw [Int.toNat_natCast, List.getD_eq_getElem?_getD, List.getElem?_map, h]
  rfl
/-- The reference's multiple, cut. -/
def rl (ms : List Wt) : Int := if ll ms ≤ 16777216 then (ll ms : Int) else 16777217
theorem take_snoc {ms : List Wt} {j : Nat} {x : Wt} (h : ms[j]? = some x) : ms.take (j + 1) = ms.take j ++ [x] := by
  obtain ⟨hl, hx⟩ := List.getElem?_eq_some_iff.1 h
  rw [List.take_succ_eq_append_getElem hl, hx]
theorem ll_step {ms : List Wt} {j : Nat} {x : Wt} (h : ms[j]? = some x) (hp : 0 < x.2.2) (h1 : 0 < ll (ms.take j)) :
    (ll (ms.take j) : Int) / (Int.gcd (ll (ms.take j)) x.2.2 : Int) * x.2.2 = (ll (ms.take (j + 1)) : Int) := by
  rw [take_snoc h, ll_snoc, Nat.lcm_comm]
  obtain ⟨p, hp'⟩ : ∃ p : Nat, x.2.2 = p := ⟨x.2.2.natAbs, by omega⟩
  rw [hp']
  show ((ll (ms.take j) : Int) / ((Nat.gcd (ll (ms.take j)) p : Nat) : Int)) * (p : Int) = ((Nat.lcm (ll (ms.take j)) p : Nat) : Int)
  unfold Nat.lcm
  rw [← Nat.div_mul_right_comm (Nat.gcd_dvd_left _ p)]
  rfl
theorem lcm_loop {F : Nat} (hF : B0 < F) {ms : List Wt} (hm : ∀ m ∈ ms, may m.2.1 m.2.2) (hl : ms.length ≤ 1000) : ∀ (r j : Nat), j + r = ms.length → ll (ms.take j) ≤ 16777216 → evenhandedref1_Lcm.l0 (r + 1 + F) (ms.map sw) (ll (ms.take j)) j = some (rl ms) := by
  intro r
  induction r with
  | zero =>
    intro j hj hle
    obtain rfl : j = ms.length := by omega
    rw [show 0 + 1 + F = F + 1 by omega, evenhandedref1_Lcm.l0, if_neg (by rw [List.length_map]; omega)]
    rw [List.take_length] at hle ⊢
    unfold rl
    rw [if_pos hle]
  | succ r ih =>
    intro j hj hle
    have hjl : j < ms.length := by omega
    obtain ⟨x, hx⟩ : ∃ x, ms[j]? = some x := ⟨_, List.getElem?_eq_getElem hjl⟩
    have hxm := hm x (List.mem_of_getElem? hx)
    unfold may at hxm
    have hpos : 0 < ll (ms.take j) := ll_pos fun m hmm => by
      have := hm m (List.mem_of_mem_take hmm)
      unfold may at this
      omega
    have hs := ll_step hx (by omega) hpos
    have hpos2 : 0 < ll (ms.take (j + 1)) := ll_pos fun m hmm => by
      have := hm m (List.mem_of_mem_take hmm)
      unfold may at this
      omega
    have hbig : ll (ms.take (j + 1)) ≤ 16777216 * 1048575 := by
      rw [take_snoc hx, ll_snoc]
      refine Nat.le_trans (Nat.le_of_dvd (Nat.mul_pos (by omega) hpos) (Nat.lcm_dvd_mul _ _)) ?_
      rw [Nat.mul_comm]
      exact Nat.mul_le_mul hle (by omega)
    rw [show r + 1 + 1 + F = (r + 1 + F) + 1 by omega, evenhandedref1_Lcm.l0, if_pos (by rw [List.length_map]; omega), if_pos (by omega), rd_at hx, RaR.refgcd_at (by unfold B0; omega) (by show x.2.2.natAbs ≤ B0; unfold B0; omega) _ (by omega)]
    simp only [Option.bind_some]
    have hg : 0 < Int.gcd (ll (ms.take j)) x.2.2 := Int.gcd_pos_of_ne_zero_left _ (by omega)
    show (if (Int.gcd (ll (ms.take j)) x.2.2 : Int) = 0 then none else if wrap64 (wrap64 (Int.tdiv (ll (ms.take j)) (Int.gcd (ll (ms.take j)) x.2.2 : Int)) * x.2.2) > 16777216 then some 16777217 else evenhandedref1_Lcm.l0 (r + 1 + F) (ms.map sw) (wrap64 (wrap64 (Int.tdiv (ll (ms.take j)) (Int.gcd (ll (ms.take j)) x.2.2 : Int)) * x.2.2)) (wrap64 ((j : Int) + 1))) = _
    have hd : (ll (ms.take j) : Int) / (Int.gcd (ll (ms.take j)) x.2.2 : Int) ≤ ll (ms.take j) := Int.ediv_le_self _ (by omega)
    have hd0 : 0 ≤ (ll (ms.take j) : Int) / (Int.gcd (ll (ms.take j)) x.2.2 : Int) := Int.ediv_nonneg (by omega) (by omega)
    rw [if_neg (by omega), Kit.td (by omega), Kit.wr (x := (ll (ms.take j) : Int) / _) (by omega) (by omega), hs, Kit.wr (x := (ll (ms.take (j + 1)) : Int)) (by omega) (by omega), Kit.wr (x := (j : Int) + 1) (by omega) (by omega)]
    by_cases hgt : ll (ms.take (j + 1)) ≤ 16777216
    · rw [if_neg (by omega)]
      exact ih (j + 1) (by omega) hgt
    · rw [if_pos (by omega)]
      have h3 : 0 < ll ms := ll_pos fun m hmm => by have := hm m hmm; unfold may at this; omega
      have h4 := Nat.le_of_dvd h3 (ll_sub (a := ms.take (j + 1)) fun m hmm => List.mem_of_mem_take hmm)
      unfold rl
      rw [if_neg (by omega)]
theorem lcm_f {F : Nat} (hF : B0 < F) {ms : List Wt} (hm : ∀ m ∈ ms, may m.2.1 m.2.2) (hl : ms.length ≤ 1000) : evenhandedref1_Lcm.f (ms.length + 1 + F) (ms.map sw) = some (rl ms) := by
  unfold evenhandedref1_Lcm.f
  have := lcm_loop hF hm hl ms.length 0 (by omega) (by rw [List.take_zero]; decide)
  exact this
theorem num_take_le {ms : List Wt} {M : Int} (hM : 0 ≤ M) (h : ∀ m ∈ ms, may m.2.1 m.2.2) (hd : ∀ m ∈ ms, m.2.2 ∣ M) : 0 ≤ num M ms ∧ num M ms ≤ ms.length * M := by
  refine ⟨num_nonneg hM h, ?_⟩
  induction ms with
  | nil => simp [num_nil]
  | cons x r ih =>
    rw [num_cons, List.length_cons]
    have h1 := h x (by simp)
    unfold may at h1
    have h2 := Int.ediv_nonneg hM (show 0 ≤ x.2.2 by omega)
    have h3 : x.2.1 * (M / x.2.2) ≤ x.2.2 * (M / x.2.2) := Int.mul_le_mul_of_nonneg_right h1.2.1 h2
    rw [Int.mul_ediv_cancel' (hd x (by simp))] at h3
    have := ih (fun m hm => h m (by simp [hm])) (fun m hm => hd m (by simp [hm]))
    rw [Int.natCast_add, Int.add_mul]
    show _ ≤ (r.length : Int) * M + 1 * M
    omega
theorem sum_loop {F : Nat} (hF : B0 < F) {ms : List Wt} (hm : ∀ m ∈ ms, may m.2.1 m.2.2) (hl : ms.length ≤ 1000) (h7 : ll ms ≤ 16777216) : ∀ (r j : Nat), j + r = ms.length → evenhandedref1_Sum.l0 (r + 1 + F) (ms.map sw) (ll ms) (num (ll ms) (ms.take j)) j = some ((sOf ms).1, (sOf ms).2) := by
  have hpos : 0 < ll ms := ll_pos fun m hmm => by have := hm m hmm; unfold may at this; omega
  have hb : ∀ j, 0 ≤ num (ll ms) (ms.take j) ∧ num (ll ms) (ms.take j) ≤ 16777216000 := fun j => by
    have h1 := num_take_le (ms := ms.take j) (M := (ll ms : Int)) (by omega) (fun m hmm => hm m (List.mem_of_mem_take hmm)) (fun m hmm => ll_dvdI (List.mem_of_mem_take hmm))
    have h2 : ((ms.take j).length : Int) * (ll ms : Int) ≤ 1000 * 16777216 := Int.mul_le_mul (by rw [List.length_take]; omega) (by omega) (by omega) (by omega)
    omega
  intro r
  induction r with
  | zero =>
    intro j hj
    obtain rfl : j = ms.length := by omega
    rw [show 0 + 1 + F = F + 1 by omega, evenhandedref1_Sum.l0, if_neg (by rw [List.length_map]; omega)]
    have h1 := hb ms.length
    rw [List.take_length] at h1 ⊢
    rw [RaR.refof_at (by unfold B0; omega) (by omega) (by unfold B0; omega) _ (by omega)]
    rfl
  | succ r ih =>
    intro j hj
    have hjl : j < ms.length := by omega
    obtain ⟨x, hx⟩ : ∃ x, ms[j]? = some x := ⟨_, List.getElem?_eq_getElem hjl⟩
    have hxm := hm x (List.mem_of_getElem? hx)
    unfold may at hxm
    have h1 := hb (j + 1)
    have h0 := hb j
    rw [show r + 1 + 1 + F = (r + 1 + F) + 1 by omega, evenhandedref1_Sum.l0, if_pos (by rw [List.length_map]; omega), if_pos (by omega), rd_at hx]
    show (if x.2.2 = 0 then none else evenhandedref1_Sum.l0 (r + 1 + F) (ms.map sw) (ll ms) (wrap64 (num (ll ms) (ms.take j) + wrap64 (x.2.1 * wrap64 (Int.tdiv (ll ms) x.2.2)))) (wrap64 ((j : Int) + 1))) = _
    have hd0 : 0 ≤ (ll ms : Int) / x.2.2 := Int.ediv_nonneg (by omega) (by omega)
    have hd : (ll ms : Int) / x.2.2 ≤ ll ms := Int.ediv_le_self _ (by omega)
    have he : x.2.1 * ((ll ms : Int) / x.2.2) = num (ll ms) (ms.take (j + 1)) - num (ll ms) (ms.take j) := by rw [take_snoc hx, num_snoc]; omega
    rw [if_neg (by omega), Kit.td (by omega), Kit.wr (x := (ll ms : Int) / x.2.2) (by omega) (by omega), he, Kit.wr (x := num (ll ms) (ms.take (j + 1)) - num (ll ms) (ms.take j)) (by omega) (by omega), Kit.wr (x := num (ll ms) (ms.take j) + _) (by omega) (by omega), Kit.wr (x := (j : Int) + 1) (by omega) (by omega),
      show num (ll ms) (ms.take j) + (num (ll ms) (ms.take (j + 1)) - num (ll ms) (ms.take j)) = num (ll ms) (ms.take (j + 1)) by omega]
    exact ih (j + 1) (by omega)
theorem sum_f {F : Nat} (hF : B0 < F) {ms : List Wt} (hm : ∀ m ∈ ms, may m.2.1 m.2.2) (hl : ms.length ≤ 1000) (h7 : ll ms ≤ 16777216) : evenhandedref1_Sum.f (ms.length + 1 + F) (ms.map sw) = some ((sOf ms).1, (sOf ms).2) := by
  unfold evenhandedref1_Sum.f
  rw [lcm_f hF hm hl]
  simp only [Option.bind_some]
  unfold rl
  rw [if_pos h7]
  have := sum_loop hF hm hl h7 ms.length 0 (by omega)
  exact this
theorem RefLcm {w : World} {B : Nat} {v : Value} {ms : List Wt} (h : WRow w B v ms) (hm : ∀ m ∈ ms, may m.2.1 m.2.2) (hl : ms.length ≤ 1000) (L : Int) (hL : rl ms = L) : Calls Try.prog 18 #[v] w fun r w' => r = .returned (.int .i64 L) ∧ Below w.heap.size w w' := by
  obtain ⟨A, c, rfl, hc, hr⟩ := WRow.reads h
  obtain ⟨F, hF⟩ : ∃ F, B0 < F := ⟨B0 + 1, by omega⟩
  have := evenhandedref1_Lcm.calls (ms.length + 1 + F) A c (ms.map sw) L w hr (by rw [List.length_map]; exact hc) (by rw [← hL]; exact lcm_f hF hm hl)
  rw [List.length_map] at this
  exact this
theorem RefSum {w : World} {B : Nat} {v : Value} {ms : List Wt} (h : WRow w B v ms) (hm : ∀ m ∈ ms, may m.2.1 m.2.2) (hl : ms.length ≤ 1000) (h7 : ll ms ≤ 16777216) (s : Int × Int) (hs : sOf ms = s) : Calls Try.prog 17 #[v] w fun r w' => r = .returned (.agg #[.int .i64 s.1, .int .i64 s.2]) ∧ Below w.heap.size w w' := by
  obtain ⟨A, c, rfl, hc, hr⟩ := WRow.reads h
  obtain ⟨F, hF⟩ : ∃ F, B0 < F := ⟨B0 + 1, by omega⟩
  have := evenhandedref1_Sum.calls (ms.length + 1 + F) A c (ms.map sw) s.1 s.2 w hr (by rw [List.length_map]; exact hc) (by rw [← hs]; exact sum_f hF hm hl h7)
  rw [List.length_map] at this
  exact this
theorem RefMay (e p : Int) (b : Bool) (hb : decide (may e p) = b) (w : World) : Side (Calls Try.prog 27 #[.int .i64 e, .int .i64 p] w fun r w' => r = .returned (.bool b) ∧ Below w.heap.size w w') := by
  refine ⟨(evenhandedref1_TaskMay.calls e p b w ?_).mono ?_⟩
  · unfold evenhandedref1_TaskMay.f
    rw [← hb]
    unfold may
    by_cases h1 : p ≥ 1
    · rw [if_pos h1]
      by_cases h2 : p ≤ 1048575
      · rw [if_pos h2]
        by_cases h3 : e ≥ 1
        · rw [if_pos h3]
          have h3' : 1 ≤ e := h3
          simp [h2, h3']
        · rw [if_neg h3]
          have h3' : ¬ 1 ≤ e := h3
          simp [h3']
      · rw [if_neg h2]
        simp [h2]
    · rw [if_neg h1]
      have : ¬ (1 ≤ e ∧ e ≤ p ∧ p ≤ 1048575) := by omega
      rw [decide_eq_false this]
  · rintro r w' ⟨rfl, hd⟩
    exact ⟨rfl, hd.below⟩
end Go.Proofs.Ytfgmenndmcjggaa.LpA

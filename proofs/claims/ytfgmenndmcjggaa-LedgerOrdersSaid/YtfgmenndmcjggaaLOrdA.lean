/- LedgerOrders: who is there, whatever the order; the closure that adds. No condition. -/
import Derived.Test.YtfgmenndmcjggaaLKnA
set_option linter.unusedVariables false
set_option linter.unusedSimpArgs false
namespace Go.Proofs.Ytfgmenndmcjggaa.LOrdA
open Go.RowKit Go.Proofs.Ytfgmenndmcjggaa.Kit Go.Proofs.Ytfgmenndmcjggaa.Kit2 Go.Proofs.Ytfgmenndmcjggaa.Kit3 Go.Proofs.Ytfgmenndmcjggaa.Kit4 Go.Proofs.Ytfgmenndmcjggaa.LeP Go.Maps Go.Proofs.Ytfgmenndmcjggaa.LeA Go.Proofs.Ytfgmenndmcjggaa.LeF Go.Proofs.Ytfgmenndmcjggaa.LeH Go.Proofs.Ytfgmenndmcjggaa.LeK Go.Proofs.Ytfgmenndmcjggaa.LFills Go.Proofs.Ytfgmenndmcjggaa.LKnA
open Go.Proofs.Ytfgmenndmcjggaa.PR WhPlain RaPlain Go.Proofs.Ytfgmenndmcjggaa.RaK
open Go.Proofs.YtfgmenndmcjggaaW.PrintLast
def pOf (V : Nat → Nat → Value) (i : Nat) : Int := 1 + intOf (V i 1) % 12
def eOf (V : Nat → Nat → Value) (i : Nat) : Int := 1 + intOf (V i 0) % pOf V i
def it (V : Nat → Nat → Value) (i : Nat) : Wt := ((i : Int), eOf V i, pOf V i)
theorem p_range (V : Nat → Nat → Value) (i : Nat) : 1 ≤ pOf V i ∧ pOf V i ≤ 12 := by unfold pOf; omega
theorem e_range (V : Nat → Nat → Value) (i : Nat) : 1 ≤ eOf V i ∧ eOf V i ≤ pOf V i := by
  have := p_range V i
  have h1 := Int.emod_nonneg (intOf (V i 0)) (show pOf V i ≠ 0 by omega)
  have h2 := Int.emod_lt_of_pos (intOf (V i 0)) (show 0 < pOf V i by omega)
  unfold eOf
  omega
/-- The weights that are there: those of P. -/
structure Hold (V : Nat → Nat → Value) (len : Nat) (P : Nat → Prop) (ms : List Wt) : Prop where
  nd : (ms.map (·.1)).Nodup
  mem : ∀ m, m ∈ ms ↔ ∃ j, j < len ∧ P j ∧ m = it V j
section
variable {V : Nat → Nat → Value} {len : Nat} {P P' : Nat → Prop} {ms ms' : List Wt}
theorem Hold.congr (h : Hold V len P ms) (he : ∀ j, j < len → (P j ↔ P' j)) : Hold V len P' ms :=
  ⟨h.nd, fun m => (h.mem m).trans ⟨fun ⟨j, h1, h2, h3⟩ => ⟨j, h1, (he j h1).1 h2, h3⟩, fun ⟨j, h1, h2, h3⟩ => ⟨j, h1, (he j h1).2 h2, h3⟩⟩⟩
theorem Hold.nil : Hold V len (fun _ => False) [] := ⟨by simp, fun m => by simp⟩
theorem Hold.has (h : Hold V len P ms) (i : Nat) : LeP.has ms (i : Int) = true ↔ i < len ∧ P i := by
  rw [has_iff]
  constructor
  · rintro ⟨m, hm, he⟩
    obtain ⟨j, h1, h2, rfl⟩ := (h.mem m).1 hm
    have : (j : Int) = (i : Int) := he
    obtain rfl : j = i := by omega
    exact ⟨h1, h2⟩
  · rintro ⟨h1, h2⟩
    exact ⟨it V i, (h.mem _).2 ⟨i, h1, h2, rfl⟩, rfl⟩
theorem Hold.add (h : Hold V len P ms) (i : Nat) (hi : i < len) (hn : ¬ P i) : Hold V len (fun j => P j ∨ j = i) (ms ++ [it V i]) := by
  refine ⟨?_, fun m => ?_⟩
  · rw [List.map_append, List.nodup_append]
    refine ⟨h.nd, by simp, ?_⟩
    intro a ha b hb e
    simp at hb
    obtain ⟨m, hm, rfl⟩ := List.mem_map.1 ha
    have h1 : LeP.has ms (i : Int) = true := has_iff.2 ⟨m, hm, by rw [e, hb]; rfl⟩
    exact hn ((h.has i).1 h1).2
  · rw [List.mem_append, h.mem]
    constructor
    · rintro (⟨j, h1, h2, rfl⟩ | h1)
      · exact ⟨j, h1, .inl h2, rfl⟩
      · simp at h1; subst h1; exact ⟨i, hi, .inr rfl, rfl⟩
    · rintro ⟨j, h1, h2 | rfl, rfl⟩
      · exact .inl ⟨j, h1, h2, rfl⟩
      · exact .inr (by simp)
theorem Hold.drop (h : Hold V len P ms) (i : Nat) : Hold V len (fun j => P j ∧ j ≠ i) (drp ms (i : Int)) := by
  refine ⟨?_, fun m => ?_⟩
  · exact h.nd.sublist ((List.filter_sublist).map _)
  · rw [drp_mem, h.mem]
    constructor
    · rintro ⟨⟨j, h1, h2, rfl⟩, hne⟩
      exact ⟨j, h1, ⟨h2, fun e => hne (by rw [e]; rfl)⟩, rfl⟩
    · rintro ⟨j, h1, ⟨h2, h3⟩, rfl⟩
      exact ⟨⟨j, h1, h2, rfl⟩, fun e => h3 (by have : (j : Int) = (i : Int) := e; omega)⟩
theorem nodup_of {l : List Wt} (h : (l.map (·.1)).Nodup) : l.Nodup := List.Pairwise.of_map (·.1) (fun a b hne e => hne (by rw [e])) h
theorem Hold.perm (h : Hold V len P ms) (h' : Hold V len P ms') : ms.Perm ms' := (List.perm_ext_iff_of_nodup (nodup_of h.nd) (nodup_of h'.nd)).2 fun m => (h.mem m).trans (h'.mem m).symm
theorem Hold.all (h : Hold V len P ms) : ∀ m ∈ ms, may m.2.1 m.2.2 ∧ m.2.2 ≤ 12 := fun m hm => by
  obtain ⟨j, h1, h2, rfl⟩ := (h.mem m).1 hm
  have := p_range V j
  have := e_range V j
  unfold may
  exact ⟨⟨by show 1 ≤ eOf V j; omega, by show eOf V j ≤ pOf V j; omega, by show pOf V j ≤ 1048575; omega⟩, by show pOf V j ≤ 12; omega⟩
end
theorem num_le {ms : List Wt} {M : Int} (hM : 0 ≤ M) (h : ∀ m ∈ ms, may m.2.1 m.2.2) (hd : ∀ m ∈ ms, m.2.2 ∣ M) : num M ms ≤ ms.length * M := by
  induction ms with
  | nil => simp [num_nil]
  | cons x r ih =>
    rw [num_cons, List.length_cons]
    have h1 := h x (by simp)
    unfold may at h1
    have h2 := Int.ediv_nonneg hM (show 0 ≤ x.2.2 by omega)
    have h3 : x.2.1 * (M / x.2.2) ≤ x.2.2 * (M / x.2.2) := Int.mul_le_mul_of_nonneg_right h1.2.1 h2
    rw [Int.mul_ediv_cancel' (hd x (by simp))] at h3
    have := ih (fun m hm => h m (by simp [hm])) (fun m hm => hd m (by simp [hm]))
    rw [Int.natCast_add, Int.add_mul]
    show _ ≤ (r.length : Int) * M + 1 * M
    omega
theorem small_dvd {q : Int} (h : 1 ≤ q ∧ q ≤ 12) : q.natAbs ∣ 27720 := by
  obtain ⟨n, rfl⟩ : ∃ n : Nat, q = n := ⟨q.natAbs, by omega⟩
  have h1 : n < 13 := by omega
  have h2 : 0 < n := by omega
  show (n : Int).natAbs ∣ 27720
  rw [Int.natAbs_natCast]
  have : ∀ n, n < 13 → 0 < n → n ∣ 27720 := by decide
  exact this n h1 h2
/-- There is room for it. -/
theorem Hold.room {V : Nat → Nat → Value} {len : Nat} {P : Nat → Prop} {ms : List Wt} (h : Hold V len P ms) (hl : ms.length < 64) (i : Nat) (hi : i < len) (hn : ¬ P i) : addV 64 ms (i : Int) (eOf V i) (pOf V i) = 0 := by
  have hp := p_range V i
  have he := e_range V i
  have hm : may (eOf V i) (pOf V i) := ⟨he.1, he.2, by omega⟩
  have hL : ∀ m ∈ ms ++ [(0, eOf V i, pOf V i)], may m.2.1 m.2.2 ∧ m.2.2 ≤ 12 := fun m hmm => by
    rcases List.mem_append.1 hmm with h1 | h1
    · exact h.all m h1
    · simp at h1; subst h1; exact ⟨hm, by show pOf V i ≤ 12; omega⟩
  have hd : ll (ms ++ [(0, eOf V i, pOf V i)]) ∣ 27720 := ll_least fun m hmm => by
    have := hL m hmm
    unfold may at this
    exact small_dvd (by omega)
  have hle := Nat.le_of_dvd (by decide) hd
  unfold addV
  rw [if_neg (not_not_intro hm), if_neg (by intro e; exact hn ((h.has i).1 e).2)]
  unfold canV
  rw [if_neg (not_not_intro hm)]
  have e1 : Nat.lcm (pOf V i).natAbs (ll ms) = ll (ms ++ [(0, eOf V i, pOf V i)]) := (ll_snoc ms (0, eOf V i, pOf V i)).symm
  rw [e1, if_neg (by omega), if_neg]
  have h1 := num_le (ms := ms ++ [(0, eOf V i, pOf V i)]) (M := (ll (ms ++ [(0, eOf V i, pOf V i)]) : Int)) (by omega) (fun m hmm => (hL m hmm).1) (fun m hmm => ll_dvdI hmm)
  rw [List.length_append, List.length_singleton] at h1
  have h2 : ((ms.length + 1 : Nat) : Int) * (ll (ms ++ [(0, eOf V i, pOf V i)]) : Int) ≤ 64 * (ll (ms ++ [(0, eOf V i, pOf V i)]) : Int) := Int.mul_le_mul_of_nonneg_right (by omega) (by omega)
  omega
/-- Those of odd number: half of all. -/
theorem odd_len (n : Nat) : ((List.range n).filter fun j => j % 2 == 1).length = n / 2 := by
  induction n with
  | zero => rfl
  | succ n ih =>
    rw [List.range_succ, List.filter_append, List.length_append, ih]
    by_cases h : n % 2 = 1
    · simp [h]; omega
    · simp [h]; omega
theorem Hold.odd {V : Nat → Nat → Value} {len : Nat} {ms : List Wt} (h : Hold V len (fun j => j % 2 = 1) ms) : ms.length = len / 2 := by
  have h2 : Hold V len (fun j => j % 2 = 1) (((List.range len).filter fun j => j % 2 == 1).map (it V)) := by
    refine ⟨?_, fun m => ?_⟩
    · rw [List.map_map]
      refine List.Pairwise.map _ (fun a b hne e => hne (by have : (a : Int) = (b : Int) := e; omega)) (List.nodup_range.sublist List.filter_sublist)
    · simp only [List.mem_map, List.mem_filter, List.mem_range, beq_iff_eq]
      constructor
      · rintro ⟨j, ⟨h1, h2⟩, rfl⟩; exact ⟨j, h1, h2, rfl⟩
      · rintro ⟨j, h1, h2, rfl⟩; exact ⟨j, ⟨h1, h2⟩, rfl⟩
  rw [(h.perm h2).length_eq, List.length_map, odd_len]
theorem sOf_perm {a b : List Wt} (h : a.Perm b) : sOf a = sOf b := by unfold sOf; rw [ll_perm h, num_perm h]
/-- Two ledgers side by side. -/
structure L2 (W w : World) (x y : Ld) : Prop where
  sx : x.at_ W w
  sy : y.at_ W w
  xy : ∀ b, x.foot b → ¬ y.foot b
theorem L2.rot {W w : World} {x y : Ld} (h : L2 W w x y) : L2 W w y x := ⟨h.sy, h.sx, fun b h1 h2 => h.xy b h2 h1⟩
theorem L2.below {W w w' : World} {x y : Ld} (h : L2 W w x y) (hb : Below w.heap.size w w') : L2 W w' x y := ⟨St.below' h.sx hb, St.below' h.sy hb, h.xy⟩
theorem L2.step {W w w' : World} {x y : Ld} (h : L2 W w x y) (n : Nat) (ms : List Wt) (hs : St W w' x.g x.l x.m n x.k ms) (hc : Chg w w' x.foot) : L2 W w' { x with n := n, ms := ms } y :=
  ⟨hs, St.chg h.sy hc (fun b hb => (St.foot h.sx b hb).1) (fun b h1 h2 => h.xy b h2 h1), h.xy⟩
theorem L2.new {W w1 w2 : World} {k1 k2 : Int} {s1 s2 : Nat} (h1 : (newL s1 k1).at_ W w1) (e2 : s2 = w1.heap.size) (h2 : (newL s2 k2).at_ W w2) (b2 : Below w1.heap.size w1 w2) : L2 W w2 (newL s1 k1) (newL s2 k2) :=
  ⟨St.below' h1 b2, h2, Ld.apart h1 (fun b hb => by have := newL_foot _ _ b hb; omega)⟩
abbrev AK : List CK := [.i .u8, .i .u8]
theorem rowA {W w : World} {a : Option Addr} {len : Nat} {V : Nat → Nat → Value} (h : InRow AK W a len V) (hb : Below W.heap.size W w) (i : Nat) (hi : i < len) :
    ∃ b off, a = some ⟨b, off, none⟩ ∧ b < w.heap.size ∧ w.cell? ⟨b, off + i * 2, none⟩ = some (.int .u8 (intOf (V i 0))) ∧ w.cell? ⟨b, off + i * 2 + 1, none⟩ = some (.int .u8 (intOf (V i 1))) ∧ 0 ≤ intOf (V i 0) ∧ intOf (V i 0) ≤ 255 ∧ 0 ≤ intOf (V i 1) ∧ intOf (V i 1) ≤ 255 := by
  have z0 := h.int 0 .u8 rfl i hi
  have z1 := h.int 1 .u8 rfl i hi
  obtain ⟨b, off, hp, hcs⟩ := h
  obtain ⟨rfl, hbl⟩ := hp (by omega)
  have c0 := (hcs i hi 0 _ rfl).1
  have c1 := (hcs i hi 1 _ rfl).1
  rw [z0.1] at c0
  rw [z1.1] at c1
  have hw0 := isu8 z0.2
  have hw1 := isu8 z1.2
  refine ⟨b, off, rfl, Nat.lt_of_lt_of_le hbl hb.size, ?_, ?_, hw0.1, hw0.2, hw1.1, hw1.2⟩
  · rw [(bcell hb).1 b _ hbl]
    simpa using c0
  · rw [(bcell hb).1 b _ hbl]
    rw [show off + i * 2 + 1 = off + (i * 2 + 1) by omega]
    simpa using c1
set_option maxHeartbeats 4000000 in
set_option maxRecDepth 100000 in
theorem AddCl {W w : World} {a : Option Addr} {len cap : Nat} {V : Nat → Nat → Value} (hrow : InRow AK W a len V) (hl : len ≤ 60) (kb : Nat) (hkb : W.cell? ⟨kb, 0, none⟩ = some (.slice a len cap)) (hkl : kb < W.heap.size) {x y : Ld} (h : L2 W w x y) (hk : x.k = 64) (hn : x.n < 1000000) {P : Nat → Prop} (hh : Hold V len P x.ms) (hlen : x.ms.length < 64) (i : Nat) (hi : i < len) (hp : ¬ P i) :
    Calls Try.prog 19 #[.pointer (some ⟨x.g, 0, none⟩), .int .i64 i, .pointer (some ⟨kb, 0, none⟩)] w fun r w' => r = .returned (.bool true) ∧ L2 W w' { x with n := x.n + 1, ms := x.ms ++ [it V i] } y := by
  obtain ⟨b, off, rfl, hbl, c0, c1, x00, x01, x10, x11⟩ := rowA hrow h.sx.below i hi
  have hkc : w.cell? ⟨kb, 0, none⟩ = some (.slice (some ⟨b, off, none⟩) len cap) := ((bcell h.sx.below).1 kb 0 hkl).trans hkb
  have hkl' : kb < w.heap.size := Nat.lt_of_lt_of_le hkl h.sx.below.size
  have HA : Side (Calls Try.prog 10 #[.pointer (some ⟨x.g, 0, none⟩), .int .i64 i, .int .i64 (eOf V i), .int .i64 (pOf V i)] w fun r w' => r = .returned (.int .i64 0) ∧ L2 W w' { x with n := x.n + 1, ms := x.ms ++ [it V i] } y) := ⟨by
    refine (AddS h.sx hn (i : Int) (eOf V i) (pOf V i) 0 (wf_of (by omega) (by omega)) (by rw [hk]; exact hh.room hlen i hi hp) (x.ms ++ [it V i]) rfl).mono ?_
    rintro r w' ⟨rfl, hs, hc⟩
    exact ⟨rfl, h.step _ _ hs hc⟩⟩
  have hp1 := p_range V i
  have he1 := e_range V i
  have hep : Int.tmod (intOf (V i 0)) (pOf V i) = eOf V i - 1 := by rw [Kit.tm x00]; unfold eOf; omega
  have hpp : intOf (V i 1) % 12 = pOf V i - 1 := by unfold pOf; omega
  have hii : (i : Int) < len := by omega
  have hi0 : (0 : Int) ≤ i := by omega
  have hl64 : (len : Int) ≤ 60 := by omega
  generalize eOf V i = e at *
  generalize pOf V i = p at *
  generalize intOf (V i 0) = u at *
  generalize intOf (V i 1) = v at *
  clear hrow h hk hn hh hlen hp hkb
  go_enter Try.func19, Try.ntmps19
  go_upto_region 1 with (fail)
  go_cut [6] (fun v6 we => v6 = .int .i64 p ∧ we = w)
  case first =>
    go_wp2
    go_meet
    case rel => exact ⟨congrArg (Value.int .i64) (by omega), rfl⟩
  case rest =>
    obtain ⟨rfl, hcut⟩ := hcut
    rw [hcut]
    clear hcut
    go_wp2_with fail
    rw [show 1 + (e - 1) = e by omega]
    refine HA.out.mono ?_
    rintro r w2 ⟨rfl, h⟩
    have H2 := Side.mk h
    clear h
    go_wp2
    go_ret
    exact ⟨rfl, H2.out⟩
end Go.Proofs.Ytfgmenndmcjggaa.LOrdA

/- Package ledger, ninth text: the contracts as laws use them; the law's own look at the document's example. No condition. -/
import Derived.Test.YtfgmenndmcjggaaLeH
set_option linter.unusedVariables false
set_option linter.unusedSimpArgs false
namespace Go.Proofs.Ytfgmenndmcjggaa.LeK
open Go.RowKit Go.Proofs.Ytfgmenndmcjggaa.Kit Go.Proofs.Ytfgmenndmcjggaa.Kit3 Go.Proofs.Ytfgmenndmcjggaa.Kit4 Go.Proofs.Ytfgmenndmcjggaa.LeP Go.Maps Go.Proofs.Ytfgmenndmcjggaa.LeA Go.Proofs.Ytfgmenndmcjggaa.LeB Go.Proofs.Ytfgmenndmcjggaa.LeC Go.Proofs.Ytfgmenndmcjggaa.LeD Go.Proofs.Ytfgmenndmcjggaa.LeE Go.Proofs.Ytfgmenndmcjggaa.LeF Go.Proofs.Ytfgmenndmcjggaa.LeG Go.Proofs.Ytfgmenndmcjggaa.LeH
open Go.Proofs.Ytfgmenndmcjggaa.PR WhPlain RaPlain Go.Proofs.Ytfgmenndmcjggaa.RaK
open Go.Proofs.YtfgmenndmcjggaaW.PrintLast
/-- The sum of all weights, in lowest terms. -/
def sOf (ms : List Wt) : Int × Int := red (num (ll ms) ms) (ll ms)
theorem Good.sOf {k : Int} {ms : List Wt} {s : Int × Int} (h : LeP.Good k ms s) : s = LeK.sOf ms := Q.unique h.hq (red_Q (by have := h.pos; omega)) rfl
/-- A ledger that holds ms, and all that was there when the law began. -/
structure St (W w : World) (gh bl bm n : Nat) (k : Int) (ms : List Wt) : Prop where
  below : Below W.heap.size W w
  ls : LS w W.heap.size gh bl bm n k (sOf ms) ms
section
variable {W w w' : World} {gh bl bm n : Nat} {k : Int} {ms : List Wt}
theorem LS.to_st {s : Int × Int} (hb : Below W.heap.size W w) (h : LS w W.heap.size gh bl bm n k s ms) : St W w gh bl bm n k ms := by
  have := Good.sOf h.g
  subst this
  exact ⟨hb, h⟩
theorem St.below' (h : St W w gh bl bm n k ms) (hb : Below w.heap.size w w') : St W w' gh bl bm n k ms := ⟨below_then h.below h.below.size hb, h.ls.below hb⟩
theorem St.up (h : St W w gh bl bm n k ms) {n' : Nat} (hn : n ≤ n') : St W w gh bl bm n' k ms := ⟨h.below, h.ls.up hn⟩
theorem St.foot (h : St W w gh bl bm n k ms) (b : Nat) (hb : Foot gh bl bm b) : W.heap.size ≤ b ∧ b < w.heap.size := by
  obtain ⟨Dl, Dm, h1, h2⟩ := h.ls.h
  exact h1.foot b hb
theorem St.chg (h : St W w gh bl bm n k ms) {S : Nat → Prop} (hc : Chg w w' S) (hS : ∀ b, S b → W.heap.size ≤ b) (hd : ∀ b, Foot gh bl bm b → ¬ S b) : St W w' gh bl bm n k ms := by
  obtain ⟨Dl, Dm, h1, h2⟩ := h.ls.h
  exact ⟨h.below.trans (Chg.below hc h.below.size hS), h.ls.g, Dl, Dm, h1.chg hc hd, h2⟩
theorem NewS (hb : Below W.heap.size W w) (k0 k : Int) (hk : kc k0 = k) : Calls Try.prog 8 #[.int .i64 k0] w fun r w' => r = .returned (.pointer (some ⟨w.heap.size + 2, 0, none⟩)) ∧ St W w' (w.heap.size + 2) w.heap.size (w.heap.size + 1) 0 k [] ∧ Below w.heap.size w w' := by
  refine (New_at w k0 k hk).mono ?_
  rintro r w' ⟨rfl, hl, hw⟩
  obtain ⟨Dl, Dm, h1, h2⟩ := hl.h
  have := hb.size
  exact ⟨rfl, LS.to_st (below_then hb hb.size hw) ⟨hl.g, Dl, Dm, ⟨h1.box, h1.ml, h1.mm, h1.ne, by omega, by omega, by omega⟩, h2⟩, hw⟩
theorem CanS (h : St W w gh bl bm n k ms) (e p c : Int) (hc : canV k ms e p = c) : Calls Try.prog 9 #[.pointer (some ⟨gh, 0, none⟩), .int .i64 e, .int .i64 p] w fun r w' => r = .returned (.int .i64 c) ∧ St W w' gh bl bm n k ms ∧ Below w.heap.size w w' := by
  refine (can_at h.ls hc).mono ?_
  rintro r w' ⟨rfl, hb⟩
  exact ⟨rfl, h.below' hb, hb⟩
theorem AddS (h : St W w gh bl bm n k ms) (hn : n < 1000000) (i e p v : Int) (hi : (kv i).wf = true) (hv : addV k ms i e p = v) (ms' : List Wt) (hm : (if v = 0 then ms ++ [(i, e, p)] else ms) = ms') :
    Calls Try.prog 10 #[.pointer (some ⟨gh, 0, none⟩), .int .i64 i, .int .i64 e, .int .i64 p] w fun r w' => r = .returned (.int .i64 v) ∧ St W w' gh bl bm (n + 1) k ms' ∧ Chg w w' (Foot gh bl bm) := by
  have hsame : v ≠ 0 → (∀ (r : Ending) (w' : World), (r = .returned (.int .i64 v) ∧ Below w.heap.size w w') → r = .returned (.int .i64 v) ∧ St W w' gh bl bm (n + 1) k ms' ∧ Chg w w' (Foot gh bl bm)) := by
    rintro h0 r w' ⟨rfl, hb⟩
    rw [if_neg h0] at hm
    subst hm
    exact ⟨rfl, (h.below' hb).up (by omega), Chg.of_below hb⟩
  unfold addV at hv
  by_cases h1 : may e p
  · rw [if_neg (not_not_intro h1)] at hv
    by_cases h2 : LeP.has ms i = true
    · rw [if_pos h2] at hv
      subst hv
      exact (add_there w _ gh bl bm n k _ ms h.ls i e p h1 hi h2).mono (hsame (by decide))
    · rw [if_neg h2] at hv
      have h2' : LeP.has ms i = false := by simpa using h2
      by_cases h0 : v = 0
      · rw [if_pos h0] at hm
        subst hm
        subst h0
        refine (add_yes w _ gh bl bm n k _ ms h.ls i e p h1 hi h2' hv hn).mono ?_
        rintro r w' ⟨rfl, hl, hc⟩
        exact ⟨rfl, LS.to_st (h.below.trans (Chg.below hc h.below.size (fun b hb => (h.foot b hb).1))) hl, hc⟩
      · exact (add_not w _ gh bl bm n k _ ms h.ls i e p h1 hi h2' v hv h0).mono (hsame h0)
  · rw [if_pos h1] at hv
    subst hv
    exact (add_may w _ gh bl bm n k _ ms h.ls i e p h1).mono (hsame (by decide))
theorem DropS (h : St W w gh bl bm n k ms) (hn : n < 1000000) (i : Int) (hi : (kv i).wf = true) (b : Bool) (hb : LeP.has ms i = b) (ms' : List Wt) (hm : drp ms i = ms') :
    Calls Try.prog 13 #[.pointer (some ⟨gh, 0, none⟩), .int .i64 i] w fun r w' => r = .returned (.bool b) ∧ St W w' gh bl bm (n + 1) k ms' ∧ Chg w w' (Foot gh bl bm) := by
  subst hm
  cases b with
  | false =>
    refine (drop_no w _ gh bl bm n k _ ms h.ls i hi hb).mono ?_
    rintro r w' ⟨rfl, hw⟩
    have : drp ms i = ms := List.filter_eq_self.2 fun m hm => by
      simp only [bne_iff_ne, ne_eq]
      intro e
      rw [Bool.eq_false_iff] at hb
      exact hb (has_iff.2 ⟨m, hm, e⟩)
    rw [this]
    exact ⟨rfl, (h.below' hw).up (by omega), Chg.of_below hw⟩
  | true =>
    obtain ⟨⟨j, e, p⟩, hm, rfl⟩ := has_iff.1 hb
    refine (drop_yes w _ gh bl bm n k _ ms h.ls hn j e p hm).mono ?_
    rintro r w' ⟨rfl, hl, hc⟩
    exact ⟨rfl, LS.to_st (h.below.trans (Chg.below hc h.below.size (fun b hb => (h.foot b hb).1))) hl, hc⟩
theorem SumS (h : St W w gh bl bm n k ms) (s : Int × Int) (hs : sOf ms = s) : Calls Try.prog 11 #[.pointer (some ⟨gh, 0, none⟩)] w fun r w' => r = .returned (.agg #[.int .i64 s.1, .int .i64 s.2]) ∧ St W w' gh bl bm n k ms ∧ Below w.heap.size w w' := by
  subst hs
  refine (Sum_at w _ gh bl bm n k _ ms h.ls).mono ?_
  rintro r w' ⟨rfl, hb⟩
  exact ⟨rfl, h.below' hb, hb⟩
theorem LcmS (h : St W w gh bl bm n k ms) (L : Int) (hL : (ll ms : Int) = L) : Calls Try.prog 14 #[.pointer (some ⟨gh, 0, none⟩)] w fun r w' => r = .returned (.int .i64 L) ∧ St W w' gh bl bm n k ms ∧ Below w.heap.size w w' := by
  refine (Lcm_led w _ gh bl bm n k _ ms h.ls L hL).mono ?_
  rintro r w' ⟨rfl, hb⟩
  exact ⟨rfl, h.below' hb, hb⟩
theorem LenS (h : St W w gh bl bm n k ms) (N : Int) (hN : (ms.length : Int) = N) : Calls Try.prog 16 #[.pointer (some ⟨gh, 0, none⟩)] w fun r w' => r = .returned (.int .i64 N) ∧ St W w' gh bl bm n k ms ∧ Below w.heap.size w w' := by
  refine (Len_at w _ gh bl bm n k _ ms h.ls N hN).mono ?_
  rintro r w' ⟨rfl, hb⟩
  exact ⟨rfl, h.below' hb, hb⟩
end
theorem a1 : addV 1 [] 1 1 3 = 0 := by decide +kernel
theorem a2 : addV 1 [(1, 1, 3)] 2 1 3 = 0 := by decide +kernel
theorem a3 : addV 1 [(1, 1, 3), (2, 1, 3)] 3 1 3 = 0 := by decide +kernel
theorem a4 : sOf [(1, 1, 3), (2, 1, 3), (3, 1, 3)] = (1, 1) := by decide +kernel
theorem a5 : canV 1 [(1, 1, 3), (2, 1, 3), (3, 1, 3)] 1 3 = 8 := by decide +kernel
theorem a6 : (ll [(1, 1, 3), (2, 1, 3), (3, 1, 3)] : Int) = 3 := by decide +kernel
set_option maxHeartbeats 4000000 in
set_option maxRecDepth 100000 in
theorem AwakeC (w : World) : Side (Calls Try.prog 7 #[] w fun r w' => r = .returned (.bool true) ∧ Below w.heap.size w w') := by
  refine ⟨?_⟩
  have HB := Side.mk (Below.refl w.heap.size w)
  go_enter Try.func7, Try.ntmps7
  go_upto_region 2 with (go_at_call 8; (with_reducible refine (NewS HB.out 1 1 (by decide)).mono ?_); rintro e w1 ⟨rfl, hs1, _⟩)
  have S1 := Side.mk hs1
  clear hs1
  generalize w.heap.size + 2 = gh at *
  generalize w.heap.size + 1 = bm at *
  generalize hbl : w.heap.size = bl at *
  go_wp2_with (first
    | (go_at_call 10; (with_reducible refine (AddS S1.out (by decide) 1 1 3 0 (by decide) a1 [(1, 1, 3)] rfl).mono ?_); rintro e w2 ⟨rfl, hs2, _⟩)
    | (go_at_call 10; (with_reducible refine (AddS hs2 (by decide) 2 1 3 0 (by decide) a2 [(1, 1, 3), (2, 1, 3)] rfl).mono ?_); rintro e w3 ⟨rfl, hs3, _⟩)
    | (go_at_call 10; (with_reducible refine (AddS hs3 (by decide) 3 1 3 0 (by decide) a3 [(1, 1, 3), (2, 1, 3), (3, 1, 3)] rfl).mono ?_); rintro e w4 ⟨rfl, hs4, _⟩)
    | (go_at_call 11; (with_reducible refine (SumS hs4 (1, 1) a4).mono ?_); rintro e w5 ⟨rfl, hs5, _⟩)
    | (go_at_call 9; (with_reducible refine (CanS hs5 1 3 8 a5).mono ?_); rintro e w6 ⟨rfl, hs6, _⟩)
    | (go_at_call 14; (with_reducible refine (LcmS hs6 3 a6).mono ?_); rintro e w7 ⟨rfl, hs7, _⟩))
  go_ret
  exact ⟨rfl, hbl ▸ hs7.below⟩
end Go.Proofs.Ytfgmenndmcjggaa.LeK

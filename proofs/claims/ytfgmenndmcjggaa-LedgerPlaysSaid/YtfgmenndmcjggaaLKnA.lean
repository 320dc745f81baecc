/- LedgerKnown: three ledgers side by side; the sums by hand. No condition. -/
import Derived.Test.YtfgmenndmcjggaaLFills
set_option linter.unusedVariables false
set_option linter.unusedSimpArgs false
namespace Go.Proofs.Ytfgmenndmcjggaa.LKnA
open Go.RowKit Go.Proofs.Ytfgmenndmcjggaa.Kit Go.Proofs.Ytfgmenndmcjggaa.Kit2 Go.Proofs.Ytfgmenndmcjggaa.Kit3 Go.Proofs.Ytfgmenndmcjggaa.Kit4 Go.Proofs.Ytfgmenndmcjggaa.LeP Go.Maps Go.Proofs.Ytfgmenndmcjggaa.LeA Go.Proofs.Ytfgmenndmcjggaa.LeF Go.Proofs.Ytfgmenndmcjggaa.LeH Go.Proofs.Ytfgmenndmcjggaa.LeK Go.Proofs.Ytfgmenndmcjggaa.LFills
open Go.Proofs.Ytfgmenndmcjggaa.PR WhPlain RaPlain Go.Proofs.Ytfgmenndmcjggaa.RaK
open Go.Proofs.YtfgmenndmcjggaaW.PrintLast
/-- A ledger: where it lies, what it holds. -/
structure Ld where
  g : Nat
  l : Nat
  m : Nat
  n : Nat
  k : Int
  ms : List Wt
def Ld.foot (x : Ld) : Nat → Prop := Foot x.g x.l x.m
def Ld.at_ (W w : World) (x : Ld) : Prop := St W w x.g x.l x.m x.n x.k x.ms
structure L3 (W w : World) (x y z : Ld) : Prop where
  sx : x.at_ W w
  sy : y.at_ W w
  sz : z.at_ W w
  xy : ∀ b, x.foot b → ¬ y.foot b
  xz : ∀ b, x.foot b → ¬ z.foot b
  yz : ∀ b, y.foot b → ¬ z.foot b
theorem L3.rot {W w : World} {x y z : Ld} (h : L3 W w x y z) : L3 W w y z x := ⟨h.sy, h.sz, h.sx, h.yz, fun b h1 h2 => h.xy b h2 h1, fun b h1 h2 => h.xz b h2 h1⟩
theorem L3.below {W w w' : World} {x y z : Ld} (h : L3 W w x y z) (hb : Below w.heap.size w w') : L3 W w' x y z := ⟨St.below' h.sx hb, St.below' h.sy hb, St.below' h.sz hb, h.xy, h.xz, h.yz⟩
theorem L3.step {W w w' : World} {x y z : Ld} (h : L3 W w x y z) (n : Nat) (ms : List Wt) (hs : St W w' x.g x.l x.m n x.k ms) (hc : Chg w w' x.foot) : L3 W w' { x with n := n, ms := ms } y z := by
  have hS : ∀ b, x.foot b → W.heap.size ≤ b := fun b hb => (St.foot h.sx b hb).1
  exact ⟨hs, St.chg h.sy hc hS (fun b h1 h2 => h.xy b h2 h1), St.chg h.sz hc hS (fun b h1 h2 => h.xz b h2 h1), h.xy, h.xz, h.yz⟩
theorem AddX {W w : World} {x y z : Ld} (h : L3 W w x y z) (hn : x.n < 1000000) (i e p v : Int) (hi : (kv i).wf = true) (hv : addV x.k x.ms i e p = v) (ms' : List Wt) (hm : (if v = 0 then x.ms ++ [(i, e, p)] else x.ms) = ms') :
    Calls Try.prog 10 #[.pointer (some ⟨x.g, 0, none⟩), .int .i64 i, .int .i64 e, .int .i64 p] w fun r w' => r = .returned (.int .i64 v) ∧ L3 W w' { x with n := x.n + 1, ms := ms' } y z := by
  refine (AddS h.sx hn i e p v hi hv ms' hm).mono ?_
  rintro r w' ⟨rfl, hs, hc⟩
  exact ⟨rfl, h.step _ _ hs hc⟩
theorem DropX {W w : World} {x y z : Ld} (h : L3 W w x y z) (hn : x.n < 1000000) (i : Int) (hi : (kv i).wf = true) (b : Bool) (hb : LeP.has x.ms i = b) (ms' : List Wt) (hm : drp x.ms i = ms') :
    Calls Try.prog 13 #[.pointer (some ⟨x.g, 0, none⟩), .int .i64 i] w fun r w' => r = .returned (.bool b) ∧ L3 W w' { x with n := x.n + 1, ms := ms' } y z := by
  refine (DropS h.sx hn i hi b hb ms' hm).mono ?_
  rintro r w' ⟨rfl, hs, hc⟩
  exact ⟨rfl, h.step _ _ hs hc⟩
theorem CanX {W w : World} {x y z : Ld} (h : L3 W w x y z) (e p c : Int) (hc : canV x.k x.ms e p = c) : Calls Try.prog 9 #[.pointer (some ⟨x.g, 0, none⟩), .int .i64 e, .int .i64 p] w fun r w' => r = .returned (.int .i64 c) ∧ L3 W w' x y z := by
  refine (CanS h.sx e p c hc).mono ?_
  rintro r w' ⟨rfl, hs, hb⟩
  exact ⟨rfl, h.below hb⟩
theorem SumX {W w : World} {x y z : Ld} (h : L3 W w x y z) (s : Int × Int) (hs : sOf x.ms = s) : Calls Try.prog 11 #[.pointer (some ⟨x.g, 0, none⟩)] w fun r w' => r = .returned (.agg #[.int .i64 s.1, .int .i64 s.2]) ∧ L3 W w' x y z := by
  refine (SumS h.sx s hs).mono ?_
  rintro r w' ⟨rfl, hs, hb⟩
  exact ⟨rfl, h.below hb⟩
theorem LcmX {W w : World} {x y z : Ld} (h : L3 W w x y z) (L : Int) (hL : (ll x.ms : Int) = L) : Calls Try.prog 14 #[.pointer (some ⟨x.g, 0, none⟩)] w fun r w' => r = .returned (.int .i64 L) ∧ L3 W w' x y z := by
  refine (LcmS h.sx L hL).mono ?_
  rintro r w' ⟨rfl, hs, hb⟩
  exact ⟨rfl, h.below hb⟩
theorem Ld.apart {W w : World} {x : Ld} (h : x.at_ W w) {y : Ld} (hy : ∀ b, y.foot b → w.heap.size ≤ b) (b : Nat) (hb : x.foot b) : ¬ y.foot b := fun h2 => by
  have := (St.foot h b hb).2
  have := hy b h2
  omega
abbrev newL (s : Nat) (k : Int) : Ld := ⟨s + 2, s, s + 1, 0, k, []⟩
theorem newL_foot (s : Nat) (k : Int) (b : Nat) (hb : (newL s k).foot b) : s ≤ b := by
  rcases hb with rfl | rfl | rfl <;> simp
theorem L3.new {W w1 w2 w3 : World} {k1 k2 k3 : Int} {s1 s2 s3 : Nat} (h1 : (newL s1 k1).at_ W w1) (e2 : s2 = w1.heap.size) (h2 : (newL s2 k2).at_ W w2) (b2 : Below w1.heap.size w1 w2) (e3 : s3 = w2.heap.size) (h3 : (newL s3 k3).at_ W w3) (b3 : Below w2.heap.size w2 w3) :
    L3 W w3 (newL s1 k1) (newL s2 k2) (newL s3 k3) := by
  have h1' : (newL s1 k1).at_ W w2 := St.below' h1 b2
  refine ⟨St.below' h1' b3, St.below' h2 b3, h3, Ld.apart h1 (fun b hb => ?_), Ld.apart h1' (fun b hb => ?_), Ld.apart h2 (fun b hb => ?_)⟩
  · have := newL_foot _ _ b hb; omega
  · have := newL_foot _ _ b hb; omega
  · have := newL_foot _ _ b hb; omega
theorem c1 : addV 2 [] 1 1 4093 = 0 := by decide +kernel
theorem c2 : addV 2 [(1, 1, 4093)] 2 1 4091 = 0 := by decide +kernel
theorem c3 : addV 2 [(1, 1, 4093), (2, 1, 4091)] 3 1 4099 = 7 := by decide +kernel
theorem c4 : addV 2 [(1, 1, 4093), (2, 1, 4091)] 1 1 1 = 4 := by decide +kernel
theorem c5 : addV 2 [(1, 1, 4093), (2, 1, 4091)] 4 0 5 = 2 := by decide +kernel
theorem c6 : addV 2 [(1, 1, 4093), (2, 1, 4091)] 1 5 4 = 2 := by decide +kernel
theorem c7 : addV 2 [(1, 1, 4093), (2, 1, 4091)] 5 4093 4093 = 0 := by decide +kernel
theorem c8 : addV 2 [(1, 1, 4093), (2, 1, 4091), (5, 4093, 4093)] 6 4092 4093 = 8 := by decide +kernel
theorem c9 : addV 2 [(1, 1, 4093), (2, 1, 4091), (5, 4093, 4093)] 7 1 4091 = 0 := by decide +kernel
theorem d1 : canV 1 [] 1 1 = 0 := by decide +kernel
theorem d2 : addV 1 [] 9 1 1 = 0 := by decide +kernel
theorem d3 : canV 1 [(9, 1, 1)] 1 1000 = 8 := by decide +kernel
theorem e1 : LeP.has [(1, 1, 4093), (2, 1, 4091), (5, 4093, 4093), (7, 1, 4091)] 2 = true := by decide +kernel
theorem e2 : drp [(1, 1, 4093), (2, 1, 4091), (5, 4093, 4093), (7, 1, 4091)] 2 = [(1, 1, 4093), (5, 4093, 4093), (7, 1, 4091)] := by decide +kernel
theorem e3 : LeP.has [(1, 1, 4093), (5, 4093, 4093), (7, 1, 4091)] 2 = false := by decide +kernel
theorem e4 : drp [(1, 1, 4093), (5, 4093, 4093), (7, 1, 4091)] 2 = [(1, 1, 4093), (5, 4093, 4093), (7, 1, 4091)] := by decide +kernel
theorem e5 : LeP.has [(1, 1, 4093), (5, 4093, 4093), (7, 1, 4091)] 7 = true := by decide +kernel
theorem e6 : drp [(1, 1, 4093), (5, 4093, 4093), (7, 1, 4091)] 7 = [(1, 1, 4093), (5, 4093, 4093)] := by decide +kernel
theorem e7 : (ll [(1, 1, 4093), (5, 4093, 4093)] : Int) = 4093 := by decide +kernel
theorem e8 : sOf [(1, 1, 4093), (5, 4093, 4093)] = (4094, 4093) := by decide +kernel
/-- As many whole weights as there are cores. -/
theorem f1 {ms : List Wt} {j : Nat} (h : Fi 1 ms j j) (hj : j < 64) : addV 64 ms (j : Int) 1 1 = 0 := by
  unfold addV
  rw [if_neg (by decide), if_neg (by rw [h.new]; decide), h.can (by decide) (by decide), if_pos (by omega)]
theorem f2 {ms : List Wt} (h : Fi 1 ms 64 64) : canV 64 ms 1 2 = 8 := by
  have h1 : ll ms = 1 := Nat.dvd_one.1 (ll_one h.p)
  have h3 : ll (ms ++ [(0, 1, 2)]) = 2 := by rw [ll_snoc, h1]; decide
  have h4 : num 2 ms = 2 * num 1 ms := num_scale 2 1 (fun m hm => by rw [h.p m hm]; exact Int.dvd_refl _)
  unfold canV
  rw [if_neg (by decide), if_neg (by rw [h1]; decide), h3, num_snoc]
  show (if (64 : Int) * 2 < num 2 ms + 1 * (2 / 2) then (8 : Int) else 0) = 8
  rw [h4, num_one (by decide) h.p, h.s]
  decide
theorem f3 {ms : List Wt} (h : Fi 1 ms 64 64) : sOf ms = (64, 1) := by
  rw [h.sOf (by decide)]
  decide +kernel
end Go.Proofs.Ytfgmenndmcjggaa.LKnA

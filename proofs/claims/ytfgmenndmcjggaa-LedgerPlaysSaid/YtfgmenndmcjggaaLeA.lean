/- Package ledger, first text: its state in memory. No condition. -/
import Derived.Test.YtfgmenndmcjggaaProg
import Derived.Test.YtfgmenndmcjggaaKit
import Derived.Test.YtfgmenndmcjggaaKit3
import Derived.Test.YtfgmenndmcjggaaKit4
import Derived.Test.YtfgmenndmcjggaaLeP
import Derived.Test.YtfgmenndmcjggaaRaC
import Derived.Test.YtfgmenndmcjggaaWInvWords
import Derived.Maps.OwnSet
import Derived.Maps.OwnOps
import Derived.Maps.Views
import Derived.Maps.RangeWalk
import Derived.OwnWalk
import Derived.StillTactics
import Derived.Deep.Cut
set_option linter.unusedVariables false
set_option linter.unusedSimpArgs false
namespace Go.Proofs.Ytfgmenndmcjggaa.LeA
open Go.RowKit Go.Proofs.Ytfgmenndmcjggaa.Kit Go.Proofs.Ytfgmenndmcjggaa.Kit3 Go.Proofs.Ytfgmenndmcjggaa.LeP Go.Maps
theorem keyed : Keyed Try.prog 3 := int_keyed Try.underlying3
theorem zeroE (w : World) : (zeroValue 3).run Try.prog w = .ok (.int .i64 0) w := by kernel_rfl
theorem zeroW (w : World) : (zeroValue 63).run Try.prog w = .ok (.agg #[.int .i64 0, .int .i64 0]) w := by kernel_rfl
abbrev DD := DataW Unit
abbrev kv (s : Int) : Lit := .int .i64 s
abbrev li (s : Int) : DD := .lit (.int .i64 s)
/-- A weight as a map's element. -/
def pairR : Value → Option (DD × List MemPlace)
  | .agg cs => match cs.toList with
    | [.int .i64 a, .int .i64 b] => some (.agg [li a, li b], [])
    | _ => none
  | _ => none
theorem pairR_at (a b : Int) : pairR (.agg #[.int .i64 a, .int .i64 b]) = some (.agg [li a, li b], []) := rfl
theorem pairR_inv {v : Value} {z : DD × List MemPlace} (h : pairR v = some z) : ∃ a b : Int, v = .agg #[.int .i64 a, .int .i64 b] ∧ z = (.agg [li a, li b], []) := by
  unfold pairR at h
  split at h
  · rename_i cs
    split at h
    · rename_i a b hc
      simp at h
      refine ⟨a, b, ?_, h.symm⟩
      congr 1
      apply Array.ext'
      rw [hc]
    · cases h
  · cases h
theorem map_chg {H : Type} {w w' : World} {P : Program} {k : TypeId} {R : Value → Option (DataW H × List MemPlace)} {b n : Nat} {D : DataW H} {S : Nat → Prop} (h : w.ownsMap P k R b n D) (hc : Chg w w' S) (hb : ¬ S b) : w'.ownsMap P k R b n D := by
  have hlt := h.lt
  obtain ⟨es, clock, h1, r⟩ := h
  exact ⟨es, clock, (hc.block b hlt hb).trans h1, r⟩
/-- What the maps tell of the weights. -/
structure Ix (ms : List Wt) (Dl Dm : DD) : Prop where
  tl : Tidy Dl
  tm : Tidy Dm
  hasl : ∀ s : Int, (kv s).wf = true → Maps.has Dl (kv s) = LeP.has ms s
  atl : ∀ m ∈ ms, ∀ z, Dl.atKey (kv m.1) z = .agg [li m.2.1, li m.2.2]
  sizel : Maps.size Dl = ms.length
  hasm : ∀ q : Int, (kv q).wf = true → Maps.has Dm (kv q) = decide (0 < cnt ms q)
  atm : ∀ q : Int, (kv q).wf = true → Dm.atKey (kv q) (li 0) = li (cnt ms q)
/-- A ledger in memory: at block gh, its maps at bl and bm. -/
structure Lg (w : World) (B gh bl bm n : Nat) (k : Int) (s : Int × Int) (Dl Dm : DD) : Prop where
  box : w.heap[gh]? = some (.cells #[.int .i64 k, .map (some bl), .map (some bm), .int .i64 s.1, .int .i64 s.2] 54 (0, 0))
  ml : w.ownsMap Try.prog 3 pairR bl n Dl
  mm : w.ownsMap Try.prog 3 (plainElem Try.prog 3) bm n Dm
  ne : bl ≠ bm
  bh : B ≤ gh
  bb : B ≤ bl ∧ B ≤ bm
def Foot (gh bl bm k : Nat) : Prop := k = gh ∨ k = bl ∨ k = bm
section
variable {w w' : World} {B gh bl bm n : Nat} {k : Int} {s : Int × Int} {Dl Dm : DD}
theorem Lg.lt (h : Lg w B gh bl bm n k s Dl Dm) : gh < w.heap.size := (Array.getElem?_eq_some_iff.1 h.box).1
theorem Lg.c0 (h : Lg w B gh bl bm n k s Dl Dm) : w.cell? ⟨gh, 0, none⟩ = some (.int .i64 k) := cell_of_row w gh 0 _ _ (0, 0) h.box
theorem Lg.c1 (h : Lg w B gh bl bm n k s Dl Dm) : w.cell? ⟨gh, 1, none⟩ = some (.map (some bl)) := cell_of_row w gh 1 _ _ (0, 0) h.box
theorem Lg.c2 (h : Lg w B gh bl bm n k s Dl Dm) : w.cell? ⟨gh, 2, none⟩ = some (.map (some bm)) := cell_of_row w gh 2 _ _ (0, 0) h.box
theorem Lg.c3 (h : Lg w B gh bl bm n k s Dl Dm) : w.cell? ⟨gh, 3, none⟩ = some (.int .i64 s.1) := cell_of_row w gh 3 _ _ (0, 0) h.box
theorem Lg.c4 (h : Lg w B gh bl bm n k s Dl Dm) : w.cell? ⟨gh, 4, none⟩ = some (.int .i64 s.2) := cell_of_row w gh 4 _ _ (0, 0) h.box
theorem Lg.nm (h : Lg w B gh bl bm n k s Dl Dm) : bl ≠ gh ∧ bm ≠ gh := by
  obtain ⟨es, clock, h1, _⟩ := h.ml
  obtain ⟨es', clock', h2, _⟩ := h.mm
  have h3 := h.box
  refine ⟨fun e => ?_, fun e => ?_⟩
  · rw [e] at h1; rw [h1] at h3; cases h3
  · rw [e] at h2; rw [h2] at h3; cases h3
theorem Lg.foot (h : Lg w B gh bl bm n k s Dl Dm) (b : Nat) (hb : Foot gh bl bm b) : B ≤ b ∧ b < w.heap.size := by
  rcases hb with rfl | rfl | rfl
  · exact ⟨h.bh, h.lt⟩
  · exact ⟨h.bb.1, h.ml.lt⟩
  · exact ⟨h.bb.2, h.mm.lt⟩
theorem Lg.chg {S : Nat → Prop} (h : Lg w B gh bl bm n k s Dl Dm) (hc : Chg w w' S) (hS : ∀ b, Foot gh bl bm b → ¬ S b) : Lg w' B gh bl bm n k s Dl Dm :=
  ⟨(hc.block gh h.lt (hS _ (.inl rfl))).trans h.box, map_chg h.ml hc (hS _ (.inr (.inl rfl))), map_chg h.mm hc (hS _ (.inr (.inr rfl))), h.ne, h.bh, h.bb⟩
theorem Lg.below (h : Lg w B gh bl bm n k s Dl Dm) (hb : Below w.heap.size w w') : Lg w' B gh bl bm n k s Dl Dm :=
  h.chg (Chg.of_below (S := fun _ => False) hb) (fun _ _ e => e)
theorem Lg.up (h : Lg w B gh bl bm n k s Dl Dm) {n' : Nat} (hn : n ≤ n') : Lg w B gh bl bm n' k s Dl Dm := ⟨h.box, h.ml.mono hn, h.mm.mono hn, h.ne, h.bh, h.bb⟩
end
/-- A ledger that holds the weights ms. -/
structure LS (w : World) (B gh bl bm n : Nat) (k : Int) (s : Int × Int) (ms : List Wt) : Prop where
  g : LeP.Good k ms s
  h : ∃ Dl Dm, Lg w B gh bl bm n k s Dl Dm ∧ Ix ms Dl Dm
theorem LS.below {w w' : World} {B gh bl bm n : Nat} {k : Int} {s : Int × Int} {ms : List Wt} (h : LS w B gh bl bm n k s ms) (hb : Below w.heap.size w w') : LS w' B gh bl bm n k s ms := by
  obtain ⟨Dl, Dm, h1, h2⟩ := h.h
  exact ⟨h.g, Dl, Dm, h1.below hb, h2⟩
theorem LS.up {w : World} {B gh bl bm n : Nat} {k : Int} {s : Int × Int} {ms : List Wt} (h : LS w B gh bl bm n k s ms) {n' : Nat} (hn : n ≤ n') : LS w B gh bl bm n' k s ms := by
  obtain ⟨Dl, Dm, h1, h2⟩ := h.h
  exact ⟨h.g, Dl, Dm, h1.up hn, h2⟩
theorem kv_ne {a b : Int} (h : a ≠ b) : kv a ≠ kv b := fun e => h (by cases e; rfl)
theorem kv_key (s : Int) : WideAt.IsKeyLit (kv s) := trivial
theorem wf_of {x : Int} (h1 : -9223372036854775808 ≤ x) (h2 : x < 9223372036854775808) : (Lit.int .i64 x).wf = true := WalkArith.wf_i64 (by omega)
theorem hkey {s : Int} (h : (kv s).wf = true) : keyOf Try.prog 3 (.int .i64 s) = some (kv s) := keyOf_int_mk Try.underlying3 h
end Go.Proofs.Ytfgmenndmcjggaa.LeA

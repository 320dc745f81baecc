/- Package lag: See's contract in plain words; awake. No condition. -/
import Derived.Test.YtiemhmaijiifkaaLaD
set_option linter.unusedVariables false
set_option linter.unusedSimpArgs false
namespace Go.Proofs.Ytiemhmaijiifkaa.LaE
open Go.RowKit Go.Proofs.Ytiemhmaijiifkaa.PR Go.Proofs.Ytiemhmaijiifkaa.RaC Go.Proofs.Ytiemhmaijiifkaa.RaK Go.Proofs.Ytiemhmaijiifkaa.RaR Go.Proofs.Ytiemhmaijiifkaa.LaC Go.Proofs.Ytiemhmaijiifkaa.Kit Go.Proofs.Ytiemhmaijiifkaa.Kit3 Go.Proofs.Ytiemhmaijiifkaa.RaB Go.Proofs.Ytiemhmaijiifkaa.LaD WhPlain RaPlain
/-- A fraction without its sign. -/
def absq (x : Int × Int) : Int × Int := ((x.1.natAbs : Int), x.2)
theorem absq_sm {x : Int × Int} {b d : Nat} (h : Sm x b d) : Sm (absq x) b d := by
  have h1 := h.hn
  refine ⟨⟨h.r.pos, ?_⟩, by show ((x.1.natAbs : Int)).natAbs ≤ b; omega, h.hd⟩
  show Int.gcd (x.1.natAbs : Int) x.2 = 1
  have := h.r.low
  unfold Int.gcd at this ⊢
  simpa using this
/-- The greater of two. -/
def best (m x : Int × Int) : Int × Int := if 0 < cmp3 ((absq x).1 * m.2) (m.1 * (absq x).2) then absq x else m
theorem best_sm {m x : Int × Int} {b d : Nat} (hm : Sm m b d) (hx : Sm x b d) : Sm (best m x) b d := by
  unfold best; split
  · exact absq_sm hx
  · exact hm
theorem neg_is {x : Int × Int} (h : R x) (hn : x.1 < 0) : sub (0, 1) x = absq x := by
  have h1 : R ((0 : Int), (1 : Int)) := ⟨by decide, by decide⟩
  have h2 : R (absq x) := ⟨h.pos, by have := h.low; unfold absq Int.gcd at *; simpa using this⟩
  refine Q.unique (Q.sb (Q.self h1) (Q.self h)) (Q.self h2) ?_
  show (0 * x.2 - x.1 * 1) * x.2 = (x.1.natAbs : Int) * (1 * x.2)
  have e : (x.1.natAbs : Int) = -x.1 := by omega
  rw [e]; grind
theorem SeeC {e p r c : Int} {g : Int × Int} {bg dg : Nat} (he : 1 ≤ e) (hep : e ≤ p) (hp : p ≤ 65536) (hrc : r ≤ c) (hr : r.natAbs ≤ 1048576) (hc : c.natAbs ≤ 1048576) (hn : c - r ≤ 1048576) (hg : Sm g bg dg) (hbg : bg ≤ 1048576) (hdg : dg ≤ 1048576)
    {m x : Int × Int} (hx : lagv e p (c - r) g = x) {b d : Nat} (sm : Sm m b d) (sx : Sm x b d) (hb : b ≤ B0) (hd : d ≤ B0) (w : World) (gl : Nat) (h : LS w gl m) :
    Calls Try.prog 12 #[.pointer (some ⟨gl, 0, none⟩), .int .i64 e, .int .i64 p, .int .i64 r, .int .i64 c, .agg #[.int .i64 g.1, .int .i64 g.2]] w fun r w' => r = .returned (.int .i64 0) ∧ LS w' gl (best m x) ∧ Chg w w' (fun b => b = gl) := by
  have AT := AtC he hep hp hrc hr hc hn hg hbg hdg x hx
  have f1 := sm.fr hb hd
  have f2 := (absq_sm sx).fr hb hd
  have CM := CmpC f2 f1 _ rfl
  have z : Sm ((0 : Int), (1 : Int)) 0 1 := ⟨⟨by decide, by decide⟩, by decide, by decide⟩
  by_cases hneg : x.1 < 0
  · have SB := SubC z sx (by omega) (by omega) (by decide) (by decide) hb hd
    rw [neg_is sx.r hneg] at SB
    exact See_core e p r c g.1 g.2 x.1 x.2 (absq x).1 (absq x).2 m.1 m.2 _ gl w h AT ⟨fun _ => SB⟩ CM ⟨fun h => absurd hneg h⟩
  · have e1 : absq x = x := by
      unfold absq
      rw [show (x.1.natAbs : Int) = x.1 by omega]
    have CM' := CM
    rw [e1] at CM'
    have hr := See_core e p r c g.1 g.2 x.1 x.2 x.1 x.2 m.1 m.2 _ gl w h AT ⟨fun h => absurd h hneg⟩ CM' ⟨fun _ => ⟨rfl, rfl⟩⟩
    refine hr.mono fun r w' hh => ?_
    unfold best
    rw [e1]
    exact hh
theorem aw1 : lagv 1 2 (1 - 0) (1, 1) = (-1, 2) := by decide
theorem aw2 : best (0, 1) (-1, 2) = (1, 2) := by decide
theorem sm_of (n d : Int) (b e : Nat) (h1 : 0 < d) (h2 : Int.gcd n d = 1) (h3 : n.natAbs ≤ b) (h4 : d.natAbs ≤ e) : Sm (n, d) b e := ⟨⟨h1, h2⟩, h3, h4⟩
set_option maxHeartbeats 8000000 in
set_option maxRecDepth 100000 in
theorem awake_at (w : World) : Calls Try.prog 6 #[] w fun r w' => r = .returned (.bool true) ∧ Below w.heap.size w w' := by
  have g1 : Sm ((1 : Int), (1 : Int)) 1 1 := sm_of 1 1 1 1 (by decide) (by decide) (by decide) (by decide)
  have AT := AtC (e := 1) (p := 2) (r := 0) (c := 1) (g := (1, 1)) (by decide) (by decide) (by decide) (by decide) (by decide) (by decide) (by decide) g1 (by decide) (by decide) _ aw1
  have SE : ∀ (w : World) (gl : Nat), LS w gl (0, 1) → Side (Calls Try.prog 12 #[.pointer (some ⟨gl, 0, none⟩), .int .i64 1, .int .i64 2, .int .i64 0, .int .i64 1, .agg #[.int .i64 1, .int .i64 1]] w fun r w' => r = .returned (.int .i64 0) ∧ LS w' gl (1, 2) ∧ Chg w w' (fun b => b = gl)) := by
    intro w gl h
    have := SeeC (e := 1) (p := 2) (r := 0) (c := 1) (g := (1, 1)) (by decide) (by decide) (by decide) (by decide) (by decide) (by decide) (by decide) g1 (by decide) (by decide) aw1 (sm_of 0 1 1 2 (by decide) (by decide) (by decide) (by decide)) (sm_of (-1) 2 1 2 (by decide) (by decide) (by decide) (by decide)) (by decide) (by decide) w gl h
    rw [aw2] at this
    exact ⟨this⟩
  have SE := Side.mk SE
  clear g1
  simp only at AT
  go_enter Try.func6, Try.ntmps6
  go_wp2_with fail
  refine (AT _).out.mono ?_
  rintro e w1 ⟨rfl, hb⟩
  go_upto_region 2 with (fail)
  have BX := Side.mk (Box2.new w1 .i64 (-1) 2 26)
  have HB : Side (Below w.heap.size w (w1.alloc (.cells #[.int .i64 (-1), .int .i64 2] 26))) := ⟨below_alloc2 hb _⟩
  obtain ⟨gx, hgx⟩ : ∃ g, g = w1.heap.size := ⟨_, rfl⟩
  rw [← hgx] at BX ⊢
  generalize w1.alloc (.cells #[.int .i64 (-1), .int .i64 2] 26) = w2 at *
  clear hb hgx
  go_wp2_with fail
  refine (New_at _).mono ?_
  rintro e w3 ⟨rfl, rfl⟩
  have HL : Side (LS (w2.alloc (.cells #[.int .i64 0, .int .i64 1] 46)) w2.heap.size (0, 1)) := ⟨heap_alloc_new w2 _⟩
  have BX3 := Side.mk (BX.out.alloc (.cells #[.int .i64 0, .int .i64 1] 46))
  have HB3 := Side.mk (below_alloc2 HB.out (.cells #[.int .i64 0, .int .i64 1] 46))
  have hgl : w.heap.size ≤ w2.heap.size := HB.out.size
  have hne : gx ≠ w2.heap.size := by have := BX.out.lt; omega
  obtain ⟨gl, hgl'⟩ : ∃ g, g = w2.heap.size := ⟨_, rfl⟩
  rw [← hgl'] at HL hgl hne ⊢
  generalize w2.alloc (.cells #[.int .i64 0, .int .i64 1] 46) = w4 at *
  clear hgl' BX HB
  go_wp2_with fail
  refine (Most_at _ _ _ HL.out).mono ?_
  rintro e w5 ⟨rfl, hb⟩
  have HL5 := Side.mk (HL.out.below hb)
  have BX5 := Side.mk (BX3.out.below hb)
  have HB5 := Side.mk (below_then HB3.out HB3.out.size hb)
  clear hb HL BX3 HB3
  go_wp2_with fail
  refine (SE.out _ _ HL5.out).out.mono ?_
  rintro e w6 ⟨rfl, hl, hc⟩
  have HL6 := Side.mk hl
  have b0 : w6.cell? ⟨gx, 0, none⟩ = some (.int .i64 (-1)) := by
    have := hc.block gx BX5.out.lt hne
    rw [← BX5.out.c0]; simp only [World.cell?, this]
  have b1 : w6.cell? ⟨gx, 1, none⟩ = some (.int .i64 2) := by
    have := hc.block gx BX5.out.lt hne
    rw [← BX5.out.c1]; simp only [World.cell?, this]
  have HB6 := Side.mk (below_then HB5.out HB5.out.size (Below.refl _ w5))
  have HB7 : Side (Below w.heap.size w w6) := ⟨HB5.out.trans (hc.below HB5.out.size (by rintro k rfl; exact hgl))⟩
  clear hl hc
  go_wp2_with fail
  refine (Most_at _ _ _ HL6.out).mono ?_
  rintro e w7 ⟨rfl, hb⟩
  have HB8 := Side.mk (below_then HB7.out HB7.out.size hb)
  clear hb
  go_wp2
  go_ret
  exact ⟨rfl, HB8.out⟩
end Go.Proofs.Ytiemhmaijiifkaa.LaE

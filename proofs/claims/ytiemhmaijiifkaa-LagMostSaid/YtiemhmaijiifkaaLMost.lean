/- Package lag: LagMost holds. No condition. -/
import Derived.Test.YtiemhmaijiifkaaLaH
import Derived.Test.YtiemhmaijiifkaaKit2
set_option linter.unusedVariables false
set_option linter.unusedSimpArgs false
namespace Go.Proofs.Ytiemhmaijiifkaa.LMost
open Go.RowKit Go.Proofs.Ytiemhmaijiifkaa.Kit Go.Proofs.Ytiemhmaijiifkaa.Kit2 Go.Proofs.Ytiemhmaijiifkaa.Kit3 Go.Proofs.Ytiemhmaijiifkaa.RaB Go.Proofs.Ytiemhmaijiifkaa.RaC Go.Proofs.Ytiemhmaijiifkaa.RaK Go.Proofs.Ytiemhmaijiifkaa.LaC Go.Proofs.Ytiemhmaijiifkaa.LaD Go.Proofs.Ytiemhmaijiifkaa.LaE Go.Proofs.Ytiemhmaijiifkaa.LaF Go.Proofs.Ytiemhmaijiifkaa.LaG Go.Proofs.Ytiemhmaijiifkaa.LaH WhPlain RaPlain
def pq (V : Nat → Nat → Value) (i : Nat) : Int := 1 + intOf (V i 0) % 12
def eq_ (V : Nat → Nat → Value) (i : Nat) : Int := 1 + intOf (V i 1) % pq V i
def X (V : Nat → Nat → Value) (i : Nat) : Int × Int := lagv (eq_ V i) (pq V i) (intOf (V i 2) % 40 - 0) (intOf (V i 2) % 7, 1)
def BA : Nat := 40 * 65536 * 1 + 7 * (1 * 65536)
def BD : Nat := 1 * 65536 * 1
theorem u8_of {v : Value} (h : CK.ok (.i .u8) v) : v = .int .u8 (intOf v) ∧ 0 ≤ intOf v ∧ intOf v ≤ 255 := by
  obtain ⟨x, rfl, hx⟩ := h
  exact ⟨rfl, (isu8 hx).1, (isu8 hx).2⟩
theorem rowc {W w : World} {a : Option Addr} {len : Nat} {V : Nat → Nat → Value} (h : InRow [.i .u8, .i .u8, .i .u8] W a len V) (hb : Below W.heap.size W w) (i : Nat) (hi : i < len) :
    ∃ b off, a = some ⟨b, off, none⟩ ∧ (w.cell? ⟨b, off + i * 3, none⟩ = some (.int .u8 (intOf (V i 0))) ∧ w.cell? ⟨b, off + i * 3 + 1, none⟩ = some (.int .u8 (intOf (V i 1))) ∧ w.cell? ⟨b, off + i * 3 + 2, none⟩ = some (.int .u8 (intOf (V i 2))) ∧ b < w.heap.size) ∧
      (0 ≤ intOf (V i 0) ∧ intOf (V i 0) ≤ 255) ∧ (0 ≤ intOf (V i 1) ∧ intOf (V i 1) ≤ 255) ∧ (0 ≤ intOf (V i 2) ∧ intOf (V i 2) ≤ 255) := by
  obtain ⟨b, off, hp, hcs⟩ := h
  obtain ⟨rfl, hbl⟩ := hp (by omega)
  obtain ⟨c0, h0⟩ := hcs i hi 0 _ rfl
  obtain ⟨c1, h1⟩ := hcs i hi 1 _ rfl
  obtain ⟨c2, h2⟩ := hcs i hi 2 _ rfl
  have z0 := u8_of h0
  have z1 := u8_of h1
  have z2 := u8_of h2
  rw [z0.1] at c0
  rw [z1.1] at c1
  rw [z2.1] at c2
  have hc := (bcell hb).1
  refine ⟨b, off, rfl, ⟨(hc _ _ hbl).trans ?_, (hc _ _ hbl).trans ?_, (hc _ _ hbl).trans ?_, Nat.lt_of_lt_of_le hbl hb.size⟩, z0.2, z1.2, z2.2⟩
  · exact c0
  · exact c1
  · exact c2
theorem X_sm {V : Nat → Nat → Value} {i : Nat} (h0 : 0 ≤ intOf (V i 0) ∧ intOf (V i 0) ≤ 255) (h1 : 0 ≤ intOf (V i 1) ∧ intOf (V i 1) ≤ 255) (h2 : 0 ≤ intOf (V i 2) ∧ intOf (V i 2) ≤ 255) :
    1 ≤ eq_ V i ∧ eq_ V i ≤ pq V i ∧ 1 ≤ pq V i ∧ pq V i ≤ 12 ∧ Sm (X V i) BA BD := by
  have hp : 1 ≤ pq V i ∧ pq V i ≤ 12 := by unfold pq; omega
  have he : 1 ≤ eq_ V i ∧ eq_ V i ≤ pq V i := by
    unfold eq_
    have a1 := Int.emod_nonneg (intOf (V i 1)) (by omega : pq V i ≠ 0)
    have a2 := Int.emod_lt_of_pos (intOf (V i 1)) (by omega : 0 < pq V i)
    omega
  refine ⟨he.1, he.2, hp.1, hp.2, ?_⟩
  exact lag_sm (bn := 40) (bg := 7) (dg := 1) he.1 he.2 (by omega) (by omega) (one_sm (by omega))
/-- A lag is seen through the closure. -/
theorem clo_at {W w : World} {a : Option Addr} {len cap : Nat} {V : Nat → Nat → Value} (hrow : InRow [.i .u8, .i .u8, .i .u8] W a len V) (hb : Below W.heap.size W w) (hl : len ≤ 60) (gl gn : Nat) (m : Int × Int) (hL : LS w gl m) (hm : Sm m BA BD)
    (hn : w.cell? ⟨gn, 0, none⟩ = some (.slice a len cap)) (hg : gn < w.heap.size) (i : Nat) (hi : i < len) :
    Side (Calls Try.prog 14 #[.pointer (some ⟨gl, 0, none⟩), .int .i64 (i : Int), .pointer (some ⟨gn, 0, none⟩)] w fun r w' => r = .returned (.bool true) ∧ LS w' gl (best m (X V i)) ∧ Chg w w' (fun b => b = gl)) := by
  obtain ⟨b, off, rfl, hc, h0, h1, h2⟩ := rowc hrow hb i hi
  obtain ⟨e1, e2, p1, p2, sx⟩ := X_sm h0 h1 h2
  have g1 : Sm ((intOf (V i 2) % 7 : Int), (1 : Int)) 7 1 := one_sm (by omega)
  have SE : ∀ w', LS w' gl m → Side (Calls Try.prog 12 #[.pointer (some ⟨gl, 0, none⟩), .int .i64 (eq_ V i), .int .i64 (pq V i), .int .i64 0, .int .i64 (intOf (V i 2) % 40), .agg #[.int .i64 (intOf (V i 2) % 7), .int .i64 1]] w' fun r w'' => r = .returned (.int .i64 0) ∧ LS w'' gl (best m (X V i)) ∧ Chg w' w'' (fun b => b = gl)) := fun w' hL' =>
    ⟨SeeC (e := eq_ V i) (p := pq V i) (r := 0) (c := intOf (V i 2) % 40) (g := (intOf (V i 2) % 7, 1)) e1 e2 (by omega) (by omega) (by omega) (by omega) (by omega) g1 (by decide) (by decide) rfl hm sx (by decide) (by decide) w' gl hL'⟩
  refine ⟨clo gl gn b off i len cap (intOf (V i 0)) (intOf (V i 1)) (intOf (V i 2)) (eq_ V i) (pq V i) (intOf (V i 2) % 40) (intOf (V i 2) % 7) (intOf (V i 0) % 12) (intOf (V i 1) % pq V i) m (best m (X V i)) w ⟨hL⟩ ⟨⟨hn, hg⟩⟩ ⟨hc⟩ (by omega) (by omega) (IntWalk.i64_in _ (by omega)) (IntWalk.i64_in _ (by omega)) (IntWalk.i64_in _ (by omega)) (Kit.tm h0.1) ?_ (by omega) (Kit.tm h1.1) ?_ (Kit.tm h2.1) (Kit.tm h2.1) SE⟩
  · exact IntWalk.i64_in _ (by unfold pq at p1 p2; omega)
  · exact IntWalk.i64_in _ (by unfold eq_ at e1 e2; omega)
/-- What stands between the rounds. -/
structure Lo (W : World) (V : Nat → Nat → Value) (a : Option Addr) (len cap t : Nat) (ga gb gn : Nat) (i : Nat) (w : World) : Prop where
  la : ∃ m, LS w ga m ∧ Sm m BA BD ∧ Mx (X V) (fun k => k < i) m
  lb : ∃ m, LS w gb m ∧ Sm m BA BD ∧ Mx (X V) (fun k => ∃ j, j < i ∧ k = turn len t j) m
  n : w.cell? ⟨gn, 0, none⟩ = some (.slice a len cap)
  g : gn < w.heap.size
  bel : Below W.heap.size W w
theorem turn_int {len i : Nat} {t : Int} (hi : i < len) (ht : 0 ≤ t) : Int.tmod ((len : Int) - 1 - i + t) len = ((turn len t.toNat i : Nat) : Int) := by
  unfold turn
  rw [Int.tmod_eq_emod_of_nonneg (by omega)]
  obtain ⟨n, rfl⟩ : ∃ n : Nat, t = n := ⟨t.toNat, by omega⟩
  have e : (len : Int) - 1 - i + n = ((len - 1 - i + n : Nat) : Int) := by omega
  rw [e, Int.toNat_natCast]
  rfl
/-- Behind the first of a round's two. -/
structure Mid (W : World) (V : Nat → Nat → Value) (a : Option Addr) (len cap t : Nat) (ga gb gn : Nat) (i : Nat) (w : World) : Prop where
  la : ∃ m, LS w ga m ∧ Sm m BA BD ∧ Mx (X V) (fun k => k < i + 1) m
  lb : ∃ m, LS w gb m ∧ Sm m BA BD ∧ Mx (X V) (fun k => ∃ j, j < i ∧ k = turn len t j) m
  n : w.cell? ⟨gn, 0, none⟩ = some (.slice a len cap)
  g : gn < w.heap.size
  bel : Below W.heap.size W w
theorem cell_chg {w w' : World} {S : Nat → Prop} {g o : Nat} (hc : Chg w w' S) (h : g < w.heap.size) (hs : ¬ S g) : w'.cell? ⟨g, o, none⟩ = w.cell? ⟨g, o, none⟩ := by
  have := hc.block g h hs
  simp only [World.cell?, this]
theorem X_R {W w : World} {a : Option Addr} {len : Nat} {V : Nat → Nat → Value} (h : InRow [.i .u8, .i .u8, .i .u8] W a len V) (i : Nat) (hi : i < len) : Sm (X V i) BA BD := by
  obtain ⟨_, _, _, _, h0, h1, h2⟩ := rowc h (Below.refl _ _) i hi
  exact (X_sm h0 h1 h2).2.2.2.2
theorem Lo.mid {W : World} {V : Nat → Nat → Value} {a : Option Addr} {len cap t ga gb gn i : Nat} {w w' : World} {ma mb : Int × Int} (h : Lo W V a len cap t ga gb gn i w) (hLa : LS w ga ma) (hLb : LS w gb mb) (sa : Sm ma BA BD) (sb : Sm mb BA BD)
    (xa : Mx (X V) (fun k => k < i) ma) (xb : Mx (X V) (fun k => ∃ j, j < i ∧ k = turn len t j) mb) (hLA : LS w' ga (best ma (X V i))) (hc : Chg w w' (fun b => b = ga)) (hrow : InRow [.i .u8, .i .u8, .i .u8] W a len V) (hi : i < len)
    (hga : W.heap.size ≤ ga) (hna : gn ≠ ga) (hab : ga ≠ gb) : Mid W V a len cap t ga gb gn i w' where
  la := ⟨_, hLA, best_sm sa (X_R (w := W) hrow i hi), (xa.see i (X_R (w := W) hrow i hi).r).congr (fun k => by omega)⟩
  lb := ⟨_, hLb.chg hc (fun e => hab e.symm), sb, xb⟩
  n := (cell_chg hc h.g hna).trans h.n
  g := Nat.lt_of_lt_of_le h.g hc.size
  bel := h.bel.trans (hc.below h.bel.size (by rintro k rfl; exact hga))
theorem Mid.lo {W : World} {V : Nat → Nat → Value} {a : Option Addr} {len cap t ga gb gn i : Nat} {w w' : World} {ma mb : Int × Int} (h : Mid W V a len cap t ga gb gn i w) (hLa : LS w ga ma) (hLb : LS w gb mb) (sa : Sm ma BA BD) (sb : Sm mb BA BD)
    (xa : Mx (X V) (fun k => k < i + 1) ma) (xb : Mx (X V) (fun k => ∃ j, j < i ∧ k = turn len t j) mb) (hLB : LS w' gb (best mb (X V (turn len t i)))) (hc : Chg w w' (fun b => b = gb)) (hrow : InRow [.i .u8, .i .u8, .i .u8] W a len V) (hi : i < len)
    (hgb : W.heap.size ≤ gb) (hnb : gn ≠ gb) (hab : ga ≠ gb) : Lo W V a len cap t ga gb gn (i + 1) w' where
  la := ⟨_, hLa.chg hc hab, sa, xa⟩
  lb := ⟨_, hLB, best_sm sb (X_R (w := W) hrow _ (turn_lt (by omega))), (xb.see _ (X_R (w := W) hrow _ (turn_lt (by omega))).r).congr (fun k => by
    constructor
    · rintro (⟨j, hj, rfl⟩ | rfl)
      · exact ⟨j, by omega, rfl⟩
      · exact ⟨i, by omega, rfl⟩
    · rintro ⟨j, hj, rfl⟩
      by_cases he : j = i
      · exact .inr (by rw [he])
      · exact .inl ⟨j, by omega, rfl⟩)⟩
  n := (cell_chg hc h.g hnb).trans h.n
  g := Nat.lt_of_lt_of_le h.g hc.size
  bel := h.bel.trans (hc.below h.bel.size (by rintro k rfl; exact hgb))
set_option maxHeartbeats 8000000 in
set_option maxRecDepth 100000 in
theorem walk (a : Option Addr) (len cap : Nat) (V : Nat → Nat → Value) (tn : Int) (w : World) (hrow : InRow [.i .u8, .i .u8, .i .u8] w a len V) (hlen : len ≤ maxLen) (ht : (Lit.int .u8 tn).wf = true) :
    Calls Try.prog 5 #[.slice a len cap, .int .u8 tn] w fun r w' => r = .returned (.bool true) ∧ Below w.heap.size w w' := by
  have HROW := Side.mk hrow
  obtain ⟨t0, t1⟩ := isu8 ht
  have hl : (len : Int) ≤ 9223372036854775807 := by unfold maxLen at hlen; omega
  clear hrow hlen ht
  go_enter Try.func5, Try.ntmps5
  go_wp2_with fail
  refine (awake_at _).mono ?_
  rintro e w1 ⟨rfl, hb⟩
  have n0 : w1.cell? ⟨w.heap.size, 0, none⟩ = some (.slice a len cap) := ((bcell hb).1 _ _ (by simp)).trans (by go_simp)
  have n1 : w.heap.size < w1.heap.size := Nat.lt_of_lt_of_le (by simp) hb.size
  have HB : Side (Below w.heap.size w w1) := ⟨below_then (by (repeat (with_reducible first | exact Below.refl _ _ | apply below_alloc))) (by simp) hb⟩
  clear hb
  obtain ⟨gn, hgn⟩ : ∃ g, g = w.heap.size := ⟨_, rfl⟩
  rw [← hgn] at n0 n1 ⊢
  have HG : Side (gn = w.heap.size) := ⟨hgn⟩
  clear hgn
  by_cases h0 : len = 0
  · subst h0
    go_wp2
    go_ret
    exact ⟨rfl, HB.out⟩
  by_cases hbig : 60 < len
  · have hb1 : (60 : Int) < len := by omega
    have hb2 : ((len : Int) == 0) = false := by simpa using h0
    go_wp2
    go_ret
    exact ⟨rfl, HB.out⟩
  have hb1 : ¬ (60 : Int) < len := by omega
  have hb2 : ((len : Int) == 0) = false := by simpa using h0
  go_wp2_with fail
  refine (New_at _).mono ?_
  rintro e w2 ⟨rfl, rfl⟩
  have LA : Side (LS (w1.alloc (.cells #[.int .i64 0, .int .i64 1] 46)) w1.heap.size (0, 1)) := ⟨heap_alloc_new w1 _⟩
  have n0' : (w1.alloc (.cells #[.int .i64 0, .int .i64 1] 46)).cell? ⟨gn, 0, none⟩ = some (.slice a len cap) := (World.cell?_alloc_some w1 _ _ (by rw [n0]; rfl)).trans n0
  have n1' : gn < (w1.alloc (.cells #[.int .i64 0, .int .i64 1] 46)).heap.size := by simp; omega
  have HB2 := Side.mk (below_alloc2 HB.out (.cells #[.int .i64 0, .int .i64 1] 46))
  have hna : Side (gn ≠ w1.heap.size ∧ w.heap.size ≤ w1.heap.size) := ⟨by omega, HB.out.size⟩
  obtain ⟨ga, hga⟩ : ∃ g, g = w1.heap.size := ⟨_, rfl⟩
  rw [← hga] at LA hna ⊢
  generalize w1.alloc (.cells #[.int .i64 0, .int .i64 1] 46) = w2 at *
  clear hga n0 n1 HB
  go_wp2_with fail
  refine (New_at _).mono ?_
  rintro e w3 ⟨rfl, rfl⟩
  have LB : Side (LS (w2.alloc (.cells #[.int .i64 0, .int .i64 1] 46)) w2.heap.size (0, 1)) := ⟨heap_alloc_new w2 _⟩
  have LA3 : Side (LS (w2.alloc (.cells #[.int .i64 0, .int .i64 1] 46)) ga (0, 1)) := ⟨LA.out.below ((Below.refl _ w2).alloc (Nat.le_refl _) _)⟩
  have n0 : (w2.alloc (.cells #[.int .i64 0, .int .i64 1] 46)).cell? ⟨gn, 0, none⟩ = some (.slice a len cap) := (World.cell?_alloc_some w2 _ _ (by rw [n0']; rfl)).trans n0'
  have n1 : gn < (w2.alloc (.cells #[.int .i64 0, .int .i64 1] 46)).heap.size := by simp; omega
  have HB3 := Side.mk (below_alloc2 HB2.out (.cells #[.int .i64 0, .int .i64 1] 46))
  have hnb : Side (gn ≠ w2.heap.size ∧ ga ≠ w2.heap.size ∧ w.heap.size ≤ w2.heap.size) := ⟨by omega, by have := LA.out.lt; omega, HB2.out.size⟩
  obtain ⟨gb, hgb⟩ : ∃ g, g = w2.heap.size := ⟨_, rfl⟩
  rw [← hgb] at LB hnb ⊢
  generalize w2.alloc (.cells #[.int .i64 0, .int .i64 1] 46) = w3 at *
  clear hgb n0' n1' HB2 LA
  have z0 : Sm ((0 : Int), (1 : Int)) BA BD := ⟨⟨by decide, by decide⟩, by decide, by decide⟩
  have LO : Side (Lo w V a len cap tn.toNat ga gb gn 0 w3) := ⟨⟨⟨_, LA3.out, z0, Mx.start.congr (fun k => ⟨fun h => h.elim, fun h => absurd h (Nat.not_lt_zero _)⟩)⟩, ⟨_, LB.out, z0, Mx.start.congr (fun k => ⟨fun h => h.elim, fun ⟨j, h, _⟩ => absurd h (Nat.not_lt_zero _)⟩)⟩, n0, n1, HB3.out⟩⟩
  clear LA3 LB n0 n1 HB3 z0
  go_upto_region 9 with (fail)
  go_wp2_with fail
  go_loopw [8] (fun v8 wr => ∃ i : Nat, v8 = .int .i64 (i : Int) ∧ i ≤ len ∧ Side (Lo w V a len cap tn.toNat ga gb gn i wr)) (fun v8 _ => (len - intOf v8).toNat)
  case atStart => exact ⟨0, rfl, by omega, LO⟩
  case round =>
    obtain ⟨i, rfl, hi, LR⟩ := hrel
    clear LO
    have n0 := LR.out.n
    have n1 := LR.out.g
    by_cases hlt : i < len
    · have hlt' : (i : Int) < len := by omega
      go_wp2_with fail
      have LR' := LR.out
      obtain ⟨ma, hLa, sa, xa⟩ := LR'.la
      obtain ⟨mb, hLb, sb, xb⟩ := LR'.lb
      refine (clo_at HROW.out LR'.bel (by omega) ga gn ma hLa sa n0 n1 i hlt).out.mono ?_
      rintro e wA ⟨rfl, hLA, hcA⟩
      have hA := rowc HROW.out LR'.bel i hlt
      have ML : Side (Mid w V a len cap tn.toNat ga gb gn i wA) := ⟨LR'.mid hLa hLb sa sb xa xb hLA hcA HROW.out hlt hna.out.2 hna.out.1 hnb.out.2.1⟩
      clear hA LR' hLa hLb sa sb xa xb hLA hcA n0 n1 LR ma mb
      have n0 := ML.out.n
      have n1 := ML.out.g
      have w1_ : IntKind.i64.wrap tn = tn := IntWalk.i64_in _ (by omega)
      have w2_ : IntKind.i64.wrap ((len : Int) - 1) = (len : Int) - 1 := IntWalk.i64_in _ (by omega)
      have w3_ : IntKind.i64.wrap ((len : Int) - 1 - i) = (len : Int) - 1 - i := IntWalk.i64_in _ (by omega)
      have w4_ : IntKind.i64.wrap ((len : Int) - 1 - i + tn) = (len : Int) - 1 - i + tn := IntWalk.i64_in _ (by omega)
      have w5_ : ¬ (len : Int) = 0 := by omega
      have w6_ : Int.tmod ((len : Int) - 1 - i + tn) len = ((turn len tn.toNat i : Nat) : Int) := turn_int hlt t0
      go_wp2_with fail
      have LR' := ML.out
      obtain ⟨ma, hLa, sa, xa⟩ := LR'.la
      obtain ⟨mb, hLb, sb, xb⟩ := LR'.lb
      refine (clo_at HROW.out LR'.bel (by omega) gb gn mb hLb sb n0 n1 _ (turn_lt (by omega))).out.mono ?_
      rintro e wB ⟨rfl, hLB, hcB⟩
      have LN : Side (Lo w V a len cap tn.toNat ga gb gn (i + 1) wB) := ⟨LR'.lo hLa hLb sa sb xa xb hLB hcB HROW.out hlt hnb.out.2.2 hnb.out.1 hnb.out.2.1⟩
      clear LR' hLa hLb sa sb xa xb hLB hcB n0 n1 ML ma mb w1_ w2_ w3_ w4_ w5_ w6_
      have hb5 : (i : Int) + 1 ≤ 9223372036854775807 := by omega
      go_wp2
      go_roundw
      case rel => exact ⟨i + 1, by simp, by omega, LN⟩
      case measure => simp [intOf]; omega
    · obtain rfl : i = len := by omega
      have LR' := LR.out
      obtain ⟨ma, hLa, sa, xa⟩ := LR'.la
      obtain ⟨mb, hLb, sb, xb⟩ := LR'.lb
      obtain rfl : ma = mb := xa.uniq (xb.congr (fun k => turn_all k))
      have hp := xa.p
      have HA := Side.mk hLa
      have HB := Side.mk hLb
      have HBel := Side.mk LR'.bel
      clear LR' hLa hLb sa sb xa xb LR
      go_wp2_with fail
      refine (Most_at _ _ _ HA.out).mono ?_
      rintro e wA ⟨rfl, hb⟩
      have HA2 := Side.mk (HA.out.below hb)
      have HB2 := Side.mk (HB.out.below hb)
      have HBel2 := Side.mk (below_then HBel.out HBel.out.size hb)
      clear hb HA HB HBel
      go_wp2_with fail
      refine (Most_at _ _ _ HB2.out).mono ?_
      rintro e wB ⟨rfl, hb⟩
      have HA3 := Side.mk (HA2.out.below hb)
      have HBel3 := Side.mk (below_then HBel2.out HBel2.out.size hb)
      clear hb HA2 HB2 HBel2
      go_wp2_with fail
      refine (Most_at _ _ _ HA3.out).mono ?_
      rintro e wC ⟨rfl, hb⟩
      have HBel4 := Side.mk (below_then HBel3.out HBel3.out.size hb)
      clear hb HA3 HBel3
      have hfd : ∀ w : World, (Instr.field 26 (.agg #[.int .i64 ma.1, .int .i64 ma.2]) 0).run Try.prog w = .ok (.int .i64 ma.1) w := fun _ => by kernel_rfl
      have hpd : decide (0 ≤ ma.1) = true := decide_eq_true hp
      go_wp2
      go_ret
      exact ⟨by simp [hp], HBel4.out⟩
end Go.Proofs.Ytiemhmaijiifkaa.LMost

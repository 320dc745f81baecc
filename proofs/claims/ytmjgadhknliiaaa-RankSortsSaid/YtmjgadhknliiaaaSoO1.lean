/- RankSorts: a piece of the walk. No condition. -/
import Derived.Test.YtmjgadhknliiaaaSoOp
set_option linter.unusedVariables false
set_option linter.unusedSimpArgs false
namespace Go.Proofs.Ytmjgadhknliiaaa.SoO1
open Go.RowKit Go.Proofs.Ytmjgadhknliiaaa.Kit Go.Proofs.Ytmjgadhknliiaaa.Kit2 Go.Proofs.Ytmjgadhknliiaaa.Kit4 Go.Proofs.Ytmjgadhknliiaaa.Kit5 Go.Proofs.Ytmjgadhknliiaaa.Rank Go.Proofs.Ytmjgadhknliiaaa.SoA Go.Proofs.Ytmjgadhknliiaaa.SoK Go.Proofs.Ytmjgadhknliiaaa.SoM Go.Proofs.Ytmjgadhknliiaaa.SoN SoPlain
open Go.Proofs.YtmjgadhknliiaaaW.PrintLast
open Go.Proofs.Ytmjgadhknliiaaa.SoOp
set_option maxHeartbeats 400000000 in
set_option maxRecDepth 100000 in
theorem piece : SoOp.part.1 := by
  set_option tactic.hygienic false in (intro _; intros)
  have hii : (i : Int) < len := by omega
  have hi1 : (i : Int) + 1 ≤ 9223372036854775807 := by omega
  have hbw := HB1.out.trans (HB.out.mono HB1.out.size)
  obtain ⟨g, off, rfl, hgl, c0, c1, c2, c3⟩ := row4 HROW.out hbw i hin
  obtain ⟨x, hx⟩ : ∃ x, x = Y V i := ⟨_, rfl⟩
  rw [← hx] at c0 c1 c2 c3
  have HX := Side.mk hx
  obtain ⟨a3, c3', rfl, -, -⟩ := HM.out.shape E4
  clear hx hbw
  go_wp2_with fail
  refine (Made_at x _).mono ?_
  rintro e w2 ⟨rfl, hb⟩
  have hb2 : Below wp.heap.size wp w2 := below_then (by (repeat (with_reducible first | exact Below.refl _ _ | apply below_drewN | apply below_drew | apply below_alloc))) (Nat.le_refl _) hb
  have HB2 : Side (Below w1.heap.size w1 w2) := ⟨HB.out.trans (hb2.mono HB.out.size)⟩
  have HM2 := Side.mk (HM.out.below hb2)
  clear hb hb2 HB HM c0 c1 c2 c3 hgl
  go_wp2_with (at_builtin; refine wpList_gapp E4 Try.underlying38 infoR rfl (by decide) rfl _ _ rfl w1.heap.size _ (ls V i) rfl ?c1 ⟨w2.heap.size, 0, none⟩ 1 [x] rfl ?c2 ?c3 ?c4 ?c5)
  case c1 => exact HM2.out.below (by (repeat (with_reducible first | exact Below.refl _ _ | apply below_drewN | apply below_drew | apply below_alloc)))
  case c2 =>
    intro r y hy q u hu
    rcases r with _ | r
    · simp at hy
      subst hy
      rw [show (⟨w2.heap.size, 0, none⟩ : Addr).add (0 * 4 + q) = ⟨w2.heap.size, q, none⟩ by simp [Addr.add]; try omega]
      refine (World.cell?_alloc_at _ _ _ _ rfl).trans ?_
      simpa [rcl] using hu
    · simp at hy
  case c3 => rw [ls_len]; simp; omega
  case c4 => have := HB2.out.size; simp; omega
  case c5 =>
    intro v' w3 hrow hgr hat
    have HN : Side (RRow w3 w1.heap.size v' (ls V (i + 1))) := ⟨by rw [ls_more, ← HX.out]; exact hrow⟩
    have HB3 : Side (Below w1.heap.size w1 w3) := ⟨bel_grown (HB2.out.trans (((by (repeat (with_reducible first | exact Below.refl _ _ | apply below_drewN | apply below_drew | apply below_alloc))) : Below w2.heap.size w2 _).mono HB2.out.size)) hgr (fun k e => HM2.out.base k e.symm)⟩
    clear hrow hgr hat HM2 HB2 HX
    go_wp2
    go_roundw
    case rel => exact ⟨i + 1, by simp, by omega, HB3, HN⟩
    case measure => simp [intOf]; omega
end Go.Proofs.Ytmjgadhknliiaaa.SoO1

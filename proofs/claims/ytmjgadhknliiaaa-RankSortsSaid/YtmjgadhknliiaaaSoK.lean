/- slices.SortStableFunc and slices.Clone over ranks; rank.Sort. No condition but that there are at most 300. -/
import Derived.Test.YtmjgadhknliiaaaSoJ
import Derived.Laws.Cover3
set_option linter.unusedVariables false
set_option linter.unusedSimpArgs false
namespace Go.Proofs.Ytmjgadhknliiaaa.SoK
open Go.RowKit Go.Proofs.Ytmjgadhknliiaaa.Kit Go.Proofs.Ytmjgadhknliiaaa.Kit3 Go.Proofs.Ytmjgadhknliiaaa.Kit4 Go.Proofs.Ytmjgadhknliiaaa.Kit5 Go.Proofs.Ytmjgadhknliiaaa.Rank Go.Proofs.Ytmjgadhknliiaaa.SoA Go.Proofs.Ytmjgadhknliiaaa.SoD Go.Proofs.Ytmjgadhknliiaaa.SoJ SoPlain
open Go.Proofs.YtmjgadhknliiaaaW.PrintLast
set_option maxRecDepth 100000 in
theorem insertion0_at (w : World) (a : Option Addr) (cap : Nat) (f : Value) : Calls Try.prog 31 #[.slice a 0 cap, .int .i64 0, .int .i64 0, f] w fun r w' => r = .returned (.tuple #[]) ∧ Below w.heap.size w w' := by
  go_enter Try.func31, Try.ntmps31
  go_wp2_with fail
  go_loopw [8] (fun v8 wr => v8 = .int .i64 1 ∧ Side (Below w.heap.size w wr)) (fun v8 _ => 0)
  case atStart => exact ⟨rfl, ⟨(by (repeat (with_reducible first | exact Below.refl _ _ | apply below_drewN | apply below_drew | apply below_alloc)))⟩⟩
  case round =>
    obtain ⟨rfl, HB⟩ := hrel
    go_wp2_with fail
    exact bodyPost_end (results_none rfl _ _ _) rfl ⟨rfl, HB.out⟩
set_option maxRecDepth 100000 in
theorem stable0_at (w : World) (a : Option Addr) (cap : Nat) (f : Value) : Calls Try.prog 29 #[.slice a 0 cap, .int .i64 0, f] w fun r w' => r = .returned (.tuple #[]) ∧ Below w.heap.size w w' := by
  go_enter Try.func29, Try.ntmps29
  go_wp2_with fail
  go_loopw [7, 8] (fun v7 v8 wr => v7 = .int .i64 0 ∧ v8 = .int .i64 20 ∧ Side (Below w.heap.size w wr)) (fun v7 _ _ => 0)
  case atStart => exact ⟨rfl, rfl, ⟨(by (repeat (with_reducible first | exact Below.refl _ _ | apply below_drewN | apply below_drew | apply below_alloc)))⟩⟩
  case round =>
    obtain ⟨rfl, rfl, HB⟩ := hrel
    obtain ⟨wz, hwz⟩ : ∃ wz : World, wz = wr := ⟨_, rfl⟩
    rw [← hwz] at HB ⊢
    clear hwz
    go_wp2_with fail
    refine (insertion0_at _ a cap f).mono ?_
    rintro e w2 ⟨rfl, hb⟩
    have HB2 : Side (Below w.heap.size w w2) := ⟨below_then (below_then HB.out HB.out.size (by (repeat (with_reducible first | exact Below.refl _ _ | apply below_drewN | apply below_drew | apply below_alloc)))) (by have := HB.out.size; first | exact this | (simp; exact this)) hb⟩
    clear HB hb
    go_wp2_with fail
    go_loopw [6] (fun v6 wr => v6 = .int .i64 20 ∧ Side (Below w.heap.size w wr)) (fun v6 _ => 0)
    case atStart => exact ⟨rfl, HB2⟩
    case round =>
      obtain ⟨rfl, HB⟩ := hrel
      go_wp2_with fail
      exact bodyPost_end (results_none rfl _ _ _) rfl ⟨rfl, HB.out⟩
set_option maxRecDepth 100000 in
theorem ssf_at (w : World) (B : Nat) (v : Value) (xs : List R) (h : RRow w B v xs) (hn : xs.length ≤ 300) :
    Calls Try.prog 23 #[v, .func (.func 20) #[] #[]] w fun r w' => r = .returned (.tuple #[]) ∧ ∃ ys, RRow w' B v ys ∧ ys.length = xs.length ∧ Chg w w' (fun k => v.ownBlock = some k) ∧ Stb lt xs.length (at_ xs) (at_ ys) ∧ Srt lt (at_ ys) 0 xs.length := by
  rcases h.read E4 with ⟨rfl, rfl⟩ | ⟨g, cap, rfl, _, _, _, _, _, _⟩
  · go_enter Try.func23, Try.ntmps23
    go_wp2_with fail
    refine (stable0_at _ none 0 _).mono ?_
    rintro e w2 ⟨rfl, hb⟩
    go_wp2_with fail
    exact bodyPost_end (results_none rfl _ _ _) rfl ⟨rfl, [], GRow.nil _ _, rfl, Chg.of_below (below_then (by (repeat (with_reducible first | exact Below.refl _ _ | apply below_drewN | apply below_drew | apply below_alloc))) (Nat.le_refl _) hb), Stb.refl _ _, fun p q h1 h2 h3 => by simp at h3⟩
  · obtain ⟨n, hln⟩ : ∃ n, n = xs.length := ⟨_, rfl⟩
    rw [← hln] at h hn ⊢
    have HM := Side.mk (show M w B g n cap xs from ⟨h, hln.symm, by omega⟩)
    have HL := Side.mk hln
    clear h hln
    go_enter Try.func23, Try.ntmps23
    go_wp2_with fail
    refine (stable_at _ B g n cap xs (HM.out.below (by (repeat (with_reducible first | exact Below.refl _ _ | apply below_drewN | apply below_drew | apply below_alloc)))) hn).mono ?_
    rintro e w2 ⟨rfl, ys, hm, hc, ht, hs⟩
    go_wp2_with fail
    exact bodyPost_end (results_none rfl _ _ _) rfl ⟨rfl, ys, hm.row, hm.len, (Chg.of_below (by (repeat (with_reducible first | exact Below.refl _ _ | apply below_drewN | apply below_drew | apply below_alloc)))).trans hc (fun k _ h => by subst h; rfl), ht, hs⟩
set_option maxRecDepth 100000 in
theorem clone_at (w : World) (B : Nat) (v : Value) (xs : List R) (h : RRow w B v xs) (hn : xs.length ≤ 300) :
    Calls Try.prog 22 #[v] w fun r w' => ∃ v', r = .returned v' ∧ RRow w' w.heap.size v' xs ∧ Below w.heap.size w w' := by
  have hq : ∀ (w : World) (a : Option Addr) (n c n' c' : Nat), (binOp .eql 38 (.slice a n c) (.slice none n' c')).run Try.prog w = .ok (.bool a.isNone) w := fun w a n c n' c' => by cases a <;> rfl
  rcases h.read E4 with ⟨rfl, rfl⟩ | ⟨g, cap, rfl, _, hgl, _, _, _, hr⟩
  · go_enter Try.func22, Try.ntmps22
    go_wp2_with fail
    go_ret
    exact ⟨_, rfl, GRow.nil _ _, (by (repeat (with_reducible first | exact Below.refl _ _ | apply below_drewN | apply below_drew | apply below_alloc)))⟩
  · have HR := Side.mk hr
    clear hr
    go_enter Try.func22, Try.ntmps22
    go_wp2_with (at_builtin; refine wpList_gapp E4 Try.underlying38 infoR rfl (by decide) rfl _ _ rfl w.heap.size (.slice (some ⟨w.heap.size, 0, none⟩) 0 0) [] rfl ?c1 ⟨g, 0, none⟩ cap xs rfl ?c2 ?c3 ?c4 ?c5)
    case c1 => exact ⟨rfl, .inr ⟨w.heap.size, 0, #[], rfl, Nat.le_refl _, heap_alloc_new w _, Nat.le_refl _, Nat.zero_le _, rfl, rfl⟩⟩
    case c2 =>
      intro r y hy q u hu
      rw [show (⟨g, 0, none⟩ : Addr).add (r * 4 + q) = ⟨g, r * 4 + q, none⟩ by simp [Addr.add]; try omega]
      exact ((Below.refl w.heap.size w).alloc (Nat.le_refl _) _ |>.cell (p := ⟨g, r * 4 + q, none⟩) hgl).trans (HR.out r y hy q u hu)
    case c3 => simp; omega
    case c4 => simp
    case c5 =>
      intro v' w3 hrow hgr hat
      have HB : Side (Below w.heap.size w w3) := ⟨⟨hgr.os.trans rfl, hgr.tape.trans rfl, hgr.output.trans rfl, by have := hgr.size; simp at this; omega, fun k hk => (hgr.block k (by simp; omega) (fun e => by simp [Value.ownBlock] at e; omega)).trans (Below.heap_alloc w _ k hk)⟩⟩
      have HRW := Side.mk hrow
      clear hrow hgr hat
      go_wp2_with fail
      go_ret
      exact ⟨_, rfl, HRW.out, HB.out⟩
set_option maxRecDepth 100000 in
theorem sort_at (w : World) (B : Nat) (v : Value) (xs : List R) (h : RRow w B v xs) (hn : xs.length ≤ 300) :
    Calls Try.prog 15 #[v] w fun r w' => ∃ v' ys, r = .returned v' ∧ RRow w' w.heap.size v' ys ∧ ys.length = xs.length ∧ Below w.heap.size w w' ∧ Stb lt xs.length (at_ xs) (at_ ys) ∧ Srt lt (at_ ys) 0 xs.length := by
  have HR := Side.mk h
  clear h
  go_enter Try.func15, Try.ntmps15
  go_wp2_with fail
  refine (clone_at _ B v xs (HR.out.below (by (repeat (with_reducible first | exact Below.refl _ _ | apply below_drewN | apply below_drew | apply below_alloc)))) hn).mono ?_
  rintro e w1 ⟨v1, rfl, hr1, hb1⟩
  obtain ⟨a1, c1, rfl, -, -⟩ := hr1.shape E4
  have HR1 : Side (RRow w1 w.heap.size (.slice a1 xs.length c1) xs) := ⟨hr1⟩
  have HB1 : Side (Below w.heap.size w w1) := ⟨below_then (by (repeat (with_reducible first | exact Below.refl _ _ | apply below_drewN | apply below_drew | apply below_alloc))) (Nat.le_refl _) hb1⟩
  clear hr1 hb1
  go_wp2_with fail
  refine (ssf_at _ w.heap.size (.slice a1 xs.length c1) xs (HR1.out.below (by (repeat (with_reducible first | exact Below.refl _ _ | apply below_drewN | apply below_drew | apply below_alloc)))) hn).mono ?_
  rintro e w2 ⟨rfl, ys, hr2, hl2, hc2, ht2, hs2⟩
  have HR2 := Side.mk hr2
  have HX := Side.mk (show ys.length = xs.length ∧ Stb lt xs.length (at_ xs) (at_ ys) ∧ Srt lt (at_ ys) 0 xs.length from ⟨hl2, ht2, hs2⟩)
  have HB2 : Side (Below w.heap.size w w2) := ⟨HB1.out.trans (((Chg.of_below (by (repeat (with_reducible first | exact Below.refl _ _ | apply below_drewN | apply below_drew | apply below_alloc))) : Chg w1 _ (fun k => (Value.slice a1 xs.length c1).ownBlock = some k)).trans hc2 (fun _ _ h => h)).below HB1.out.size (fun k hk => HR1.out.base k hk))⟩
  clear hr2 hl2 hc2 ht2 hs2 HB1 HR1
  go_wp2_with fail
  go_ret
  exact ⟨_, ys, rfl, HR2.out.below (by (repeat (with_reducible first | exact Below.refl _ _ | apply below_drewN | apply below_drew | apply below_alloc))), HX.out.1, below_then HB2.out HB2.out.size (by (repeat (with_reducible first | exact Below.refl _ _ | apply below_drewN | apply below_drew | apply below_alloc))), HX.out.2.1, HX.out.2.2⟩
end Go.Proofs.Ytmjgadhknliiaaa.SoK

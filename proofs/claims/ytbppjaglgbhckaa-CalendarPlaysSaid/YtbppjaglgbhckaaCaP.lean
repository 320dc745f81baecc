/- Package calendar: Len, Next, Drop, Due. No condition. -/
import Derived.Test.YtbppjaglgbhckaaCaO
set_option linter.unusedVariables false
set_option linter.unusedSimpArgs false
namespace Go.Proofs.Ytbppjaglgbhckaa.CaP
open Go.RowKit Go.Proofs.Ytbppjaglgbhckaa.Kit Go.Proofs.Ytbppjaglgbhckaa.Kit4 Go.Proofs.Ytbppjaglgbhckaa.CaA Go.Proofs.Ytbppjaglgbhckaa.CaB Go.Proofs.Ytbppjaglgbhckaa.CaC Go.Proofs.Ytbppjaglgbhckaa.CaD Go.Proofs.Ytbppjaglgbhckaa.CaF Go.Proofs.Ytbppjaglgbhckaa.CaG Go.Proofs.Ytbppjaglgbhckaa.CaH Go.Proofs.Ytbppjaglgbhckaa.CaI Go.Proofs.Ytbppjaglgbhckaa.CaJ Go.Proofs.Ytbppjaglgbhckaa.CaK Go.Proofs.Ytbppjaglgbhckaa.CaL Go.Proofs.Ytbppjaglgbhckaa.CaM Go.Proofs.Ytbppjaglgbhckaa.CaN Go.Proofs.Ytbppjaglgbhckaa.CaO
open Go.Proofs.YtbppjaglgbhckaaW.PrintLast
theorem Row.shape {w : World} {B : Nat} {t : TypeId} {v : Value} {xs : List It} (h : Row w B t v xs) : ∃ a c, v = .slice a xs.length c := by
  rcases h.read with ⟨rfl, rfl⟩ | ⟨g, cap, rfl, _⟩
  · exact ⟨none, 0, rfl⟩
  · exact ⟨_, cap, rfl⟩
set_option maxHeartbeats 1000000 in
set_option maxRecDepth 100000 in
theorem Len_at (w : World) (B gq : Nat) (v : Value) (xs : List It) (h : Q w B gq v xs) :
    Calls Try.prog 11 #[.pointer (some ⟨gq, 0, none⟩)] w fun r w' => r = .returned (.int .i64 xs.length) ∧ Below w.heap.size w w' := by
  obtain ⟨a, c, rfl⟩ := Row.shape h.row
  have b0 := h.cell
  clear h
  go_enter Try.func11, Try.ntmps11
  go_wp2
  go_ret
  exact ⟨rfl, by (repeat (with_reducible first | exact Below.refl _ _ | apply below_drewN | apply below_drew | apply below_alloc))⟩
def nextT : List It → Int
  | [] => 0
  | x :: _ => x.1
set_option maxHeartbeats 1000000 in
set_option maxRecDepth 100000 in
theorem Next_at (w : World) (B gq : Nat) (v : Value) (xs : List It) (h : Q w B gq v xs) (hl : xs.length ≤ 1000) :
    Calls Try.prog 13 #[.pointer (some ⟨gq, 0, none⟩)] w fun r w' => r = .returned (.tuple #[.int .i64 (nextT xs), .bool (decide (0 < xs.length))]) ∧ Below w.heap.size w w' := by
  have b0 := h.cell
  rcases xs with _ | ⟨x, r⟩
  · obtain ⟨a, c, rfl⟩ := Row.shape h.row
    clear h
    go_enter Try.func13, Try.ntmps13
    go_wp2
    go_ret2
    exact ⟨rfl, by (repeat (with_reducible first | exact Below.refl _ _ | apply below_drewN | apply below_drew | apply below_alloc))⟩
  · rcases h.row.read with ⟨_, h0⟩ | ⟨g, cap, rfl, _, _, hn, _, hr⟩
    · simp at h0
    obtain ⟨r0, -⟩ := hr 0 x rfl
    obtain ⟨n, hn'⟩ : ∃ n, n = (x :: r).length := ⟨_, rfl⟩
    have h1 : (0 : Int) < n := by rw [hn', List.length_cons]; omega
    have h2 : ¬ ((n : Int) = 0) := by omega
    have h3 : 0 < (x :: r).length := by simp
    rw [← hn'] at b0 hn h3 ⊢
    clear h hr hn'
    have r0 : w.cell? ⟨g, 0, none⟩ = some (.int .i64 x.1) := by simpa using r0
    have hd : decide (0 < n) = true := decide_eq_true h3
    rw [hd]
    clear hd h3 hl hn
    go_enter Try.func13, Try.ntmps13
    go_wp2
    go_ret2
    exact ⟨rfl, by (repeat (with_reducible first | exact Below.refl _ _ | apply below_drewN | apply below_drew | apply below_alloc))⟩
/-- The row replaced in its block, the box written. -/
theorem got_of {W W1 w2 : World} {B gq : Nat} {v vc : Value} {xs ys : List It} (h : Q W B gq v xs) (hb : Below W.heap.size W W1) (hr : Row w2 B 44 vc ys) (hc : Chg W1 w2 (fun k => some k = v.ownBlock)) (ho : vc.ownBlock = v.ownBlock) :
    w2.heap[gq]? = some (.cells #[v] 42 (0, 0)) ∧ Got W (w2.setCell ⟨gq, 0, none⟩ vc) B gq v ys := by
  have hbx : w2.heap[gq]? = some (.cells #[v] 42 (0, 0)) := (hc.block gq (Nat.lt_of_lt_of_le h.lt hb.size) (fun e => Q.ne h e.symm)).trans ((hb.block gq h.lt).trans h.box)
  refine ⟨hbx, vc, ⟨?_, Row.move hr (fun k hk => ?_), h.base⟩, ?_, .inl ho⟩
  · rw [blk_set hbx 0 vc]
    simp
  · exact Below.heap_setCell w2 _ vc k (fun e => Q.ne h (by rw [← ho, hk, e]))
  · have h1 : Chg W W1 (fun k => k = gq ∨ some k = v.ownBlock) := Chg.of_below hb
    have h2 := h1.trans hc (fun k _ e => .inr e)
    have hX := chg_set w2 gq 0 [vc]
    rw [World.setCells, World.setCells] at hX
    exact h2.trans hX (fun k _ e => .inl e)
set_option maxHeartbeats 1000000 in
set_option maxRecDepth 100000 in
theorem Drop_at (w : World) (B gq : Nat) (v : Value) (xs : List It) (h : Q w B gq v xs) (hB : B ≤ w.heap.size) (hl : xs.length ≤ 1000) (id : Int) :
    Calls Try.prog 12 #[.pointer (some ⟨gq, 0, none⟩), .int .i64 id] w fun r w' => r = .returned (.int .i64 ((xs.length : Int) - (left id xs).length)) ∧ Got w w' B gq v (left id xs) := by
  have hb1 : Below w.heap.size w (w.alloc (.cells #[.int .i64 id] 3)) := (Below.refl _ _).alloc (Nat.le_refl _) _
  have CD := Side.mk (Delete_at (w.alloc (.cells #[.int .i64 id] 3)) B v xs w.heap.size id (heap_alloc_new w _) (Row.below h.row hb1) hl)
  have HB1 := Side.mk hb1
  have HQ := Side.mk h
  have hll : (left id xs).length ≤ xs.length := List.length_filter_le _ _
  have hl1 : (xs.length : Int) ≤ 1000 := by omega
  obtain ⟨n, hn⟩ : ∃ n, n = xs.length := ⟨_, rfl⟩
  have hl2 : ((left id xs).length : Int) ≤ n := by omega
  have hl3 : (n : Int) ≤ 1000 := by omega
  obtain ⟨a, c, hv⟩ := Row.shape h.row
  rw [← hn] at hv ⊢
  have b0 := h.cell
  have hlt := h.lt
  subst hv
  clear h hB hl hb1 hll hl1 hn
  go_enter Try.func12, Try.ntmps12
  go_wp2_with fail
  refine CD.out.mono ?_
  rintro e w2 ⟨v', rfl, hr, hc, ho⟩
  obtain ⟨hbx, hg⟩ := got_of HQ.out HB1.out hr hc ho
  obtain ⟨a', c', rfl⟩ := Row.shape hr
  have HG := Side.mk hg
  have k0 : w2.cell? ⟨gq, 0, none⟩ = some (.slice a n c) := cell_of_row w2 gq 0 _ _ (0, 0) hbx
  have f0 : w2.frozen? ⟨gq, 0, none⟩ = false := Go.Proofs.YtbppjaglgbhckaaW.PrintWords.blk_frozen hbx 0
  clear hr hc ho hbx hg CD HB1
  go_wp2
  go_ret
  exact ⟨rfl, HG.out⟩
end Go.Proofs.Ytbppjaglgbhckaa.CaP

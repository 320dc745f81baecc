/- Package calendar, second text: slices.IndexFunc over the package's closures, slices.ContainsFunc. No condition. -/
import Derived.Test.YtbppjaglgbhckaaCaA
set_option linter.unusedVariables false
set_option linter.unusedSimpArgs false
namespace Go.Proofs.Ytbppjaglgbhckaa.CaB
open Go.RowKit Go.Proofs.Ytbppjaglgbhckaa.Kit Go.Proofs.Ytbppjaglgbhckaa.CaA
/-- The first place of which p holds; -1. -/
def idx (p : It → Bool) : List It → Int
  | [] => -1
  | x :: r => if p x = true then 0 else if idx p r = -1 then -1 else idx p r + 1
theorem idx_ge (p : It → Bool) : ∀ xs, -1 ≤ idx p xs
  | [] => by simp [idx]
  | x :: r => by have := idx_ge p r; unfold idx; split <;> (try split) <;> omega
theorem idx_none (p : It → Bool) : ∀ xs : List It, (∀ (j : Nat) (x : It), xs[j]? = some x → p x = false) → idx p xs = -1
  | [], _ => rfl
  | x :: r, h => by
    unfold idx
    rw [if_neg (by rw [h 0 x rfl]; decide), if_pos (idx_none p r (fun j y hy => h (j + 1) y (by simpa using hy)))]
theorem idx_some (p : It → Bool) : ∀ (xs : List It) (k : Nat) (y : It), xs[k]? = some y → p y = true → (∀ (j : Nat) (x : It), j < k → xs[j]? = some x → p x = false) → idx p xs = k
  | [], k, y, h, _, _ => by simp at h
  | x :: r, 0, y, h, hp, _ => by
    simp at h
    subst h
    unfold idx
    rw [if_pos hp]; rfl
  | x :: r, k + 1, y, h, hp, hn => by
    have h1 := idx_some p r k y (by simpa using h) hp (fun j z hj hz => hn (j + 1) z (by omega) (by simpa using hz))
    unfold idx
    rw [if_neg (by rw [hn 0 x (by omega) rfl]; decide), h1, if_neg (by omega)]
    simp
set_option maxHeartbeats 4000000 in
set_option maxRecDepth 100000 in
theorem IndexId_at (w : World) (B : Nat) (t : TypeId) (v : Value) (xs : List It) (h : Row w B t v xs) (gi : Nat) (id : Int) (hi : w.cell? ⟨gi, 0, none⟩ = some (.int .i64 id)) (hgi : gi < w.heap.size) :
    Calls Try.prog 24 #[v, .func (.func 19) #[] #[.pointer (some ⟨gi, 0, none⟩)]] w fun r w' => r = .returned (.int .i64 (idx (fun x => x.2 == id) xs)) ∧ Below w.heap.size w w' := by
  have CL : ∀ x y w', Below w.heap.size w w' → Side (Calls Try.prog 19 #[.agg #[.int .i64 x, .int .i64 y], .pointer (some ⟨gi, 0, none⟩)] w' fun r w'' => r = .returned (.bool (y == id)) ∧ Below w'.heap.size w' w'') := fun x y w' hb => ⟨isId_at x y id gi w' ((hb.cell (p := ⟨gi, 0, none⟩) hgi).trans hi) (Nat.lt_of_lt_of_le hgi hb.size)⟩
  have hmax : xs.length ≤ 9223372036854775807 := by
    rcases h.read with ⟨_, rfl⟩ | ⟨g, cap, _, _, _, hn, hm, _⟩
    · simp
    · simp only [maxLen] at hm; omega
  rcases h.read with ⟨rfl, rfl⟩ | ⟨g, cap, rfl, hB, hg, hn, hm, hr⟩
  · go_enter Try.func24, Try.ntmps24
    go_wp2_with fail
    go_loopw [8] (fun v8 wr => v8 = .int .i64 0 ∧ Side (Below w.heap.size w wr)) (fun v8 _ => 0)
    case atStart => exact ⟨rfl, ⟨by (repeat (with_reducible first | exact Below.refl _ _ | apply below_drewN | apply below_drew))⟩⟩
    case round =>
      obtain ⟨rfl, HB⟩ := hrel
      go_wp2
      go_ret
      exact ⟨by simp [idx], by (repeat (with_reducible first | exact HB.out | apply below_drewN | apply below_drew))⟩
  · have HR := Side.mk hr
    clear hr h
    have HM := Side.mk hmax
    clear hmax hB hn hm
    go_enter Try.func24, Try.ntmps24
    go_wp2_with fail
    go_loopw [8] (fun v8 wr => ∃ k : Nat, v8 = .int .i64 (k : Int) ∧ Side (k ≤ xs.length) ∧ Side (∀ j x, j < k → xs[j]? = some x → (fun x => x.2 == id) x = false) ∧ Side (Below w.heap.size w wr)) (fun v8 _ => (xs.length - intOf v8).toNat)
    case atStart => exact ⟨0, rfl, ⟨by omega⟩, ⟨fun j x hj => by omega⟩, ⟨by (repeat (with_reducible first | exact Below.refl _ _ | apply below_drewN | apply below_drew))⟩⟩
    case round =>
      obtain ⟨k, rfl, HK, HN, HB⟩ := hrel
      by_cases hk : k < xs.length
      · obtain ⟨x, hx⟩ : ∃ x, xs[k]? = some x := ⟨xs[k], List.getElem?_eq_getElem hk⟩
        have r0 : wr.cell? ⟨g, k * 2, none⟩ = some (.int .i64 x.1) := (HB.out.cell (p := ⟨g, k * 2, none⟩) hg).trans (HR.out k x hx).1
        have r1 : wr.cell? ⟨g, k * 2 + 1, none⟩ = some (.int .i64 x.2) := (HB.out.cell (p := ⟨g, k * 2 + 1, none⟩) hg).trans (HR.out k x hx).2
        have hkn : (k : Int) < xs.length := by omega
        have hb1 : (k : Int) + 1 ≤ 9223372036854775807 := by have := HM.out; omega
        have CX := CL x.1 x.2
        have HX := Side.mk hx
        clear hx CL
        cases hp : (fun x => x.2 == id) x
        · have hp' : (x.2 == id) = false := hp
          rw [hp'] at CX
          go_wp2_with fail
          refine (CX _ (by (repeat (with_reducible first | exact HB.out | apply below_drewN | apply below_drew)))).out.mono ?_
          rintro e w2 ⟨rfl, hb⟩
          have HB2 : Side (Below w.heap.size w w2) := ⟨below_then (by (repeat (with_reducible first | exact HB.out | apply below_drewN | apply below_drew))) (by have := HB.out.size; simpa using this) hb⟩
          clear hb
          go_wp2
          go_roundw
          case rel =>
            refine ⟨k + 1, by simp, ⟨by omega⟩, ⟨fun j y hj hy => ?_⟩, HB2⟩
            by_cases he : j = k
            · subst he
              rw [HX.out] at hy
              cases hy
              exact hp
            · exact HN.out j y (by omega) hy
          case measure => simp [intOf]; omega
        · have hp' : (x.2 == id) = true := hp
          rw [hp'] at CX
          have HI := Side.mk (idx_some (fun x => x.2 == id) xs k x HX.out hp HN.out)
          go_wp2_with fail
          refine (CX _ (by (repeat (with_reducible first | exact HB.out | apply below_drewN | apply below_drew)))).out.mono ?_
          rintro e w2 ⟨rfl, hb⟩
          have HB2 : Side (Below w.heap.size w w2) := ⟨below_then (by (repeat (with_reducible first | exact HB.out | apply below_drewN | apply below_drew))) (by have := HB.out.size; simpa using this) hb⟩
          clear hb
          go_wp2
          go_ret
          exact ⟨ret_int HI.out.symm, HB2.out⟩
      · have hkn : ¬ (k : Int) < xs.length := by omega
        have HI := Side.mk (idx_none (fun x => x.2 == id) xs (fun j x hj => HN.out j x (by have := (List.getElem?_eq_some_iff.1 hj).1; omega) hj))
        go_wp2
        go_ret
        exact ⟨ret_int HI.out.symm, by (repeat (with_reducible first | exact HB.out | apply below_drewN | apply below_drew))⟩
end Go.Proofs.Ytbppjaglgbhckaa.CaB

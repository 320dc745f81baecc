/- The law evenhandedlaw1.WholeSums: any two numbers, their sum and product, and how any two products compare: a walk of the law's own code. No condition. -/
import Derived.Test.YtlljmbocnchdaaaOwnRefB
import Derived.Outline
set_option linter.unusedVariables false
set_option linter.unusedSimpArgs false
namespace Go.Proofs.Ytlljmbocnchdaaa.OwnSums
open Go.RowKit Go.Proofs.Ytlljmbocnchdaaa.PWholeLaws Go.Proofs.YtlljmbocnchdaaaW.PrintWords Go.Proofs.YtlljmbocnchdaaaW.PrintLast Go.Proofs.YtlljmbocnchdaaaW.PrintMore WhPlain Go.Proofs.Ytlljmbocnchdaaa.OwnRef
set_option maxHeartbeats 4000000 in
set_option maxRecDepth 100000 in
theorem core (a b c d s m : Int) (es em : Int) (bs bm : Bool) (x : Int) (w : World) (HA : Aside0 (evenhandedlaw1_awake.f 30 = some true)) (H1 : Aside0 (whole_Add.f a b = some (s, es)))
    (H2 : ∀ w, Aside0 (Calls Try.prog 15 #[.int .i64 a, .int .i64 b] w fun e w' => e = .returned (.tuple #[.int .i64 s, .bool bs]) ∧ Drawn0 w w'))
    (H3 : Aside0 (whole_Mul.f 1 a b = some (m, em)))
    (H4 : ∀ w, Aside0 (Calls Try.prog 17 #[.int .i64 a, .int .i64 b] w fun e w' => e = .returned (.tuple #[.int .i64 m, .bool bm]) ∧ Drawn0 w w'))
    (H5 : Aside0 (whole_Cross.f 4 a b c d = some x)) (H6 : ∀ w, Aside0 (Calls Try.prog 18 #[.int .i64 a, .int .i64 b, .int .i64 c, .int .i64 d] w fun e w' => e = .returned (.int .i64 x) ∧ Below w.heap.size w w'))
    (H7 : Aside0 (whole_Cross.f 4 a b a b = some 0)) (H8 : Aside0 (whole_Cross.f 4 a b b a = some 0))
    (hs : (bs = true ∧ es = 0) ∨ (bs = false ∧ es = 14)) (hm : (bm = true ∧ em = 0) ∨ (bm = false ∧ em = 14)) :
    Calls Try.prog 5 #[.int .i64 a, .int .i64 b, .agg #[.int .i64 c, .int .i64 d]] w fun e w' => e = .returned (.bool true) ∧ Below w.heap.size w w' := by
  rcases hs with ⟨rfl, rfl⟩ | ⟨rfl, rfl⟩ <;> rcases hm with ⟨rfl, rfl⟩ | ⟨rfl, rfl⟩
  all_goals
   go_enter Try.func5, Try.ntmps5
   go_wp2_with fail
   refine (evenhandedlaw1_awake.calls 30 true _ HA.out).mono ?_
   rintro e w1 ⟨rfl, hb1⟩
   have k0 : w1.cell? ⟨w.heap.size, 0, none⟩ = some (.int .i64 c) := (hb1.cell (p := ⟨w.heap.size, 0, none⟩) (by simp)).trans (by go_simp)
   have k1 : w1.cell? ⟨w.heap.size, 1, none⟩ = some (.int .i64 d) := (hb1.cell (p := ⟨w.heap.size, 1, none⟩) (by simp)).trans (by go_simp)
   have kb : Below w.heap.size w w1 := ((Below.refl _ _).alloc (Nat.le_refl _) _).trans (hb1.mono (by simp))
   have kz : w.heap.size < w1.heap.size := by have := hb1.size; simp at this; omega
   clear hb1
   go_wp2_with (first
     | (go_at_call 14; (with_reducible refine (whole_Add.calls a b _ _ _ H1.out).mono ?_); rintro e w2 ⟨rfl, ⟨n2, rfl⟩⟩)
     | (go_at_call 15; (with_reducible refine (H2 _).out.mono ?_); rintro e w3 ⟨rfl, ⟨n3, rfl⟩⟩)
     | (go_at_call 16; (with_reducible refine (whole_Mul.calls 1 a b _ _ _ H3.out).mono ?_); rintro e w4 ⟨rfl, ⟨n4, rfl⟩⟩)
     | (go_at_call 17; (with_reducible refine (H4 _).out.mono ?_); rintro e w5 ⟨rfl, ⟨n5, rfl⟩⟩))
   go_region_held3 (fun w' => w'.cell? ⟨w.heap.size, 0, none⟩ = some (.int .i64 c) ∧ w'.cell? ⟨w.heap.size, 1, none⟩ = some (.int .i64 d) ∧ Below w.heap.size w w' ∧ w.heap.size < w'.heap.size)
    (first
      | exact ⟨k0, k1, (pw_below_drewN kb _).drew, kz⟩
      | go_keep
      | (go_split_ands
         refine ⟨?_, ?_, ?_, ?_⟩
         · (rw [hbc.cell (p := ⟨w.heap.size, 0, none⟩) (by assumption)]; assumption)
         · (rw [hbc.cell (p := ⟨w.heap.size, 1, none⟩) (by assumption)]; assumption)
         · (refine Below.trans (by assumption) (hbc.mono (by first | omega | (show w.heap.size ≤ w1.heap.size; omega))))
         · (have hq := hbc.size; first | omega | (have hq2 : w1.heap.size ≤ wc.heap.size := hq; omega))))
    (first
      | (go_at_call 18; (with_reducible refine (H6 _).out.mono ?_); rintro e wc ⟨rfl, hbc⟩)
      | (go_at_call 13; (with_reducible refine (whole_Cross.calls 4 a b c d _ _ H5.out).mono ?_); rintro e wc ⟨rfl, hbc⟩)
      | (go_at_call 13; (with_reducible refine (whole_Cross.calls 4 a b a b _ _ H7.out).mono ?_); rintro e wc ⟨rfl, hbc⟩)
      | (go_at_call 13; (with_reducible refine (whole_Cross.calls 4 a b b a _ _ H8.out).mono ?_); rintro e wc ⟨rfl, hbc⟩))
   all_goals
     obtain ⟨q0, q1, qb, qz⟩ := ‹_ ∧ _ ∧ Below w.heap.size w _ ∧ w.heap.size < _›
     go_wp2
     go_ret
     exact ⟨rfl, qb⟩
theorem walk (a b c d : Int) (w : World) (w0 : (Lit.int .i64 a).wf = true) (w1 : (Lit.int .i64 b).wf = true) (w2 : (Lit.int .i64 c).wf = true) (w3 : (Lit.int .i64 d).wf = true) :
    Calls Try.prog 5 #[.int .i64 a, .int .i64 b, .agg #[.int .i64 c, .int .i64 d]] w fun e w' => e = .returned (.bool true) ∧ Below w.heap.size w w' := by
  have ha : I a := is64 w0; have hb : I b := is64 w1; have hc : I c := is64 w2; have hd : I d := is64 w3
  have two : ∀ x : Int, (decide ((fit x).2 = 0) = true ∧ (fit x).2 = 0) ∨ (decide ((fit x).2 = 0) = false ∧ (fit x).2 = 14) := fun x => by
    rcases (fit_two x).1 with h | h
    · exact .inl ⟨decide_eq_true h, h⟩
    · exact .inr ⟨decide_eq_false (by omega), h⟩
  exact core a b c d _ _ _ _ _ _ _ w ⟨awake_yes 30 (by omega)⟩ ⟨Add_at ha hb⟩ (fun w => ⟨refAdd_at ha hb w⟩) ⟨Mul_at ha hb 0⟩ (fun w => ⟨refMul_at ha hb w⟩) ⟨Cross_at ha hb hc hd 0⟩ (fun w => ⟨refCross_at ha hb hc hd w⟩)
    ⟨by rw [Cross_at ha hb ha hb 0, cmp3_eq rfl]⟩ ⟨by rw [Cross_at ha hb hb ha 0, cmp3_eq (Int.mul_comm a b)]⟩ (two _) (two _)
end Go.Proofs.Ytlljmbocnchdaaa.OwnSums

/- Package calendar: two calendars; many put one behind another. No condition. -/
import Derived.Test.YtbppjaglgbhckaaCaR
import Derived.Test.YtbppjaglgbhckaaKit2
set_option linter.unusedVariables false
set_option linter.unusedSimpArgs false
namespace Go.Proofs.Ytbppjaglgbhckaa.CaT
open Go.RowKit Go.Proofs.Ytbppjaglgbhckaa.Kit Go.Proofs.Ytbppjaglgbhckaa.Kit2 Go.Proofs.Ytbppjaglgbhckaa.Kit4 Go.Proofs.Ytbppjaglgbhckaa.CaA Go.Proofs.Ytbppjaglgbhckaa.CaB Go.Proofs.Ytbppjaglgbhckaa.CaC Go.Proofs.Ytbppjaglgbhckaa.CaD Go.Proofs.Ytbppjaglgbhckaa.CaF Go.Proofs.Ytbppjaglgbhckaa.CaG Go.Proofs.Ytbppjaglgbhckaa.CaH Go.Proofs.Ytbppjaglgbhckaa.CaI Go.Proofs.Ytbppjaglgbhckaa.CaJ Go.Proofs.Ytbppjaglgbhckaa.CaK Go.Proofs.Ytbppjaglgbhckaa.CaL Go.Proofs.Ytbppjaglgbhckaa.CaM Go.Proofs.Ytbppjaglgbhckaa.CaN Go.Proofs.Ytbppjaglgbhckaa.CaO Go.Proofs.Ytbppjaglgbhckaa.CaP Go.Proofs.Ytbppjaglgbhckaa.CaQ Go.Proofs.Ytbppjaglgbhckaa.CaR
/-- Two calendars, apart. -/
structure Two (W w : World) (ga gb : Nat) (A B : List It) : Prop where
  below : Below W.heap.size W w
  sa : Srt A
  sb : Srt B
  h : ∃ va vb, Q w W.heap.size ga va A ∧ Q w W.heap.size gb vb B ∧ ga ≠ gb ∧ ∀ k, va.ownBlock = some k → vb.ownBlock ≠ some k
theorem Two.swap {W w : World} {ga gb : Nat} {A B : List It} (h : Two W w ga gb A B) : Two W w gb ga B A := by
  obtain ⟨va, vb, h1, h2, h3, h4⟩ := h.h
  exact ⟨h.below, h.sb, h.sa, vb, va, h2, h1, h3.symm, fun k hk e => h4 k e hk⟩
theorem Two.below' {W w w' : World} {ga gb : Nat} {A B : List It} (h : Two W w ga gb A B) (hb : Below w.heap.size w w') : Two W w' ga gb A B := by
  obtain ⟨va, vb, h1, h2, h3, h4⟩ := h.h
  exact ⟨h.below.trans (hb.mono h.below.size), h.sa, h.sb, va, vb, h1.below hb, h2.below hb, h3, h4⟩
abbrev F0 : Nat → Prop := fun _ => False
theorem Two.got {W w w' : World} {ga gb : Nat} {A A' B : List It} {va vb : Value} (hb : Below W.heap.size W w) (sb : Srt B) (h1 : Q w W.heap.size ga va A) (h2 : Q w W.heap.size gb vb B) (h3 : ga ≠ gb) (h4 : ∀ k, va.ownBlock = some k → vb.ownBlock ≠ some k) (hs : Srt A') (g : Got w w' W.heap.size ga va A') : Two W w' ga gb A' B ∧ Fr F0 w w' := by
  have hst := Got.st (X := F0) hb (fun _ h => h.elim) h1 id (fun _ _ h => h.elim) hs g
  obtain ⟨va', hq, hc, ho⟩ := g
  refine ⟨⟨hst.1.below, hs, sb, va', vb, hq, ⟨(hc.block gb h2.lt ?_).trans h2.box, Row.move h2.row (fun k hk => hc.block k (Row.lt h2.row k hk) ?_), h2.base⟩, h3, fun k hk e => ?_⟩, hst.2⟩
  · rintro (e | e)
    · exact h3 e.symm
    · exact Row.ne h1.row h2.box (by decide) e.symm
  · rintro (rfl | e)
    · exact Row.ne h2.row h1.box (by decide) hk
    · exact h4 k e.symm hk
  · rcases ho with ho | ho
    · exact h4 k (by rw [← ho]; exact hk) e
    · have := ho k hk
      have := Row.lt h2.row k e
      omega
theorem Two.start {W w : World} (hb : Below W.heap.size W w) : Two W ((w.alloc (.cells #[.slice none 0 0] 42)).alloc (.cells #[.slice none 0 0] 42)) w.heap.size (w.heap.size + 1) [] [] := by
  have hb1 : Below W.heap.size W (w.alloc (.cells #[.slice none 0 0] 42)) := hb.alloc hb.size _
  have h1 : Q (w.alloc (.cells #[.slice none 0 0] 42)) W.heap.size w.heap.size (.slice none 0 0) [] := ⟨heap_alloc_new w _, ⟨rfl, .inl ⟨rfl, rfl⟩⟩, hb.size⟩
  have h2 : Q ((w.alloc (.cells #[.slice none 0 0] 42)).alloc (.cells #[.slice none 0 0] 42)) W.heap.size (w.heap.size + 1) (.slice none 0 0) [] := ⟨by
    have := heap_alloc_new (w.alloc (.cells #[.slice none 0 0] 42)) (.cells #[.slice none 0 0] 42)
    simpa using this, ⟨rfl, .inl ⟨rfl, rfl⟩⟩, by have := hb.size; omega⟩
  exact ⟨hb1.alloc (by have := hb.size; simp; omega) _, srt_nil, srt_nil, _, _, h1.below ((Below.refl _ _).alloc (Nat.le_refl _) _), h2, by omega, fun k hk => by simp [Value.ownBlock] at hk⟩
theorem Put_two {W w : World} {ga gb : Nat} {A B : List It} (h : Two W w ga gb A B) (hl : A.length ≤ 900) (t id : Int) :
    Calls Try.prog 9 #[.pointer (some ⟨ga, 0, none⟩), .int .i64 t, .int .i64 id] w fun r w' => r = .returned (.tuple #[]) ∧ Two W w' ga gb (putL A (t, id)) B ∧ Fr F0 w w' := by
  obtain ⟨va, vb, h1, h2, h3, h4⟩ := h.h
  refine (Put_at w W.heap.size ga va A h1 h.below.size h.sa hl t id).mono ?_
  rintro r w' ⟨rfl, g⟩
  exact ⟨rfl, Two.got h.below h.sb h1 h2 h3 h4 (putL_srt h.sa _) g⟩
theorem Drop_two {W w : World} {ga gb : Nat} {A B : List It} (h : Two W w ga gb A B) (hl : A.length ≤ 1000) (id : Int) (ys : List It) (hm : left id A = ys) (n : Int) (hn : (A.length : Int) - ys.length = n) :
    Calls Try.prog 12 #[.pointer (some ⟨ga, 0, none⟩), .int .i64 id] w fun r w' => r = .returned (.int .i64 n) ∧ Two W w' ga gb ys B ∧ Fr F0 w w' := by
  subst hm hn
  obtain ⟨va, vb, h1, h2, h3, h4⟩ := h.h
  refine (Drop_at w W.heap.size ga va A h1 h.below.size hl id).mono ?_
  rintro r w' ⟨rfl, g⟩
  exact ⟨rfl, Two.got h.below h.sb h1 h2 h3 h4 (srt_sub h.sa List.filter_sublist) g⟩
theorem Due_two {W w : World} {ga gb : Nat} {A B : List It} (h : Two W w ga gb A B) (hl : A.length ≤ 1000) (t : Int) (k : Nat) (hk : CaQ.due t A = k) :
    Calls Try.prog 10 #[.pointer (some ⟨ga, 0, none⟩), .int .i64 t] w fun r w' => ∃ vo, r = .returned vo ∧ IRow w' w.heap.size vo (ids (A.take k)) ∧ Two W w' ga gb (A.drop k) B ∧ Fr F0 w w' := by
  subst hk
  obtain ⟨va, vb, h1, h2, h3, h4⟩ := h.h
  refine (Due_at w W.heap.size ga va A h1 h.below.size hl t).mono ?_
  rintro r w' ⟨vo, rfl, hi, g⟩
  exact ⟨vo, rfl, hi, Two.got h.below h.sb h1 h2 h3 h4 (srt_sub h.sa (List.drop_sublist _ _)) g⟩
theorem Len_two {W w : World} {ga gb : Nat} {A B : List It} (h : Two W w ga gb A B) (n : Nat) (hn : A.length = n) :
    Calls Try.prog 11 #[.pointer (some ⟨ga, 0, none⟩)] w fun r w' => r = .returned (.int .i64 n) ∧ Below w.heap.size w w' := by
  subst hn
  obtain ⟨va, vb, h1, h2, h3, h4⟩ := h.h
  exact Len_at w W.heap.size ga va A h1
/-! ### many put -/
def puts (f : Nat → It) : Nat → List It
  | 0 => []
  | i + 1 => putL (puts f i) (f i)
def putsN (f : Nat → It) (id : Int) : Nat → List It
  | 0 => []
  | i + 1 => if (f i).2 = id then putsN f id i else putL (putsN f id i) (f i)
theorem puts_len (f : Nat → It) : ∀ i, (puts f i).length = i
  | 0 => rfl
  | i + 1 => by unfold puts; rw [putL_len, puts_len f i]
theorem putsN_le (f : Nat → It) (id : Int) : ∀ i, (putsN f id i).length ≤ i
  | 0 => Nat.le_refl _
  | i + 1 => by have := putsN_le f id i; unfold putsN; split <;> (try rw [putL_len]) <;> omega
theorem puts_mem (f : Nat → It) : ∀ (i : Nat) (y : It), y ∈ puts f i → ∃ j, j < i ∧ y = f j
  | 0, y, h => by cases h
  | i + 1, y, h => by
    unfold puts at h
    rcases (putL_mem _ _ _).1 h with e | e
    · exact ⟨i, by omega, e⟩
    · obtain ⟨j, hj, e⟩ := puts_mem f i y e
      exact ⟨j, by omega, e⟩
theorem srt_split {xs : List It} (h : Srt xs) (x : It) : xs.filter (fun y => dlt y x) ++ xs.filter (fun y => !dlt y x) = xs := by
  have hb := Lb_of h x
  rw [← (CaM.Lb.eq hb).1, ← (CaM.Lb.eq hb).2, List.take_append_drop]
theorem puts_srt (f : Nat → It) : ∀ i, Srt (puts f i)
  | 0 => srt_nil
  | i + 1 => by unfold puts; exact putL_srt (puts_srt f i) _
theorem left_put (id : Int) (xs : List It) (hs : Srt xs) (x : It) : left id (putL xs x) = if x.2 = id then left id xs else putL (left id xs) x := by
  have hc : ∀ p : It → Bool, left id (xs.filter p) = (left id xs).filter p := fun p => by
    unfold left
    rw [List.filter_filter, List.filter_filter]
    congr 1
    funext y
    exact Bool.and_comm _ _
  have happ : ∀ a b : List It, left id (a ++ b) = left id a ++ left id b := fun a b => by unfold left; rw [List.filter_append]
  have hcons : ∀ (b : List It), left id (x :: b) = if x.2 = id then left id b else x :: left id b := fun b => by
    unfold left
    rw [List.filter_cons]
    by_cases h : x.2 = id
    · rw [if_pos h, if_neg (by simp [dn, h])]
    · rw [if_neg h, if_pos (by simp [dn, h])]
  unfold putL
  rw [happ, hcons, hc, hc]
  split
  · exact srt_split (srt_sub hs List.filter_sublist) x
  · rfl
theorem left_puts (f : Nat → It) (id : Int) : ∀ i, left id (puts f i) = putsN f id i
  | 0 => rfl
  | i + 1 => by
    unfold puts putsN
    rw [left_put _ _ (puts_srt f i), left_puts f id i]
theorem left_left (id : Int) (xs : List It) : left id (left id xs) = left id xs := by
  unfold left
  rw [List.filter_filter]
  congr 1
  funext y
  exact Bool.and_self _
theorem due_all (t : Int) (xs : List It) (h : ∀ x ∈ xs, x.1 ≤ t) : CaQ.due t xs = xs.length := by
  induction xs with
  | nil => rfl
  | cons x r ih =>
    unfold CaQ.due
    rw [if_pos (h x (by simp)), ih (fun y hy => h y (by simp [hy]))]
    rfl
/-- The pairs that came in. -/
def pr (V : Nat → Nat → Value) (i : Nat) : It := (intOf (V i 0), intOf (V i 1))
abbrev UK : List CK := [.i .u8, .i .u8]
theorem row_pr {W w : World} {a : Option Addr} {len : Nat} {V : Nat → Nat → Value} (h : InRow UK W a len V) (hb : Below W.heap.size W w) (i : Nat) (hi : i < len) :
    ∃ g off, a = some ⟨g, off, none⟩ ∧ g < w.heap.size ∧ w.cell? ⟨g, off + i * 2, none⟩ = some (.int .u8 (pr V i).1) ∧ w.cell? ⟨g, off + i * 2 + 1, none⟩ = some (.int .u8 (pr V i).2) ∧ 0 ≤ (pr V i).1 ∧ (pr V i).1 ≤ 255 ∧ 0 ≤ (pr V i).2 ∧ (pr V i).2 ≤ 255 := by
  have z0 := h.int 0 .u8 rfl i hi
  have z1 := h.int 1 .u8 rfl i hi
  obtain ⟨b, off, hp, hcs⟩ := h
  obtain ⟨rfl, hbl⟩ := hp (by omega)
  have c0 := (hcs i hi 0 _ rfl).1
  have c1 := (hcs i hi 1 _ rfl).1
  rw [z0.1] at c0
  rw [z1.1] at c1
  refine ⟨b, off, rfl, Nat.lt_of_lt_of_le hbl hb.size, (hb.cell (p := ⟨b, off + i * 2, none⟩) hbl).trans c0, (hb.cell (p := ⟨b, off + i * 2 + 1, none⟩) hbl).trans c1, ?_⟩
  have w0 := isu8 z0.2
  have w1 := isu8 z1.2
  exact ⟨w0.1, w0.2, w1.1, w1.2⟩
end Go.Proofs.Ytbppjaglgbhckaa.CaT

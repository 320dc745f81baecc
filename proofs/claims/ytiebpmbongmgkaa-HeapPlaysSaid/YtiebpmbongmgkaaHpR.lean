/- Package heap: what stands between the steps of HeapPlays. No condition. -/
import Derived.Test.YtiebpmbongmgkaaHpS
import Derived.Test.YtiebpmbongmgkaaHpT
set_option linter.unusedVariables false
set_option linter.unusedSimpArgs false
namespace Go.Proofs.Ytiebpmbongmgkaa.HpR
open Go.RowKit Go.Proofs.Ytiebpmbongmgkaa.Kit Go.Proofs.Ytiebpmbongmgkaa.Kit2 Go.Proofs.Ytiebpmbongmgkaa.Kit3 Go.Proofs.Ytiebpmbongmgkaa.Kit4 Go.Proofs.Ytiebpmbongmgkaa.Kit5 HpPlain Go.Maps Go.Proofs.Ytiebpmbongmgkaa.HpA Go.Proofs.Ytiebpmbongmgkaa.HpB Go.Proofs.Ytiebpmbongmgkaa.HpE Go.Proofs.Ytiebpmbongmgkaa.HpG Go.Proofs.Ytiebpmbongmgkaa.HpI Go.Proofs.Ytiebpmbongmgkaa.HpK Go.Proofs.Ytiebpmbongmgkaa.HpL Go.Proofs.Ytiebpmbongmgkaa.HpN Go.Proofs.Ytiebpmbongmgkaa.HpO Go.Proofs.Ytiebpmbongmgkaa.HpP Go.Proofs.Ytiebpmbongmgkaa.HpT
open Go.Proofs.YtiebpmbongmgkaaW.PrintLast
abbrev DK : List CK := [.i .i64, .i .i64, .i .i64, .i .i64, .i .i64, .i .i64]
def Y (V : Nat → Nat → Value) (i : Nat) : De := (intOf (V i 0), intOf (V i 1), intOf (V i 2), intOf (V i 3), intOf (V i 4), intOf (V i 5))
theorem row6 {W w : World} {a : Option Addr} {len : Nat} {V : Nat → Nat → Value} (h : InRow DK W a len V) (hb : Below W.heap.size W w) (i : Nat) (hi : i < len) :
    ∃ b off, a = some ⟨b, off, none⟩ ∧ b < W.heap.size ∧ b < w.heap.size ∧ w.cell? ⟨b, off + i * 6, none⟩ = some (.int .i64 (Y V i).1) ∧ w.cell? ⟨b, off + i * 6 + 1, none⟩ = some (.int .i64 (Y V i).2.1) ∧ w.cell? ⟨b, off + i * 6 + 2, none⟩ = some (.int .i64 (Y V i).2.2.1) ∧ w.cell? ⟨b, off + i * 6 + 3, none⟩ = some (.int .i64 (Y V i).2.2.2.1) ∧ w.cell? ⟨b, off + i * 6 + 4, none⟩ = some (.int .i64 (Y V i).2.2.2.2.1) ∧ w.cell? ⟨b, off + i * 6 + 5, none⟩ = some (.int .i64 (Y V i).2.2.2.2.2) ∧ (Lit.int .i64 (Y V i).2.1).wf = true := by
  have z0 := (h.int 0 .i64 rfl i hi).1
  have z1 := (h.int 1 .i64 rfl i hi).1
  have z2 := (h.int 2 .i64 rfl i hi).1
  have z3 := (h.int 3 .i64 rfl i hi).1
  have z4 := (h.int 4 .i64 rfl i hi).1
  have z5 := (h.int 5 .i64 rfl i hi).1
  have zw := (h.int 1 .i64 rfl i hi).2
  obtain ⟨b, off, hp, hcs⟩ := h
  obtain ⟨rfl, hbl⟩ := hp (by omega)
  have c0 := (hcs i hi 0 _ rfl).1
  have c1 := (hcs i hi 1 _ rfl).1
  have c2 := (hcs i hi 2 _ rfl).1
  have c3 := (hcs i hi 3 _ rfl).1
  have c4 := (hcs i hi 4 _ rfl).1
  have c5 := (hcs i hi 5 _ rfl).1
  rw [z0] at c0
  rw [z1] at c1
  rw [z2] at c2
  rw [z3] at c3
  rw [z4] at c4
  rw [z5] at c5
  have hc := (bcell hb).1
  exact ⟨b, off, rfl, hbl, Nat.lt_of_lt_of_le hbl hb.size, (hc _ _ hbl).trans c0, (hc _ _ hbl).trans c1, (hc _ _ hbl).trans c2, (hc _ _ hbl).trans c3, (hc _ _ hbl).trans c4, (hc _ _ hbl).trans c5, zw⟩
/-- What stands between the rounds. -/
structure Pl (W : World) (gh : Nat) (kind : Int) (v : Value) (ms : List De) (w : World) : Prop where
  st : St W w (fun _ => False) gh kind (its ms)
  row : DRow w W.heap.size v ms
theorem Pl.below {W w w' : World} {gh : Nat} {kind : Int} {v : Value} {ms : List De} (h : Pl W gh kind v ms w) (hb : Below w.heap.size w w') : Pl W gh kind v ms w' := ⟨h.st.below' hb, h.row.below hb⟩
/-- … and within a round, with the deed in its box. -/
structure Pb (W : World) (gh : Nat) (kind : Int) (v : Value) (ms : List De) (p : Nat) (y : De) (w : World) : Prop where
  pl : Pl W gh kind v ms w
  bx : Val w 42 p (dcl y)
  pb : W.heap.size ≤ p
  ne : ∀ k, v.ownBlock = some k → k ≠ p
theorem Pb.below {W w w' : World} {gh p : Nat} {kind : Int} {v : Value} {ms : List De} {y : De} (h : Pb W gh kind v ms p y w) (hb : Below w.heap.size w w') : Pb W gh kind v ms p y w' := ⟨h.pl.below hb, h.bx.below hb, h.pb, h.ne⟩
theorem Pb.start {W w : World} {gh : Nat} {kind : Int} {v : Value} {ms : List De} (h : Pl W gh kind v ms w) (y : De) :
    Pb W gh kind v ms w.heap.size y (w.alloc (.cells #[.int .i64 y.1, .int .i64 y.2.1, .int .i64 y.2.2.1, .int .i64 y.2.2.2.1, .int .i64 y.2.2.2.2.1, .int .i64 y.2.2.2.2.2] 42)) :=
  ⟨h.below ((Below.refl _ _).alloc (Nat.le_refl _) _), ⟨_, rfl, heap_alloc_new w _⟩, h.st.below.size, fun k hk => by have := h.row.lt k hk; omega⟩
/-- Where the element at a place lies. -/
theorem Pl.get {W w : World} {gh n cap : Nat} {kind : Int} {a : Option Addr} {ms : List De} (h : Pl W gh kind (.slice a n cap) ms w) (j : Nat) (hj : j < ms.length) :
    ∃ g, a = some ⟨g, 0, none⟩ ∧ g < w.heap.size ∧ ∃ y : De, ms[j]? = some y ∧ at_ (its ms) j = y.2 ∧ w.cell? ⟨g, j * 6, none⟩ = some (.int .i64 y.1) ∧ w.cell? ⟨g, j * 6 + 1, none⟩ = some (.int .i64 y.2.1) ∧ w.cell? ⟨g, j * 6 + 2, none⟩ = some (.int .i64 y.2.2.1) ∧ w.cell? ⟨g, j * 6 + 3, none⟩ = some (.int .i64 y.2.2.2.1) ∧ w.cell? ⟨g, j * 6 + 4, none⟩ = some (.int .i64 y.2.2.2.2.1) ∧ w.cell? ⟨g, j * 6 + 5, none⟩ = some (.int .i64 y.2.2.2.2.2) := by
  obtain ⟨g, rfl, _, hg, _, _, hc⟩ := h.row.get E6 (by rintro rfl; simp at hj)
  have hx := List.getElem?_eq_getElem hj
  exact ⟨g, rfl, hg, _, hx, its_at ms j _ hx, hc j _ hx 0 _ rfl, hc j _ hx 1 _ rfl, hc j _ hx 2 _ rfl, hc j _ hx 3 _ rfl, hc j _ hx 4 _ rfl, hc j _ hx 5 _ rfl⟩
/-- Behind the switch: the heap has lost the one at o already, the row not yet. -/
structure Pc (W : World) (gh : Nat) (kind : Int) (v : Value) (ms : List De) (o : Int) (w : World) : Prop where
  st : St W w (fun _ => False) gh kind (its (rem ms o))
  row : DRow w W.heap.size v ms
theorem Pc.below {W w w' : World} {gh : Nat} {kind o : Int} {v : Value} {ms : List De} (h : Pc W gh kind v ms o w) (hb : Below w.heap.size w w') : Pc W gh kind v ms o w' := ⟨h.st.below' hb, h.row.below hb⟩
/-- The world may gain blocks until operation j is done; then P holds of it. -/
structure OneB (W : World) (P : World → Prop) (j : Nat) (b : Nat → Bool) (w' : World) : Prop where
  n : b j = false → Below W.heap.size W w'
  y : b j = true → P w'
theorem OneB.start {W : World} {P : World → Prop} {j : Nat} : OneB W P j (fun _ => false) W := ⟨fun _ => Below.refl _ _, fun h => (by cases h)⟩
theorem OneB.low {W w' : World} {P : World → Prop} {j i : Nat} {b : Nat → Bool} (h : OneB W P j b w') (hi : j ≠ i) : OneB W P j (up b i) w' := by
  constructor
  · rw [up_ne hi]; exact h.n
  · rw [up_ne hi]; exact h.y
theorem OneB.mid {W w' w'' : World} {P : World → Prop} {j i : Nat} {b : Nat → Bool} (h : OneB W P j b w') (h0 : b j = false) (hb : Below w'.heap.size w' w'') (hi : j ≠ i) : OneB W P j (up b i) w'' := by
  constructor
  · rw [up_ne hi]; exact fun _ => below_then (h.n h0) (h.n h0).size hb
  · rw [up_ne hi, h0]; exact fun e => by cases e
theorem OneB.set {W w' : World} {P : World → Prop} {j : Nat} {b : Nat → Bool} (h : P w') : OneB W P j (up b j) w' :=
  ⟨fun e => (by rw [up_self] at e; cases e), fun _ => h⟩
theorem infoD : (Try.prog.info? 42).map (fun i => (i.zero, i.size, i.bytes)) = some (some (dv 0 HpPlain.z), 6, 48) := by kernel_rfl
theorem deed_chg {W w w' : World} {S : Nat → Prop} {gh n g c : Nat} {kind : Int} {m : List It} {ms : List De} (hs : St W w (fun _ => False) gh kind m) (hr : DRow w W.heap.size (.slice (some ⟨g, 0, none⟩) n c) ms) (hc : Chg w w' S) (hS : ∀ k, S k → k = g) : St W w' (fun _ => False) gh kind m := by
  refine hs.chg hc (fun k hk => ?_) (fun k o ho hk => ?_) (fun k hk => ?_)
  · rw [hS k hk]; exact hr.base g rfl
  · obtain ⟨cur, h1⟩ := hr.cells g rfl
    rw [hS k hk, h1] at ho
    exact .inr ⟨_, _, (Option.some.inj ho).symm, by decide, by decide⟩
  · rw [hS k hk]; exact hr.lt g rfl
/-- The deed at a slot that stands is written anew. -/
theorem Pc.set {W w : World} {gh n g c : Nat} {kind : Int} {ms : List De} {y : De} (hn : (slots (its ms)).Nodup) (hs : St W w (fun _ => False) gh kind (put (its ms) y.2)) (hr : DRow w W.heap.size (.slice (some ⟨g, 0, none⟩) n c) ms) (q : Nat) (hq : q < ms.length) (he : (at_ (its ms) q).1 = y.2.1) :
    ∃ ms2 : List De, ms2.length = ms.length ∧ Pc W gh kind (.slice (some ⟨g, 0, none⟩) n c) ms2 (-1) ((((w.setCell ⟨g, q * 6 + 2, none⟩ (.int .i64 y.2.2.1)).setCell ⟨g, q * 6 + 3, none⟩ (.int .i64 y.2.2.2.1)).setCell ⟨g, q * 6 + 4, none⟩ (.int .i64 y.2.2.2.2.1)).setCell ⟨g, q * 6 + 5, none⟩ (.int .i64 y.2.2.2.2.2)) := by
  obtain ⟨u, hu⟩ : ∃ u, ms[q]? = some u := ⟨_, List.getElem?_eq_getElem hq⟩
  have e : ((((w.setCell ⟨g, q * 6 + 2, none⟩ (.int .i64 y.2.2.1)).setCell ⟨g, q * 6 + 3, none⟩ (.int .i64 y.2.2.2.1)).setCell ⟨g, q * 6 + 4, none⟩ (.int .i64 y.2.2.2.2.1)).setCell ⟨g, q * 6 + 5, none⟩ (.int .i64 y.2.2.2.2.2)) = w.setCells g (q * 6 + 2) [.int .i64 y.2.2.1, .int .i64 y.2.2.2.1, .int .i64 y.2.2.2.2.1, .int .i64 y.2.2.2.2.2] := rfl
  rw [e]
  have hc := HpA.chg_cells w g (q * 6 + 2) [.int .i64 y.2.2.1, .int .i64 y.2.2.2.1, .int .i64 y.2.2.2.2.1, .int .i64 y.2.2.2.2.2]
  refine ⟨ms.set q (u.1, y.2), by simp, ?_, ?_⟩
  · rw [rem_none, its_set u.1 hn hq he]
    exact deed_chg hs hr hc fun k hk => hk
  · rw [its_at ms q u hu] at he
    refine hr.part E6 q 2 u (u.1, y.2) _ hu (by simp) ?_
    simp [dcl, he]
/-- A new deed. -/
theorem Pc.app {W w w' : World} {gh : Nat} {kind : Int} {v v' : Value} {ms : List De} {y : De} (hh : hasS (its ms) y.2.1 = false) (hs : St W w (fun _ => False) gh kind (put (its ms) y.2)) (hr : DRow w W.heap.size v ms) (hr' : DRow w' W.heap.size v' (ms ++ [y])) (hg : w.grownBy w' v.ownBlock) : Pc W gh kind v' (ms ++ [y]) (-1) w' := by
  refine ⟨?_, hr'⟩
  rw [rem_none, show [y] = [(y.1, y.2)] from rfl, its_app y.1 hh]
  refine hs.chg (HpA.Chg.of_grown hg) (fun k hk => hr.base k hk.symm) (fun k o ho hk => ?_) (fun k hk => hr.lt k hk.symm)
  obtain ⟨cur, h1⟩ := hr.cells k hk.symm
  rw [h1] at ho
  exact .inr ⟨_, _, (Option.some.inj ho).symm, by decide, by decide⟩
/-- What Top and Pop answer, beside what the scan found. -/
theorem scan_tops (kind : Int) (ms : List De) (hn : (slots (its ms)).Nodup) : (bestOf kind (its ms) (its ms).length = -1 ∧ Tops kind (its ms) HpPlain.z false ∧ drop (its ms) HpPlain.z.1 = its (rem ms (-1))) ∨
    ∃ (q : Nat) (u : De), q < ms.length ∧ ms[q]? = some u ∧ bestOf kind (its ms) (its ms).length = q ∧ Tops kind (its ms) u.2 true ∧ drop (its ms) u.2.1 = its (rem ms (q : Int)) := by
  rcases bestOf_first kind (its ms) with ⟨h1, h2⟩ | ⟨q, hq, h1, h2⟩
  · refine .inl ⟨h2, .inl ⟨h1, rfl, rfl⟩, ?_⟩
    rw [rem_none, h1]; rfl
  · rw [its_len] at hq
    obtain ⟨u, hu⟩ : ∃ u, ms[q]? = some u := ⟨_, List.getElem?_eq_getElem hq⟩
    have e := rem_drop hn hq
    rw [its_at ms q u hu] at h2 e
    exact .inr ⟨q, u, hq, hu, h1, .inr ⟨h2, rfl⟩, e.symm⟩
theorem scan_at (s : Int) (ms : List De) (hn : (slots (its ms)).Nodup) : (atOf s (its ms) (its ms).length = -1 ∧ hasS (its ms) s = false ∧ (if false = true then drop (its ms) s else its ms) = its (rem ms (-1))) ∨
    ∃ q : Nat, q < ms.length ∧ atOf s (its ms) (its ms).length = q ∧ (at_ (its ms) q).1 = s ∧ hasS (its ms) s = true ∧ (if true = true then drop (its ms) s else its ms) = its (rem ms (q : Int)) := by
  rcases atOf_has s (its ms) with ⟨h1, h2⟩ | ⟨q, hq, h1, h2, h3⟩
  · exact .inl ⟨h1, h2, rfl⟩
  · rw [its_len] at hq
    refine .inr ⟨q, hq, h1, h2, h3, ?_⟩
    rw [rem_drop hn hq, h2]; rfl
theorem Pb.calls {W w w' : World} {gh p : Nat} {kind : Int} {v : Value} {ms : List De} {y : De} (h : Pb W gh kind v ms p y w) (hf : Fr (fun _ => False) w w') : DRow w' W.heap.size v ms ∧ Val w' 42 p (dcl y) := ⟨DRow.fr h.pl.row hf, Val.fr h.bx hf (by decide) (by decide)⟩
theorem put_any {W wq : World} {gh : Nat} {kind : Int} {m : List It} (h : St W wq (fun _ => False) gh kind m) (hl : m.length ≤ 90000) (x : It) :
    ∃ (ec : Int) (m2 : List It), ((ec = 2 ∧ m2 = m ∧ (x.1 < 0 ∨ (¬ x.1 < 0 ∧ 65536 ≤ x.1))) ∨ (ec = 0 ∧ m2 = put m x ∧ ¬ x.1 < 0 ∧ ¬ 65536 ≤ x.1)) ∧ ∀ w', Below wq.heap.size wq w' →
      Calls Try.prog 10 #[.pointer (some ⟨gh, 0, none⟩), .int .i64 x.1, rv x] w' fun r w2 => r = .returned (.int .i64 ec) ∧ St W w2 (fun _ => False) gh kind m2 ∧ Fr (fun _ => False) wq w2 := by
  by_cases hx : 0 ≤ x.1 ∧ x.1 < 65536
  · refine ⟨0, put m x, .inr ⟨rfl, rfl, by omega, by omega⟩, fun w' hb => (Put_st (h.below' hb) hl x hx _ rfl).mono ?_⟩
    rintro r w2 ⟨rfl, h1, h2⟩
    exact ⟨rfl, h1, (Fr.below hb).trans h2⟩
  · refine ⟨2, m, .inl ⟨rfl, rfl, by omega⟩, fun w' hb => (Put_not (h.below' hb) hl x (by omega)).mono ?_⟩
    rintro r w2 ⟨rfl, h1, h2⟩
    exact ⟨rfl, h1, (Fr.below hb).trans h2⟩
/-- A slot that a later operation of the region writes: as long as that one hasn't been carried out. -/
theorem putSel_offb {b : Nat → Bool} {t : Tmp} {j : Nat} (hj : b j = false) : ∀ {L : List (Nat × Tmp × Value)} {a : Act}, (L.all fun e => !(e.2.1 == t) || (e.1 == j)) = true → (putSel a b L).tmps[t]? = a.tmps[t]?
  | [], _, _ => rfl
  | e :: r, a, h => by
    rw [List.all_cons, Bool.and_eq_true] at h
    unfold putSel
    by_cases hb : b e.1 = true
    · rw [if_pos hb, putSel_offb hj h.2]
      have he : e.2.1 ≠ t := by
        have h1 := h.1
        have h2 : (e.1 == j) = false := by
          cases hh : e.1 == j
          · rfl
          · rw [beq_iff_eq.1 hh, hj] at hb; cases hb
        rw [h2, Bool.or_false] at h1
        simpa using h1
      simp [Act.put, Array.getElem?_setIfInBounds_ne he]
    · rw [if_neg hb]
      exact putSel_offb hj h.2
theorem poffb {b : Nat → Bool} {t : Tmp} {j : Nat} {v : Value} {a a0 : Act} {L : List (Nat × Tmp × Value)} (ha : a = putSel a0 b L) (hj : b j = false) (hd : (L.all fun e => !(e.2.1 == t) || (e.1 == j)) = true) (h : a0.tmps[t]? = some v) : a.tmps[t]? = some v := by
  rw [ha]; exact (putSel_offb hj hd).trans h
/-! ### two rows put together anew -/
theorem adr (g o n : Nat) : (⟨g, o, none⟩ : Addr).add n = ⟨g, o + n, none⟩ := by simp [Addr.add]; try omega
theorem bel_grown {W0 w' w3 : World} {r : Option Nat} (h : Below W0.heap.size W0 w') (hg : w'.grownBy w3 r) (hr : ∀ k, r = some k → W0.heap.size ≤ k) : Below W0.heap.size W0 w3 :=
  ⟨hg.os.trans h.os, hg.tape.trans h.tape, hg.output.trans h.output, Nat.le_trans h.size hg.size, fun k hk => (hg.block k (Nat.lt_of_lt_of_le hk h.size) (fun e => by have := hr k e.symm; omega)).trans (h.block k hk)⟩
structure Ap (W0 : World) (p : Nat) (xs ys : List De) (b : Nat → Bool) (va vb vc : Value) (w' : World) : Prop where
  n0 : b 0 = false → w' = W0
  bel : Below W0.heap.size W0 w'
  r0 : b 0 = true → b 4 = false → DRow w' W0.heap.size (.slice (some ⟨p, 0, none⟩) 0 0) []
  r4 : b 4 = true → b 9 = false → DRow w' W0.heap.size va xs
  r9 : b 9 = true → DRow w' W0.heap.size vb (xs ++ ys)
  r10 : b 10 = true → vc = vb
section
variable {W0 w' w3 : World} {p : Nat} {xs ys : List De} {b : Nat → Bool} {va vb vc v' : Value}
theorem Ap.start : Ap W0 p xs ys (fun _ => false) va vb vc W0 := ⟨fun _ => rfl, Below.refl _ _, fun h => (by cases h), fun h => (by cases h), fun h => (by cases h), fun h => (by cases h)⟩
theorem Ap.low (h : Ap W0 p xs ys b va vb vc w') (i : Nat) (hi : (i != 0 && i != 4 && i != 9 && i != 10) = true) : Ap W0 p xs ys (up b i) va vb vc w' := by
  simp only [Bool.and_eq_true, bne_iff_ne, ne_eq] at hi
  obtain ⟨⟨⟨h0, h1⟩, h2⟩, h3⟩ := hi
  have e0 := up_ne (b := b) (i := i) (j := 0) (fun e => h0 e.symm)
  have e1 := up_ne (b := b) (i := i) (j := 4) (fun e => h1 e.symm)
  have e2 := up_ne (b := b) (i := i) (j := 9) (fun e => h2 e.symm)
  have e3 := up_ne (b := b) (i := i) (j := 10) (fun e => h3 e.symm)
  constructor
  · rw [e0]; exact h.n0
  · exact h.bel
  · rw [e0, e1]; exact h.r0
  · rw [e1, e2]; exact h.r4
  · rw [e2]; exact h.r9
  · rw [e3]; exact h.r10
theorem Ap.s0 (h : Ap W0 p xs ys b va vb vc w') (h0 : b 0 = false) (h4 : b 4 = false) (h9 : b 9 = false) (h10 : b 10 = false) (hp : p = W0.heap.size) : Ap W0 p xs ys (up b 0) va vb vc (W0.alloc (.cells #[] 42)) := by
  subst hp
  have e0 := up_self b 0
  have e1 := up_ne (b := b) (i := 0) (j := 4) (by decide)
  have e2 := up_ne (b := b) (i := 0) (j := 9) (by decide)
  have e3 := up_ne (b := b) (i := 0) (j := 10) (by decide)
  constructor
  · rw [e0]; exact fun e => by cases e
  · exact (Below.refl _ _).alloc (Nat.le_refl _) _
  · exact fun _ _ => ⟨rfl, .inr ⟨W0.heap.size, 0, #[], rfl, Nat.le_refl _, heap_alloc_new W0 _, Nat.le_refl _, Nat.zero_le _, rfl, rfl⟩⟩
  · rw [e1, h4]; exact fun e => by cases e
  · rw [e2, h9]; exact fun e => by cases e
  · rw [e3, h10]; exact fun e => by cases e
theorem Ap.s4 (h : Ap W0 p xs ys b va vb vc w') (hp : W0.heap.size ≤ p) (h9 : b 9 = false) (h10 : b 10 = false) (h0 : b 0 = true) (hr : DRow w3 W0.heap.size v' xs) (hg : w'.grownBy w3 (some p)) : Ap W0 p xs ys (up b 4) v' vb vc w3 := by
  have e0 := up_ne (b := b) (i := 4) (j := 0) (by decide)
  have e1 := up_self b 4
  have e2 := up_ne (b := b) (i := 4) (j := 9) (by decide)
  have e3 := up_ne (b := b) (i := 4) (j := 10) (by decide)
  constructor
  · rw [e0, h0]; exact fun e => by cases e
  · exact bel_grown h.bel hg (fun k e => by cases e; exact hp)
  · rw [e1]; exact fun _ e => by cases e
  · exact fun _ _ => hr
  · rw [e2, h9]; exact fun e => by cases e
  · rw [e3, h10]; exact fun e => by cases e
theorem Ap.s9 (h : Ap W0 p xs ys b va vb vc w') (h10 : b 10 = false) (h4 : b 4 = true) (h0 : b 0 = true) (h9 : b 9 = false) (hr : DRow w3 W0.heap.size v' (xs ++ ys)) (hg : w'.grownBy w3 va.ownBlock) : Ap W0 p xs ys (up b 9) va v' vc w3 := by
  have e0 := up_ne (b := b) (i := 9) (j := 0) (by decide)
  have e1 := up_ne (b := b) (i := 9) (j := 4) (by decide)
  have e2 := up_self b 9
  have e3 := up_ne (b := b) (i := 9) (j := 10) (by decide)
  constructor
  · rw [e0, h0]; exact fun e => by cases e
  · exact bel_grown h.bel hg (fun k e => (h.r4 h4 h9).base k e)
  · rw [e1, h4]; exact fun _ e => by cases e
  · rw [e2]; exact fun _ e => by cases e
  · exact fun _ => hr
  · rw [e3, h10]; exact fun e => by cases e
theorem Ap.s10 (h : Ap W0 p xs ys b va vb vc w') : Ap W0 p xs ys (up b 10) va vb vb w' := by
  have e0 := up_ne (b := b) (i := 10) (j := 0) (by decide)
  have e1 := up_ne (b := b) (i := 10) (j := 4) (by decide)
  have e2 := up_ne (b := b) (i := 10) (j := 9) (by decide)
  constructor
  · rw [e0]; exact h.n0
  · exact h.bel
  · rw [e0, e1]; exact h.r0
  · rw [e1, e2]; exact h.r4
  · rw [e2]; exact h.r9
  · exact fun _ => rfl
end
theorem cells_take {w w' : World} {B g n c : Nat} {ms : List De} (h : DRow w B (.slice (some ⟨g, 0, none⟩) n c) ms) (hb : Below w.heap.size w w') (q : Nat) (j : Nat) (x : De) (hx : (ms.take q)[j]? = some x) (r : Nat) (u : Value) (hu : (dcl x)[r]? = some u) : w'.cell? ((⟨g, 0, none⟩ : Addr).add (j * 6 + r)) = some u := by
  rw [List.getElem?_take] at hx
  split at hx
  · obtain ⟨g', e, _, _, _, _, hc⟩ := (h.below hb).get E6 (by rintro rfl; simp at hx)
    obtain rfl : g = g' := by simpa using e
    rw [adr, Nat.zero_add]
    exact hc j x hx r u hu
  · cases hx
theorem cells_drop {w w' : World} {B g n c : Nat} {ms : List De} (h : DRow w B (.slice (some ⟨g, 0, none⟩) n c) ms) (hb : Below w.heap.size w w') (k : Nat) (j : Nat) (x : De) (hx : (ms.drop k)[j]? = some x) (r : Nat) (u : Value) (hu : (dcl x)[r]? = some u) : w'.cell? ((⟨g, k * 6, none⟩ : Addr).add (j * 6 + r)) = some u := by
  rw [List.getElem?_drop] at hx
  obtain ⟨g', e, _, _, _, _, hc⟩ := (h.below hb).get E6 (by rintro rfl; simp at hx)
  obtain rfl : g = g' := by simpa using e
  rw [adr, show k * 6 + (j * 6 + r) = (k + j) * 6 + r by omega]
  exact hc (k + j) x hx r u hu
/-- A box written anew. -/
theorem pop_box {W w : World} {gh p : Nat} {kind : Int} {v : Value} {m : List It} {ms : List De} {c : List Value} (hs : St W w (fun _ => False) gh kind m) (hr : DRow w W.heap.size v ms) (hv : Val w 32 p c) (hp : W.heap.size ≤ p) (hne : ∀ k, v.ownBlock = some k → k ≠ p) (i : Nat) (u : Value) :
    St W (w.setCell ⟨p, i, none⟩ u) (fun _ => False) gh kind m ∧ DRow (w.setCell ⟨p, i, none⟩ u) W.heap.size v ms ∧ Val (w.setCell ⟨p, i, none⟩ u) 32 p (c.set i u) :=
  ⟨St.setCell hs hv hp (by decide) (by decide) i u, hr.chg (Kit3.Chg.set w p i u) (fun j hj e => hne j hj e), Val.set hv i u⟩
end Go.Proofs.Ytiebpmbongmgkaa.HpR

/- The law SlackPlays, walked by hand. No condition. -/
import Derived.Test.YtlmckindacnkoaaSlT
import Derived.Test.YtlmckindacnkoaaKit2
import Derived.Test.YtlmckindacnkoaaKit4
set_option linter.unusedVariables false
set_option linter.unusedSimpArgs false
namespace Go.Proofs.Ytlmckindacnkoaa.SlU
open Go.RowKit Go.Proofs.Ytlmckindacnkoaa.Kit Go.Proofs.Ytlmckindacnkoaa.Kit2 Go.Proofs.Ytlmckindacnkoaa.Kit4 Go.Proofs.Ytlmckindacnkoaa.SlA Go.Proofs.Ytlmckindacnkoaa.SlB Go.Proofs.Ytlmckindacnkoaa.SlC Go.Proofs.Ytlmckindacnkoaa.SlD Go.Proofs.Ytlmckindacnkoaa.SlE Go.Proofs.Ytlmckindacnkoaa.SlF Go.Proofs.Ytlmckindacnkoaa.SlG Go.Proofs.Ytlmckindacnkoaa.SlH Go.Proofs.Ytlmckindacnkoaa.SlI Go.Proofs.Ytlmckindacnkoaa.SlJ Go.Proofs.Ytlmckindacnkoaa.SlK Go.Proofs.Ytlmckindacnkoaa.SlL Go.Proofs.Ytlmckindacnkoaa.SlR Go.Proofs.Ytlmckindacnkoaa.SlS Go.Proofs.Ytlmckindacnkoaa.SlT
open Go.Proofs.YtlmckindacnkoaaW.PrintLast
def Pos (xs : List It) : Prop := ∀ x ∈ xs, 1 ≤ x.2 ∧ x.2 ≤ 1048576
theorem Pos.put {xs : List It} (h : Pos xs) (id need : Int) : Pos (putL xs id need) := by
  unfold putL
  split
  · rename_i e
    intro x hx
    rcases List.mem_append.1 hx with hx | hx
    · exact h x hx
    · simp at hx
      subst hx
      unfold putE at e
      split at e
      · cases e
      · rename_i h2; exact ⟨by show 1 ≤ need; omega, by show need ≤ 1048576; omega⟩
  · exact h
theorem put_len {xs : List It} (h : xs.length ≤ 64) (id need : Int) : (putL xs id need).length ≤ 64 := by
  unfold putL
  split
  · rename_i e
    unfold putE at e
    split at e
    · cases e
    · split at e
      · cases e
      · split at e
        · cases e
        · simp; omega
  · exact h
theorem Pos.give {xs : List It} (h : Pos xs) (n : Nat) : Pos (left (decr n xs)) := by
  intro x hx
  obtain ⟨h1, h2⟩ := List.mem_filter.1 hx
  have hne : x.2 ≠ 0 := by
    intro e
    simp [dn, e] at h2
  unfold decr at h1
  rcases List.mem_append.1 h1 with h1 | h1
  · obtain ⟨y, hy, rfl⟩ := List.mem_map.1 h1
    have := h y (List.mem_of_mem_take hy)
    dsimp only at hne ⊢
    omega
  · exact h x (List.mem_of_mem_drop h1)
theorem give_len {xs : List It} (h : xs.length ≤ 64) (n : Nat) : (left (decr n xs)).length ≤ 64 := by
  have h1 := List.length_filter_le (fun x => !dn x) (decr n xs)
  rw [decr_len] at h1
  exact Nat.le_trans h1 h
theorem RQ.fr {w w' : World} {B gr : Nat} {v : Value} {xs : List It} (h : RQ w B gr v xs) (hf : Fr w w') : RQ w' B gr v xs := by
  refine ⟨hf _ _ _ h.box (by decide) (by decide), Row.move h.row fun k hk => ?_, h.base⟩
  obtain ⟨cur, h2⟩ := Go.Proofs.YtlmckindacnkoaaW.PrintWords.own_typed h.row k hk
  exact (hf _ _ _ h2 (by decide) (by decide)).trans h2.symm
theorem Val.fr {w w' : World} {T p : Nat} {c : List Value} (h : Val w T p c) (hf : Fr w w') (h1 : T ≠ 41) (h2 : T ≠ 51) : Val w' T p c := by
  obtain ⟨cs, h3, h4⟩ := h
  exact ⟨cs, h3, hf _ _ _ h4 h1 h2⟩
/-- Both queues, and the deed's box. -/
structure Two (W w : World) (gq gr p : Nat) (d : List Value) (xs ys : List It) : Prop where
  st : St W w gq xs
  rq : ∃ v, RQ w W.heap.size gr v ys
  vl : Val w 31 p d
  pb : W.heap.size ≤ p
/-- Between the rounds. -/
structure Bo (W w : World) (gq gr : Nat) (xs : List It) : Prop where
  st : St W w gq xs
  rq : ∃ v, RQ w W.heap.size gr v xs
section
variable {W w w' : World} {gq gr p : Nat} {d : List Value} {xs ys zs : List It}
theorem Bo.below (h : Bo W w gq gr xs) (hb : Below w.heap.size w w') : Bo W w' gq gr xs := by
  obtain ⟨v, hv⟩ := h.rq
  exact ⟨h.st.below' hb, v, hv.below hb⟩
theorem Two.below (h : Two W w gq gr p d xs ys) (hb : Below w.heap.size w w') : Two W w' gq gr p d xs ys := by
  obtain ⟨v, hv⟩ := h.rq
  exact ⟨h.st.below' hb, ⟨v, hv.below hb⟩, h.vl.below hb, h.pb⟩
theorem Two.fin (h : Two W w gq gr p d xs xs) : Bo W w gq gr xs := ⟨h.st, h.rq⟩
theorem Two.one (h : Two W w gq gr p d xs ys) (hs : St W w' gq zs) (hf : Fr w w') : Two W w' gq gr p d zs ys := by
  obtain ⟨v, hv⟩ := h.rq
  exact ⟨hs, ⟨v, RQ.fr hv hf⟩, Val.fr h.vl hf (by decide) (by decide), h.pb⟩
theorem Two.two (h : Two W w gq gr p d xs ys) (hr : RDone w w' W.heap.size gr zs) : Two W w' gq gr p d xs zs := by
  obtain ⟨v, hv⟩ := h.rq
  obtain ⟨v', hv', hc⟩ := hr
  obtain ⟨hb, vq, hq⟩ := h.st
  have hne : gr ≠ gq := by
    rintro rfl
    have h1 := hv.box
    rw [hq.box] at h1
    simp at h1
  refine ⟨⟨hb.trans (Chg.below hc (by have := hb.size; omega) (fun k hk => by rw [hk]; exact hv.base)), vq, ?_⟩, ⟨v', hv'⟩, ?_, h.pb⟩
  · exact ⟨(hc.block gq hq.lt (fun e => hne e.symm)).trans hq.box, Row.move hq.row fun k hk => hc.block k (Row.lt hq.row k hk) (fun e => Row.ne hq.row hv.box (by decide) (by rw [hk, e])), hq.base⟩
  · refine h.vl.move (hc.block p h.vl.lt fun e => ?_)
    obtain ⟨cs, _, h3⟩ := h.vl
    have h1 := hv.box
    rw [← e, h3] at h1
    simp at h1
end
/-- The region of both Puts. -/
structure R13 (W : World) (gq gr p : Nat) (d : List Value) (xs ys : List It) (b : Nat → Bool) (w : World) : Prop where
  t : Two W w gq gr p d (if b 5 = true then ys else xs) (if b 11 = true then ys else xs)
theorem R13.low {W w : World} {gq gr p : Nat} {d : List Value} {xs ys : List It} {b : Nat → Bool} (h : R13 W gq gr p d xs ys b w) (i : Nat) (hi : (5 != i && 11 != i) = true) : R13 W gq gr p d xs ys (up b i) w := by
  simp only [Bool.and_eq_true, bne_iff_ne, ne_eq] at hi
  refine ⟨?_⟩
  rw [up_ne hi.1, up_ne hi.2]
  exact h.t
abbrev DK : List CK := [.i .i64, .i .i64, .i .i64]
theorem row3 {W w : World} {a : Option Addr} {len : Nat} {V : Nat → Nat → Value} (h : InRow DK W a len V) (hb : Below W.heap.size W w) (i : Nat) (hi : i < len) :
    ∃ b off x y z, a = some ⟨b, off, none⟩ ∧ b < w.heap.size ∧ w.cell? ⟨b, off + i * 3, none⟩ = some (.int .i64 x) ∧ w.cell? ⟨b, off + i * 3 + 1, none⟩ = some (.int .i64 y) ∧ w.cell? ⟨b, off + i * 3 + 2, none⟩ = some (.int .i64 z) := by
  have z0 := (h.int 0 .i64 rfl i hi).1
  have z1 := (h.int 1 .i64 rfl i hi).1
  have z2 := (h.int 2 .i64 rfl i hi).1
  obtain ⟨b, off, hp, hcs⟩ := h
  obtain ⟨rfl, hbl⟩ := hp (by omega)
  have c0 := (hcs i hi 0 _ rfl).1
  have c1 := (hcs i hi 1 _ rfl).1
  have c2 := (hcs i hi 2 _ rfl).1
  rw [z0] at c0
  rw [z1] at c1
  rw [z2] at c2
  have hc := (bcell hb).1
  exact ⟨b, off, _, _, _, rfl, Nat.lt_of_lt_of_le hbl hb.size, (hc _ _ hbl).trans c0, (hc _ _ hbl).trans c1, (hc _ _ hbl).trans c2⟩
set_option maxHeartbeats 16000000 in
set_option maxRecDepth 100000 in
theorem walk (ad : Option Addr) (len cap : Nat) (V : Nat → Nat → Value) (w : World) (hrow : InRow DK w ad len V) (hlen : len ≤ maxLen) :
    Calls Try.prog 3 #[.slice ad len cap] w fun r w' => r = .returned (.bool true) ∧ Below w.heap.size w w' := by
  have HROW := Side.mk hrow
  have hl64 : (len : Int) ≤ 9223372036854775807 := by unfold maxLen at hlen; omega
  clear hrow hlen
  by_cases hbig : 300 < len
  · have hb3 : (300 : Int) < len := by omega
    clear hbig
    go_enter Try.func3, Try.ntmps3
    go_wp2_with fail
    refine (awake_at _).mono ?_
    rintro e w1 ⟨rfl, hb⟩
    have HB := Side.mk hb
    clear hb
    go_wp2
    go_ret
    exact ⟨rfl, HB.out⟩
  have hb3 : ¬ (300 : Int) < len := by omega
  go_enter Try.func3, Try.ntmps3
  go_wp2_with fail
  refine (awake_at _).mono ?_
  rintro e w1 ⟨rfl, hb⟩
  have HB := Side.mk hb
  clear hb
  go_wp2_with fail
  refine (New_at _).mono ?_
  rintro e w2 ⟨rfl, rfl⟩
  go_upto_region 6 with (fail)
  obtain ⟨gq, hgq⟩ : ∃ gq, gq = w1.heap.size := ⟨_, rfl⟩
  obtain ⟨W2, hW2⟩ : ∃ W2, W2 = w1.alloc (.cells #[.slice none 0 0] 51) := ⟨_, rfl⟩
  have S2 : Side (St w W2 gq []) := ⟨by rw [hW2, hgq]; exact St.start HB.out⟩
  rw [← hW2, ← hgq]
  have hs2 : W2.heap.size = gq + 1 := by rw [hW2, hgq]; simp
  clear hgq hW2 HB
  obtain ⟨gr, hgr⟩ : ∃ gr, gr = gq + 1 := ⟨_, rfl⟩
  obtain ⟨W3, hW3⟩ : ∃ W3, W3 = W2.alloc (.cells #[.slice none 0 0] 29) := ⟨_, rfl⟩
  have B3 : Side (Bo w W3 gq gr []) := ⟨S2.out.below' (by rw [hW3]; exact (Below.refl _ _).alloc (Nat.le_refl _) _), .slice none 0 0, by rw [hW3, hgr, ← hs2]; exact heap_alloc_new W2 _, ⟨rfl, .inl ⟨rfl, rfl⟩⟩, by rw [hgr, ← hs2]; exact S2.out.below.size⟩
  rw [← hW3, ← hgr]
  clear hgr hW3 S2 hs2
  go_wp2_with fail
  go_loopw [5] (fun v5 wr => ∃ (i : Nat) (xs : List It), v5 = .int .i64 (i : Int) ∧ i ≤ len ∧ Side (Pos xs) ∧ Side (xs.length ≤ 64) ∧ Side (Bo w wr gq gr xs)) (fun v5 _ => (len - intOf v5).toNat)
  case atStart => exact ⟨0, [], rfl, Nat.zero_le _, ⟨fun x hx => by cases hx⟩, ⟨by simp⟩, B3⟩
  case round =>
    clear B3
    obtain ⟨i, xs, rfl, hi, HPOS0, HLEN0, HB⟩ := hrel
    have hi0 : (0 : Int) ≤ i := by omega
    obtain ⟨wp, hwp⟩ : ∃ wp : World, wp = wr := ⟨_, rfl⟩
    rw [← hwp] at HB ⊢
    clear hwp
    by_cases hlt : i < len
    · have hii : (i : Int) < len := by omega
      have hi1 : (i : Int) + 1 ≤ 9223372036854775807 := by omega
      obtain ⟨gb, off, d0, d1, d2, rfl, hgl, c0, c1, c2⟩ := row3 HROW.out HB.out.st.below i hlt
      go_upto_region 12 with (fail)
      obtain ⟨p, hp⟩ : ∃ p, p = wp.heap.size := ⟨_, rfl⟩
      obtain ⟨W5, hW5⟩ : ∃ W5, W5 = wp.alloc (.cells #[.int .i64 d0, .int .i64 d1, .int .i64 d2] 31) := ⟨_, rfl⟩
      obtain ⟨dd, hdd⟩ : ∃ dd : List Value, dd = [.int .i64 d0, .int .i64 d1, .int .i64 d2] := ⟨_, rfl⟩
      have T5 : Side (Two w W5 gq gr p dd xs xs) := by
        have h1 := HB.out.below (show Below wp.heap.size wp W5 by rw [hW5]; exact (Below.refl _ _).alloc (Nat.le_refl _) _)
        exact ⟨h1.st, h1.rq, ⟨_, rfl, by rw [hdd, hW5, hp]; exact heap_alloc_new wp _⟩, by rw [hp]; exact HB.out.st.below.size⟩
      have HD := Side.mk hdd
      rw [← hW5, ← hp]
      clear hW5 hp HB c0 c1 c2 hgl hdd
      have hpl := T5.out.vl.lt
      have e0 : W5.cell? ⟨p, 0, none⟩ = some (.int .i64 d0) := T5.out.vl.cell 0 _ (by rw [HD.out]; rfl)
      have e1 : W5.cell? ⟨p, 1, none⟩ = some (.int .i64 d1) := T5.out.vl.cell 1 _ (by rw [HD.out]; rfl)
      have e2 : W5.cell? ⟨p, 2, none⟩ = some (.int .i64 d2) := T5.out.vl.cell 2 _ (by rw [HD.out]; rfl)
      by_cases hd3 : d0 < 3
      · go_upto_region 13 with (fail)
        obtain ⟨ev, hev⟩ : ∃ ev, putE xs d1 d2 = ev := ⟨_, rfl⟩
        obtain ⟨ys, hys⟩ : ∃ ys, putL xs d1 d2 = ys := ⟨_, rfl⟩
        have HPOS : Side (Pos ys) := ⟨by rw [← hys]; exact HPOS0.out.put d1 d2⟩
        have HLEN : Side (ys.length ≤ 64) := ⟨by rw [← hys]; exact put_len HLEN0.out d1 d2⟩
        have C1 := Side.mk (fun (b : Nat → Bool) w' (hb : b 5 = false) (h : R13 w gq gr p dd xs ys b w') => show Calls Try.prog 10 #[.pointer (some ⟨gq, 0, none⟩), .int .i64 d1, .int .i64 d2] w' fun r w'' => r = .returned (.int .i64 ev) ∧ R13 w gq gr p dd xs ys (up b 5) w'' from by
          have ht := h.t
          simp only [hb, Bool.false_eq_true, if_false] at ht
          refine (Put_st ht.st (by have := HLEN0.out; omega) d1 d2 ev ys hev hys).mono ?_
          rintro r w'' ⟨h1, h2, h3⟩
          refine ⟨h1, ⟨?_⟩⟩
          rw [up_self, if_pos rfl, up_ne (by decide)]
          exact ht.one h2 h3)
        have C2 := Side.mk (fun (b : Nat → Bool) w' (hb : b 11 = false) (h : R13 w gq gr p dd xs ys b w') => show Calls Try.prog 11 #[.pointer (some ⟨gr, 0, none⟩), .int .i64 d1, .int .i64 d2] w' fun r w'' => r = .returned (.int .i64 ev) ∧ R13 w gq gr p dd xs ys (up b 11) w'' from by
          have ht := h.t
          simp only [hb, Bool.false_eq_true, if_false] at ht
          obtain ⟨v, hv⟩ := ht.rq
          refine (RPut_at w' w.heap.size gr v xs hv (by have := HLEN0.out; omega) d1 d2 ht.st.below.size).mono ?_
          rintro r w'' ⟨h1, h2⟩
          rw [hev] at h1
          rw [hys] at h2
          refine ⟨h1, ⟨?_⟩⟩
          rw [up_self, if_pos rfl, up_ne (by decide)]
          exact ht.two h2)
        have H0 : Side (R13 w gq gr p dd xs ys (fun _ => false) W5.drew) := ⟨⟨T5.out.below (below_drew (Below.refl _ W5))⟩⟩
        have L1 := Side.mk (fun w' xs' ys' (h : Two w w' gq gr p dd xs' ys') => (⟨h.vl.cell 1 (.int .i64 d1) (by rw [HD.out]; rfl), h.vl.cell 2 (.int .i64 d2) (by rw [HD.out]; rfl), h.vl.lt⟩ : w'.cell? ⟨p, 1, none⟩ = some (.int .i64 d1) ∧ w'.cell? ⟨p, 2, none⟩ = some (.int .i64 d2) ∧ p < w'.heap.size))
        clear hev hys T5 HPOS0 HLEN0 e0 e1 e2 hpl
        go_cut [49] (fun v we => v = .bool false ∧ Side (Two w we gq gr p dd ys ys))
        case first =>
          clear HROW HPOS HLEN HD
          refine start_ (n := 13) (S := fun w' => True) (ds := []) #[false, false, false, false, false, false, false, false, false, false, false, false, false] (by kernel_rfl) rfl rfl trivial (fun _ => ?_)
          refine inv_at (B := [0, 0, 2, 0, 8, 31, 0, 0, 128, 0, 512, 2047, 4095]) [0, 1, 2, 3, 4, 5, 6, 7, 8, 9, 10, 11, 12] (fun a0_ b a w' => a = putSel a0_ b [(0, 37, .pointer (some ⟨gq, 0, none⟩)), (1, 38, .pointer (some ⟨p, 1, none⟩)), (2, 39, .int .i64 d1), (3, 40, .pointer (some ⟨p, 2, none⟩)), (4, 41, .int .i64 d2), (5, 42, .int .i64 ev), (6, 43, .pointer (some ⟨gr, 0, none⟩)), (7, 44, .pointer (some ⟨p, 1, none⟩)), (8, 45, .int .i64 d1), (9, 46, .pointer (some ⟨p, 2, none⟩)), (10, 47, .int .i64 d2), (11, 48, .int .i64 ev), (12, 49, .bool false)] ∧ R13 w gq gr p dd xs ys b w') rfl (by kernel_rfl) (by kernel_rfl) (by kernel_rfl) ?_ ?_ ?_
          · exact ⟨by simp only [putSel, Bool.false_eq_true, if_false], H0.out⟩
          · refine steps_cons (by rintro b a w' ⟨ha, HI⟩ hb hon hoff; refine ⟨_, rfl, fun K hK => ?_⟩; have e3 := poff ha (t := 3) rfl rfl; exact value_ (v := .pointer (some ⟨gq, 0, none⟩)) (by rfl) rfl (by clear HI ha; go_simp) (hK.out _ _ ⟨upk ha 0 hb rfl rfl, HI.low 0 (by decide)⟩)) ?_
            refine steps_cons (by rintro b a w' ⟨ha, HI⟩ hb hon hoff; refine ⟨_, rfl, fun K hK => ?_⟩; have e6 := poff ha (t := 6) rfl rfl; exact value_ (v := .pointer (some ⟨p, 1, none⟩)) (by rfl) rfl (by clear HI ha; go_simp) (hK.out _ _ ⟨upk ha 1 hb rfl rfl, HI.low 1 (by decide)⟩)) ?_
            refine steps_cons (by rintro b a w' ⟨ha, HI⟩ hb hon hoff; refine ⟨_, rfl, fun K hK => ?_⟩; have e38 := pon ha 1 (hon 1 rfl) rfl rfl rfl; obtain ⟨k1_, k2_, kz_⟩ := L1.out _ _ _ HI.t; exact value_ (v := .int .i64 d1) (by rfl) rfl (by clear HI ha; go_simp) (hK.out _ _ ⟨upk ha 2 hb rfl rfl, HI.low 2 (by decide)⟩)) ?_
            refine steps_cons (by rintro b a w' ⟨ha, HI⟩ hb hon hoff; refine ⟨_, rfl, fun K hK => ?_⟩; have e6 := poff ha (t := 6) rfl rfl; exact value_ (v := .pointer (some ⟨p, 2, none⟩)) (by rfl) rfl (by clear HI ha; go_simp) (hK.out _ _ ⟨upk ha 3 hb rfl rfl, HI.low 3 (by decide)⟩)) ?_
            refine steps_cons (by rintro b a w' ⟨ha, HI⟩ hb hon hoff; refine ⟨_, rfl, fun K hK => ?_⟩; have e40 := pon ha 3 (hon 3 rfl) rfl rfl rfl; obtain ⟨k1_, k2_, kz_⟩ := L1.out _ _ _ HI.t; exact value_ (v := .int .i64 d2) (by rfl) rfl (by clear HI ha; go_simp) (hK.out _ _ ⟨upk ha 4 hb rfl rfl, HI.low 4 (by decide)⟩)) ?_
            refine steps_cons (by rintro b a w' ⟨ha, HI⟩ hb hon hoff; refine ⟨_, rfl, fun K hK => ?_⟩; have e37 := pon ha 0 (hon 0 rfl) rfl rfl rfl; have e39 := pon ha 2 (hon 2 rfl) rfl rfl rfl; have e41 := pon ha 4 (hon 4 rfl) rfl rfl rfl; refine goes_ Try.func10 (by kernel_rfl) rfl #[.pointer (some ⟨gq, 0, none⟩), .int .i64 d1, .int .i64 d2] (by rfl) rfl rfl (by simp [Act.eval, e37, e39, e41]) ((C1.out b w' hb HI).mono ?_); rintro e_ w'' ⟨rfl, hn_⟩; exact ⟨_, rfl, hK.out _ _ ⟨upk ha 5 hb rfl rfl, hn_⟩⟩) ?_
            refine steps_cons (by rintro b a w' ⟨ha, HI⟩ hb hon hoff; refine ⟨_, rfl, fun K hK => ?_⟩; have e4 := poff ha (t := 4) rfl rfl; exact value_ (v := .pointer (some ⟨gr, 0, none⟩)) (by rfl) rfl (by clear HI ha; go_simp) (hK.out _ _ ⟨upk ha 6 hb rfl rfl, HI.low 6 (by decide)⟩)) ?_
            refine steps_cons (by rintro b a w' ⟨ha, HI⟩ hb hon hoff; refine ⟨_, rfl, fun K hK => ?_⟩; have e6 := poff ha (t := 6) rfl rfl; exact value_ (v := .pointer (some ⟨p, 1, none⟩)) (by rfl) rfl (by clear HI ha; go_simp) (hK.out _ _ ⟨upk ha 7 hb rfl rfl, HI.low 7 (by decide)⟩)) ?_
            refine steps_cons (by rintro b a w' ⟨ha, HI⟩ hb hon hoff; refine ⟨_, rfl, fun K hK => ?_⟩; have e44 := pon ha 7 (hon 7 rfl) rfl rfl rfl; obtain ⟨k1_, k2_, kz_⟩ := L1.out _ _ _ HI.t; exact value_ (v := .int .i64 d1) (by rfl) rfl (by clear HI ha; go_simp) (hK.out _ _ ⟨upk ha 8 hb rfl rfl, HI.low 8 (by decide)⟩)) ?_
            refine steps_cons (by rintro b a w' ⟨ha, HI⟩ hb hon hoff; refine ⟨_, rfl, fun K hK => ?_⟩; have e6 := poff ha (t := 6) rfl rfl; exact value_ (v := .pointer (some ⟨p, 2, none⟩)) (by rfl) rfl (by clear HI ha; go_simp) (hK.out _ _ ⟨upk ha 9 hb rfl rfl, HI.low 9 (by decide)⟩)) ?_
            refine steps_cons (by rintro b a w' ⟨ha, HI⟩ hb hon hoff; refine ⟨_, rfl, fun K hK => ?_⟩; have e46 := pon ha 9 (hon 9 rfl) rfl rfl rfl; obtain ⟨k1_, k2_, kz_⟩ := L1.out _ _ _ HI.t; exact value_ (v := .int .i64 d2) (by rfl) rfl (by clear HI ha; go_simp) (hK.out _ _ ⟨upk ha 10 hb rfl rfl, HI.low 10 (by decide)⟩)) ?_
            refine steps_cons (by rintro b a w' ⟨ha, HI⟩ hb hon hoff; refine ⟨_, rfl, fun K hK => ?_⟩; have e43 := pon ha 6 (hon 6 rfl) rfl rfl rfl; have e45 := pon ha 8 (hon 8 rfl) rfl rfl rfl; have e47 := pon ha 10 (hon 10 rfl) rfl rfl rfl; refine goes_ Try.func11 (by kernel_rfl) rfl #[.pointer (some ⟨gr, 0, none⟩), .int .i64 d1, .int .i64 d2] (by rfl) rfl rfl (by simp [Act.eval, e43, e45, e47]) ((C2.out b w' hb HI).mono ?_); rintro e_ w'' ⟨rfl, hn_⟩; exact ⟨_, rfl, hK.out _ _ ⟨upk ha 11 hb rfl rfl, hn_⟩⟩) ?_
            refine steps_cons (by rintro b a w' ⟨ha, HI⟩ hb hon hoff; refine ⟨_, rfl, fun K hK => ?_⟩; have e42 := pon ha 5 (hon 5 rfl) rfl rfl rfl; have e48 := pon ha 11 (hon 11 rfl) rfl rfl rfl; exact value_ (v := .bool false) (by rfl) rfl (by clear HI ha; go_simp) (hK.out _ _ ⟨upk ha 12 hb rfl rfl, HI.low 12 (by decide)⟩)) ?_
            exact steps_nil
          · rintro b a w' hall ⟨ha, HI⟩
            have hb0_ := hall 0 rfl; have hb1_ := hall 1 rfl; have hb2_ := hall 2 rfl; have hb3_ := hall 3 rfl; have hb4_ := hall 4 rfl; have hb5_ := hall 5 rfl; have hb6_ := hall 6 rfl; have hb7_ := hall 7 rfl
            have hb8_ := hall 8 rfl; have hb9_ := hall 9 rfl; have hb10_ := hall 10 rfl; have hb11_ := hall 11 rfl; have hb12_ := hall 12 rfl
            subst ha
            simp only [putSel, hb0_, hb1_, hb2_, hb3_, hb4_, hb5_, hb6_, hb7_, hb8_, hb9_, hb10_, hb11_, hb12_, if_true, Act.put, List.setIfInBounds_toArray, List.set_cons_zero, List.set_cons_succ]
            have hT := HI.t
            rw [hb5_, hb11_, if_pos rfl] at hT
            clear hall HI hb0_ hb1_ hb2_ hb3_ hb4_ hb5_ hb6_ hb7_ hb8_ hb9_ hb10_ hb11_ hb12_
            refine ‹∀ (a' : Act) (w' : World), Met _ a' w' → _› _ _ ?_
            go_meet
            case rel => exact ⟨rfl, ⟨hT⟩⟩
        case rest =>
        obtain ⟨rfl, T9⟩ := hcut
        clear C1 C2 H0 L1
        obtain ⟨wq, hwq⟩ : ∃ wq : World, wq = wc := ⟨_, rfl⟩
        rw [← hwq] at T9 ⊢
        clear hwq
        go_step
        go_wp2_with fail
        refine (List_st T9.out.st (by have := HLEN.out; omega)).mono ?_
        rintro e w10 ⟨a12, c12, rfl, r12, s12, b12⟩
        have T10 := Side.mk (T9.out.below b12)
        have R12 := Side.mk r12
        clear r12 s12 b12 T9
        obtain ⟨vq, hrq⟩ := T10.out.rq
        obtain ⟨aq, cq, rfl⟩ := Row.shape hrq.row
        have hqc := hrq.cell
        have hql := hrq.lt
        clear hrq
        go_wp2_with fail
        clear hqc hql
        go_loopw [13] (fun v13 wr2 => ∃ k : Nat, v13 = .int .i64 (k : Int) ∧ k ≤ ys.length ∧ Side (Two w wr2 gq gr p dd ys ys ∧ ∃ B, Row wr2 B 41 (.slice a12 ys.length c12) ys)) (fun v13 _ => (ys.length - intOf v13).toNat)
        case atStart => exact ⟨0, rfl, Nat.zero_le _, ⟨T10.out, _, R12.out⟩⟩
        case round =>
          clear T10 R12
          obtain ⟨k, rfl, hk, HT⟩ := hrel
          have hk0 : (0 : Int) ≤ k := by omega
          obtain ⟨wz, hwz⟩ : ∃ wz : World, wz = wr := ⟨_, rfl⟩
          rw [← hwz] at HT ⊢
          clear hwz
          by_cases hklt : k < ys.length
          · have hkk : (k : Int) < ys.length := by omega
            have hk1 : (k : Int) + 1 ≤ 9223372036854775807 := by have := HLEN.out; omega
            obtain ⟨x, hx⟩ : ∃ x, ys[k]? = some x := ⟨_, List.getElem?_eq_getElem hklt⟩
            obtain ⟨B12, hr12⟩ := HT.out.2
            rcases hr12.read with ⟨_, h0⟩ | ⟨g2, cap2, hv, _, hg2, _, _, hcs⟩
            · rw [h0] at hklt; simp at hklt
            simp at hv
            obtain ⟨rfl, rfl⟩ := hv
            obtain ⟨e0, e1⟩ := hcs k x hx
            clear hcs hr12
            obtain ⟨vq, hrq⟩ := HT.out.1.rq
            rcases hrq.row.read with ⟨_, h0⟩ | ⟨g3, cap3, rfl, _, hg3, _, _, hcs⟩
            · rw [h0] at hklt; simp at hklt
            obtain ⟨f0, f1⟩ := hcs k x hx
            have hqc := hrq.cell
            have hql := hrq.lt
            clear hcs hrq hx
            obtain ⟨x1, x2⟩ := x
            have e0 : wz.cell? ⟨g2, k * 2, none⟩ = some (.int .i64 x1) := e0
            have e1 : wz.cell? ⟨g2, k * 2 + 1, none⟩ = some (.int .i64 x2) := e1
            have f0 : wz.cell? ⟨g3, k * 2, none⟩ = some (.int .i64 x1) := f0
            have f1 : wz.cell? ⟨g3, k * 2 + 1, none⟩ = some (.int .i64 x2) := f1
            go_upto_region 30 with (fail)
            go_quiet (fail)
            have HT2 : Side (Two w (wz.drewN nq) gq gr p dd ys ys ∧ ∃ B, Row (wz.drewN nq) B 41 (.slice (some ⟨g2, 0, none⟩) ys.length c12) ys) := ⟨HT.out.1.below (below_drewN (Below.refl _ _) nq), by obtain ⟨B', h'⟩ := HT.out.2; exact ⟨B', Row.below h' (below_drewN (Below.refl _ _) nq)⟩⟩
            clear HT e0 e1 f0 f1 hqc hql hg2 hg3
            go_wp2
            go_roundw
            case rel => exact ⟨k + 1, by simp, by omega, HT2⟩
            case measure => simp [intOf]; omega
          · have hkk : ¬ (k : Int) < ys.length := by omega
            have HT2 := Side.mk HT.out.1
            clear HT
            go_wp2
            go_roundw
            case rel => exact ⟨i + 1, ys, by simp, by omega, HPOS, HLEN, ⟨HT2.out.fin⟩⟩
            case measure => simp [intOf]; omega

      · obtain ⟨n, hn⟩ : ∃ n, many d2 xs.length = n := ⟨_, rfl⟩
        obtain ⟨os, hos⟩ : ∃ os, over n xs = os := ⟨_, rfl⟩
        obtain ⟨ys, hys⟩ : ∃ ys, left (decr n xs) = ys := ⟨_, rfl⟩
        have HPOS : Side (Pos ys) := ⟨by rw [← hys]; exact HPOS0.out.give n⟩
        have HLEN : Side (ys.length ≤ 64) := ⟨by rw [← hys]; exact give_len HLEN0.out n⟩
        have HOL : os.length ≤ 64 := by
          rw [← hos]
          unfold over
          rw [List.length_map]
          have h1 := List.length_filter_le (fun x : It => x.2 == 1) (xs.take n)
          have h2 : (xs.take n).length ≤ xs.length := by simp; omega
          have := HLEN0.out
          omega
        have CG := Side.mk (Give_st T5.out.st (by have := HLEN0.out; omega) HPOS0.out d2 n os ys hn hos hys)
        go_wp2_with fail
        refine CG.out.mono ?_
        rintro e w6 ⟨a7, c7, rfl, i7, s7, f7⟩
        have T6 := Side.mk (T5.out.one s7 f7)
        have I7 := Side.mk i7
        clear i7 s7 f7 T5 CG e0 e1 e2 hpl
        obtain ⟨vr, hvr⟩ := T6.out.rq
        have CR := Side.mk (RGive_at w6 w.heap.size gr vr xs hvr (by have := HLEN0.out; omega) HPOS0.out d2 T6.out.st.below.size)
        rw [hn, hos, hys] at CR
        clear hn hos hys hvr
        have hpl := T6.out.vl.lt
        have e2 : w6.cell? ⟨p, 2, none⟩ = some (.int .i64 d2) := T6.out.vl.cell 2 _ (by rw [HD.out]; rfl)
        go_wp2_with fail
        refine CR.out.mono ?_
        rintro e w7 ⟨vo, rfl, i8, r8⟩
        have T9 := Side.mk (T6.out.two r8)
        have I9 : Side (∃ B, IRow w7 B (.slice a7 os.length c7) os) := ⟨_, IRow.move I7.out fun k hk => by
          obtain ⟨v', hv', hc⟩ := r8
          obtain ⟨vr, hvr⟩ := T6.out.rq
          obtain ⟨cur, h2⟩ := Go.Proofs.YtlmckindacnkoaaW.PrintWords.own_typed I7.out k hk
          refine hc.block k (IRow.lt I7.out k hk) fun e => ?_
          have h1 := hvr.box
          rw [← e, h2] at h1
          simp at h1⟩
        have I10 : Side (∃ B, IRow w7 B vo os) := ⟨_, i8⟩
        obtain ⟨a8, c8, rfl⟩ := IRow.shape i8
        clear r8 i8 T6 I7 CR HPOS0 HLEN0 e2 hpl
        go_wp2_with fail
        go_loopw [11] (fun v11 wr2 => ∃ k : Nat, v11 = .int .i64 (k : Int) ∧ k ≤ os.length ∧ Side (Two w wr2 gq gr p dd ys ys ∧ (∃ B, IRow wr2 B (.slice a7 os.length c7) os) ∧ ∃ B, IRow wr2 B (.slice a8 os.length c8) os)) (fun v11 _ => (os.length - intOf v11).toNat)
        case atStart => exact ⟨0, rfl, Nat.zero_le _, ⟨T9.out, I9.out, I10.out⟩⟩
        case round =>
          clear T9 I9 I10
          obtain ⟨k, rfl, hk, HT⟩ := hrel
          have hk0 : (0 : Int) ≤ k := by omega
          obtain ⟨wq, hwq⟩ : ∃ wq : World, wq = wr := ⟨_, rfl⟩
          rw [← hwq] at HT ⊢
          clear hwq
          by_cases hklt : k < os.length
          · have hkk : (k : Int) < os.length := by omega
            have hk1 : (k : Int) + 1 ≤ 9223372036854775807 := by omega
            obtain ⟨x, hx⟩ : ∃ x, os[k]? = some x := ⟨_, List.getElem?_eq_getElem hklt⟩
            have hne : os ≠ [] := by rintro rfl; simp at hklt
            obtain ⟨B1, h1⟩ := HT.out.2.1
            obtain ⟨B2, h2⟩ := HT.out.2.2
            obtain ⟨g1, rfl, hg1, -, -, r1⟩ := IRow.get h1 hne
            obtain ⟨g2, rfl, hg2, -, -, r2⟩ := IRow.get h2 hne
            have x1 := r1 k x hx
            have x2 := r2 k x hx
            clear r1 r2 h1 h2 hx hne
            go_upto_region 22 with (fail)
            go_quiet (fail)
            have HT2 : Side (Two w (wq.drewN nq) gq gr p dd ys ys ∧ (∃ B, IRow (wq.drewN nq) B (.slice (some ⟨g1, 0, none⟩) os.length c7) os) ∧ ∃ B, IRow (wq.drewN nq) B (.slice (some ⟨g2, 0, none⟩) os.length c8) os) := ⟨HT.out.1.below (below_drewN (Below.refl _ _) nq), HT.out.2⟩
            clear HT x1 x2 hg1 hg2
            go_wp2
            go_roundw
            case rel => exact ⟨k + 1, by simp, by omega, HT2⟩
            case measure => simp [intOf]; omega
          · have hkk : ¬ (k : Int) < os.length := by omega
            have T9 := Side.mk HT.out.1
            clear HT
            go_wp2_with fail
            refine (List_st T9.out.st (by have := HLEN.out; omega)).mono ?_
            rintro e w10 ⟨a12, c12, rfl, r12, s12, b12⟩
            have T10 := Side.mk (T9.out.below b12)
            have R12 := Side.mk r12
            clear r12 s12 b12 T9
            obtain ⟨vq, hrq⟩ := T10.out.rq
            obtain ⟨aq, cq, rfl⟩ := Row.shape hrq.row
            have hqc := hrq.cell
            have hql := hrq.lt
            clear hrq
            go_wp2_with fail
            clear hqc hql
            go_loopw [13] (fun v13 wr2 => ∃ k : Nat, v13 = .int .i64 (k : Int) ∧ k ≤ ys.length ∧ Side (Two w wr2 gq gr p dd ys ys ∧ ∃ B, Row wr2 B 41 (.slice a12 ys.length c12) ys)) (fun v13 _ => (ys.length - intOf v13).toNat)
            case atStart => exact ⟨0, rfl, Nat.zero_le _, ⟨T10.out, _, R12.out⟩⟩
            case round =>
              clear T10 R12
              obtain ⟨k, rfl, hk, HT⟩ := hrel
              have hk0 : (0 : Int) ≤ k := by omega
              obtain ⟨wz, hwz⟩ : ∃ wz : World, wz = wr := ⟨_, rfl⟩
              rw [← hwz] at HT ⊢
              clear hwz
              by_cases hklt : k < ys.length
              · have hkk : (k : Int) < ys.length := by omega
                have hk1 : (k : Int) + 1 ≤ 9223372036854775807 := by have := HLEN.out; omega
                obtain ⟨x, hx⟩ : ∃ x, ys[k]? = some x := ⟨_, List.getElem?_eq_getElem hklt⟩
                obtain ⟨B12, hr12⟩ := HT.out.2
                rcases hr12.read with ⟨_, h0⟩ | ⟨g2, cap2, hv, _, hg2, _, _, hcs⟩
                · rw [h0] at hklt; simp at hklt
                simp at hv
                obtain ⟨rfl, rfl⟩ := hv
                obtain ⟨e0, e1⟩ := hcs k x hx
                clear hcs hr12
                obtain ⟨vq, hrq⟩ := HT.out.1.rq
                rcases hrq.row.read with ⟨_, h0⟩ | ⟨g3, cap3, rfl, _, hg3, _, _, hcs⟩
                · rw [h0] at hklt; simp at hklt
                obtain ⟨f0, f1⟩ := hcs k x hx
                have hqc := hrq.cell
                have hql := hrq.lt
                clear hcs hrq hx
                obtain ⟨x1, x2⟩ := x
                have e0 : wz.cell? ⟨g2, k * 2, none⟩ = some (.int .i64 x1) := e0
                have e1 : wz.cell? ⟨g2, k * 2 + 1, none⟩ = some (.int .i64 x2) := e1
                have f0 : wz.cell? ⟨g3, k * 2, none⟩ = some (.int .i64 x1) := f0
                have f1 : wz.cell? ⟨g3, k * 2 + 1, none⟩ = some (.int .i64 x2) := f1
                go_upto_region 30 with (fail)
                go_quiet (fail)
                have HT2 : Side (Two w (wz.drewN nq) gq gr p dd ys ys ∧ ∃ B, Row (wz.drewN nq) B 41 (.slice (some ⟨g2, 0, none⟩) ys.length c12) ys) := ⟨HT.out.1.below (below_drewN (Below.refl _ _) nq), by obtain ⟨B', h'⟩ := HT.out.2; exact ⟨B', Row.below h' (below_drewN (Below.refl _ _) nq)⟩⟩
                clear HT e0 e1 f0 f1 hqc hql hg2 hg3
                go_wp2
                go_roundw
                case rel => exact ⟨k + 1, by simp, by omega, HT2⟩
                case measure => simp [intOf]; omega
              · have hkk : ¬ (k : Int) < ys.length := by omega
                have HT2 := Side.mk HT.out.1
                clear HT
                go_wp2
                go_roundw
                case rel => exact ⟨i + 1, ys, by simp, by omega, HPOS, HLEN, ⟨HT2.out.fin⟩⟩
                case measure => simp [intOf]; omega

    · have hii : ¬ (i : Int) < len := by omega
      go_wp2
      go_ret
      exact ⟨rfl, HB.out.st.below⟩
end Go.Proofs.Ytlmckindacnkoaa.SlU

/- LedgerOrders: the law's own walk. No condition. -/
import Derived.Test.YtfgmenndmcjggaaLOrdA
set_option linter.unusedVariables false
set_option linter.unusedSimpArgs false
namespace Go.Proofs.Ytfgmenndmcjggaa.LOrders
open Go.RowKit Go.Proofs.Ytfgmenndmcjggaa.Kit Go.Proofs.Ytfgmenndmcjggaa.Kit2 Go.Proofs.Ytfgmenndmcjggaa.Kit3 Go.Proofs.Ytfgmenndmcjggaa.Kit4 Go.Proofs.Ytfgmenndmcjggaa.LeP Go.Maps Go.Proofs.Ytfgmenndmcjggaa.LeA Go.Proofs.Ytfgmenndmcjggaa.LeF Go.Proofs.Ytfgmenndmcjggaa.LeH Go.Proofs.Ytfgmenndmcjggaa.LeK Go.Proofs.Ytfgmenndmcjggaa.LFills Go.Proofs.Ytfgmenndmcjggaa.LKnA Go.Proofs.Ytfgmenndmcjggaa.LOrdA
open Go.Proofs.Ytfgmenndmcjggaa.PR WhPlain RaPlain Go.Proofs.Ytfgmenndmcjggaa.RaK
open Go.Proofs.YtfgmenndmcjggaaW.PrintLast
theorem InRow.below {ks : List CK} {W W' : World} {a : Option Addr} {len : Nat} {V : Nat → Nat → Value} (h : InRow ks W a len V) (hb : Below W.heap.size W W') : InRow ks W' a len V := by
  obtain ⟨b, off, h1, h2⟩ := h
  refine ⟨b, off, fun h0 => ⟨(h1 h0).1, Nat.lt_of_lt_of_le (h1 h0).2 hb.size⟩, fun i hi j c hj => ⟨?_, (h2 i hi j c hj).2⟩⟩
  rw [(bcell hb).1 b _ (h1 (by omega)).2]
  exact (h2 i hi j c hj).1
/-- While weights are added. -/
structure Up (W w : World) (V : Nat → Nat → Value) (len T s1 s2 i : Nat) (A B : List Wt) : Prop where
  l : L2 W w ⟨s1 + 2, s1, s1 + 1, i, 64, A⟩ ⟨s2 + 2, s2, s2 + 1, i, 64, B⟩
  a : Hold V len (fun j => j < i) A
  b : Hold V len (fun j => ∃ r, r < i ∧ j = (r + T) % len) B
  al : A.length = i
  bl : B.length = i
theorem rot_new {len T i : Nat} (hi : i < len) : ¬ ∃ r, r < i ∧ (i + T) % len = (r + T) % len := by
  rintro ⟨r, hr, he⟩
  have h1 : (i - r) % len = 0 := by
    have h2 : (r + T + (i - r)) % len = (r + T) % len := by rw [← he]; congr 1; omega
    have h3 := Nat.sub_mod_eq_zero_of_mod_eq h2
    rw [Nat.add_sub_cancel_left] at h3
    exact h3
  rw [Nat.mod_eq_of_lt (by omega)] at h1
  omega
theorem rot_all {len T j : Nat} (hj : j < len) : ∃ r, r < len ∧ j = (r + T) % len := by
  have h0 : T % len < len := Nat.mod_lt _ (by omega)
  refine ⟨(j + (len - T % len)) % len, Nat.mod_lt _ (by omega), ?_⟩
  rw [Nat.mod_add_mod, ← Nat.add_mod_mod (j + (len - T % len)) T len, show j + (len - T % len) + T % len = j + len by omega, Nat.add_mod_right, Nat.mod_eq_of_lt hj]
/-- While those of even number are dropped. -/
structure Dn (W w : World) (V : Nat → Nat → Value) (len s1 s2 N : Nat) (P Q : Nat → Prop) (A B : List Wt) : Prop where
  l : L2 W w ⟨s1 + 2, s1, s1 + 1, N, 64, A⟩ ⟨s2 + 2, s2, s2 + 1, N, 64, B⟩
  a : Hold V len P A
  b : Hold V len Q B
theorem Dn.up {W w : World} {V : Nat → Nat → Value} {len s1 s2 N : Nat} {P Q P' Q' : Nat → Prop} {A B : List Wt} (h : Dn W w V len s1 s2 N P Q A B) (hp : ∀ j, j < len → (P j ↔ P' j)) (hq : ∀ j, j < len → (Q j ↔ Q' j)) : Dn W w V len s1 s2 N P' Q' A B := ⟨h.l, h.a.congr hp, h.b.congr hq⟩
theorem L2.up {W w : World} {x y : Ld} (h : L2 W w x y) (n m : Nat) (hn : x.n ≤ n) (hm : y.n ≤ m) : L2 W w { x with n := n } { y with n := m } := ⟨St.up h.sx hn, St.up h.sy hm, h.xy⟩
theorem DropA {W w : World} {V : Nat → Nat → Value} {len s1 s2 N : Nat} {P Q : Nat → Prop} {A B : List Wt} (h : Dn W w V len s1 s2 N P Q A B) (hN : N < 1000000) (i : Nat) (hi : i < 1000) (b : Bool) (hb : LeP.has A (i : Int) = b) :
    Calls Try.prog 13 #[.pointer (some ⟨s1 + 2, 0, none⟩), .int .i64 i] w fun r w' => r = .returned (.bool b) ∧ Dn W w' V len s1 s2 (N + 1) (fun j => P j ∧ j ≠ i) Q (drp A (i : Int)) B := by
  refine (DropS h.l.sx hN (i : Int) (wf_of (by omega) (by omega)) b hb _ rfl).mono ?_
  rintro r w' ⟨rfl, hs, hc⟩
  exact ⟨rfl, ⟨L2.up (h.l.step (N + 1) _ hs hc) (N + 1) (N + 1) (Nat.le_refl _) (Nat.le_succ _), h.a.drop i, h.b⟩⟩
theorem DropB {W w : World} {V : Nat → Nat → Value} {len s1 s2 N : Nat} {P Q : Nat → Prop} {A B : List Wt} (h : Dn W w V len s1 s2 N P Q A B) (hN : N < 1000000) (i : Nat) (hi : i < 1000) (b : Bool) (hb : LeP.has B (i : Int) = b) :
    Calls Try.prog 13 #[.pointer (some ⟨s2 + 2, 0, none⟩), .int .i64 i] w fun r w' => r = .returned (.bool b) ∧ Dn W w' V len s1 s2 (N + 1) P (fun j => Q j ∧ j ≠ i) A (drp B (i : Int)) := by
  refine (DropS h.l.sy hN (i : Int) (wf_of (by omega) (by omega)) b hb _ rfl).mono ?_
  rintro r w' ⟨rfl, hs, hc⟩
  exact ⟨rfl, ⟨L2.up (h.l.rot.step (N + 1) _ hs hc).rot (N + 1) (N + 1) (Nat.le_succ _) (Nat.le_refl _), h.a, h.b.drop i⟩⟩
set_option maxHeartbeats 4000000 in
set_option maxRecDepth 100000 in
theorem walk (ar : Option Addr) (len cap : Nat) (V : Nat → Nat → Value) (t : Int) (w : World) (hrow : InRow AK w ar len V) (hlen : len ≤ maxLen) (wt : (Lit.int .u8 t).wf = true) :
    Calls Try.prog 6 #[.slice ar len cap, .int .u8 t] w fun r w' => r = .returned (.bool true) ∧ Below w.heap.size w w' := by
  have ht := isu8 wt
  have hl64 : (len : Int) ≤ 9223372036854775807 := by unfold maxLen at hlen; omega
  have HROW := Side.mk hrow
  clear hrow hlen wt
  obtain ⟨W0, hW0⟩ : ∃ W0, W0 = w.alloc (.cells #[.slice ar len cap] 47) := ⟨_, rfl⟩
  have HB0 : Side (Below w.heap.size w W0) := ⟨by rw [hW0]; exact (Below.refl _ w).alloc (Nat.le_refl _) _⟩
  have HX0 : Side (W0.cell? ⟨w.heap.size, 0, none⟩ = some (.slice ar len cap) ∧ w.heap.size < W0.heap.size) := ⟨by rw [hW0]; exact ⟨cell_of_row _ _ 0 _ _ (0, 0) (heap_alloc_new w _), by simp⟩⟩
  have HR0 : Side (InRow AK W0 ar len V) := ⟨InRow.below HROW.out HB0.out⟩
  have HW0 := Side.mk hW0
  clear hW0 HROW
  go_enter Try.func6, Try.ntmps6
  go_upto_region 1 with (fail)
  rw [← HW0.out]
  clear HW0
  obtain ⟨kb, hkb⟩ : ∃ kb, kb = w.heap.size := ⟨_, rfl⟩
  rw [← hkb] at HX0 ⊢
  clear hkb
  go_upto_region 3 with (go_at_call 7; (with_reducible refine (AwakeC _).out.mono ?_); rintro e W ⟨rfl, hb1⟩)
  have HB : Side (Below w.heap.size w W) := ⟨below_then HB0.out HB0.out.size hb1⟩
  have HRW : Side (InRow AK W ar len V) := ⟨InRow.below HR0.out hb1⟩
  have hkc : W.cell? ⟨kb, 0, none⟩ = some (.slice ar len cap) := ((bcell hb1).1 kb 0 HX0.out.2).trans HX0.out.1
  have hkl : kb < W.heap.size := Nat.lt_of_lt_of_le HX0.out.2 hb1.size
  clear HB0 HR0 HX0 hb1
  by_cases h0 : len = 0
  · subst h0
    go_wp2
    go_ret
    exact ⟨rfl, HB.out⟩
  · have h0i : ¬ (len : Int) = 0 := by omega
    by_cases hbig : 60 < len
    · have hbi : (len : Int) > 60 := by omega
      go_wp2
      go_ret
      exact ⟨rfl, HB.out⟩
    · have hbi : ¬ (len : Int) > 60 := by omega
      go_upto_region 9 with (first
        | (go_at_call 8; (with_reducible refine (NewS (Below.refl W.heap.size W) 64 64 (by decide)).mono ?_); rintro e w2 ⟨rfl, hs2, hb2⟩)
        | (go_at_call 8; (with_reducible refine (NewS hs2.below 64 64 (by decide)).mono ?_); rintro e w3 ⟨rfl, hs3, hb3⟩))
      obtain ⟨T, hT⟩ : ∃ T : Nat, (T : Int) = t := ⟨t.toNat, by omega⟩
      have HU : Side (Up W w3 V len T W.heap.size w2.heap.size 0 [] []) := ⟨⟨L2.new (s1 := W.heap.size) hs2 rfl hs3 hb3, Hold.nil.congr (fun j _ => by simp), Hold.nil.congr (fun j _ => by simp), rfl, rfl⟩⟩
      clear hs2 hs3 hb2 hb3
      obtain ⟨s1, hs1⟩ : ∃ s1, s1 = W.heap.size := ⟨_, rfl⟩
      obtain ⟨s2, hs2⟩ : ∃ s2, s2 = w2.heap.size := ⟨_, rfl⟩
      rw [← hs1, ← hs2] at HU ⊢
      clear hs1 hs2
      go_wp2_with fail
      go_loopw [8] (fun v8 wr => ∃ (i : Nat) (A B : List Wt), v8 = .int .i64 (i : Int) ∧ i ≤ len ∧ Side (Up W wr V len T s1 s2 i A B)) (fun v8 _ => (len - intOf v8).toNat)
      case atStart => exact ⟨0, [], [], rfl, by omega, HU⟩
      case round =>
        clear HU
        obtain ⟨i, A, B, rfl, hi, HU⟩ := hrel
        have hi0 : (0 : Int) ≤ i := by omega
        have hkcr : wr.cell? ⟨kb, 0, none⟩ = some (.slice ar len cap) := ((bcell HU.out.l.sx.below).1 kb 0 hkl).trans hkc
        have hklr : kb < wr.heap.size := Nat.lt_of_lt_of_le hkl HU.out.l.sx.below.size
        by_cases hlt : i < len
        · have hii : (i : Int) < len := by omega
          have hi1 : (i : Int) + 1 ≤ 9223372036854775807 := by omega
          have CA := AddCl HRW.out (by omega) kb hkc hkl HU.out.l rfl (by show i < 1000000; omega) HU.out.a (by show A.length < 64; rw [HU.out.al]; omega) i hlt (by omega)
          go_wp2_with fail
          refine CA.mono ?_
          rintro e w4 ⟨rfl, h4⟩
          have H4 := Side.mk h4
          clear CA h4 hkcr hklr
          have hkcr : w4.cell? ⟨kb, 0, none⟩ = some (.slice ar len cap) := ((bcell H4.out.sx.below).1 kb 0 hkl).trans hkc
          have hklr : kb < w4.heap.size := Nat.lt_of_lt_of_le hkl H4.out.sx.below.size
          have CB := AddCl HRW.out (by omega) kb hkc hkl H4.out.rot rfl (by show i < 1000000; omega) HU.out.b (by show B.length < 64; rw [HU.out.bl]; omega) ((i + T) % len) (Nat.mod_lt _ (by omega)) (rot_new hlt)
          go_wp2_with fail
          rw [show ((i : Int) + t) % (len : Int) = (((i + T) % len : Nat) : Int) by rw [← hT]; simp]
          refine CB.mono ?_
          rintro e w5 ⟨rfl, h5⟩
          have H5 : Side (Up W w5 V len T s1 s2 (i + 1) (A ++ [it V i]) (B ++ [it V ((i + T) % len)])) := ⟨⟨h5.rot, (HU.out.a.add i hlt (by omega)).congr (fun j _ => by omega), (HU.out.b.add _ (Nat.mod_lt _ (by omega)) (rot_new hlt)).congr (fun j _ => ⟨?_, ?_⟩), by rw [List.length_append, HU.out.al]; rfl, by rw [List.length_append, HU.out.bl]; rfl⟩⟩
          · clear h5 CB HU hkcr hklr H4
            go_wp2
            go_roundw
            case rel => exact ⟨i + 1, _, _, by simp, by omega, H5⟩
            case measure => simp [intOf]; omega
          · rintro (⟨r, hr, he⟩ | he)
            · exact ⟨r, by omega, he⟩
            · exact ⟨i, by omega, he⟩
          · rintro ⟨r, hr, he⟩
            rcases Nat.lt_or_ge r i with h | h
            · exact .inl ⟨r, h, he⟩
            · obtain rfl : r = i := by omega
              exact .inr he
        · have hii : ¬ (i : Int) < len := by omega
          obtain rfl : i = len := by omega
          clear hlt hi hi0
          have HD : Side (Dn W wr V i s1 s2 i (fun _ => True) (fun _ => True) A B) := ⟨⟨HU.out.l, HU.out.a.congr (fun j hj => by simp [hj]), HU.out.b.congr (fun j hj => by simp [rot_all hj])⟩⟩
          clear HU
          go_wp2_with fail
          obtain ⟨wo, hwo⟩ : ∃ wo : World, wo = wr := ⟨_, rfl⟩
          rw [← hwo] at HD hkcr ⊢
          clear hwo hkcr hklr
          go_loopw [9] (fun v9 wr => ∃ (j N : Nat) (A : List Wt), v9 = .int .i64 (j : Int) ∧ j % 2 = 0 ∧ j ≤ i + 1 ∧ N ≤ 60 + j ∧ Side (Dn W wr V i s1 s2 N (fun r => ¬ (r % 2 = 0 ∧ r < j)) (fun _ => True) A B)) (fun v9 _ => (i + 1 - intOf v9).toNat)
          case atStart => exact ⟨0, i, A, rfl, rfl, by omega, by omega, ⟨HD.out.up (fun j _ => by simp) (fun j _ => Iff.rfl)⟩⟩
          case round =>
            clear HD
            obtain ⟨j, N, A, rfl, hj2, hj, hN, HD⟩ := hrel
            have hj0 : (0 : Int) ≤ j := by omega
            have hkcr : wr.cell? ⟨kb, 0, none⟩ = some (.slice ar i cap) := ((bcell HD.out.l.sx.below).1 kb 0 hkl).trans hkc
            have hklr : kb < wr.heap.size := Nat.lt_of_lt_of_le hkl HD.out.l.sx.below.size
            by_cases hlt : j < i
            · have hii : (j : Int) < i := by omega
              have hi1 : (j : Int) + 2 ≤ 9223372036854775807 := by omega
              obtain ⟨bh, hbh⟩ : ∃ bh, LeP.has A (j : Int) = bh := ⟨_, rfl⟩
              go_wp2_with fail
              refine (DropA HD.out (by omega) j (by omega) bh hbh).mono ?_
              rintro e w5 ⟨rfl, h5⟩
              have H5 := Side.mk (h5.up (P' := fun r => ¬ (r % 2 = 0 ∧ r < j + 2)) (fun r _ => by omega) (fun r _ => Iff.rfl))
              clear h5 HD hkcr hklr
              go_wp2
              go_roundw
              case rel => exact ⟨j + 2, N + 1, _, by simp, by omega, by omega, by omega, H5⟩
              case measure => simp [intOf]; omega
            · have hii : ¬ (j : Int) < i := by omega
              have HE := Side.mk (HD.out.up (P' := fun r => r % 2 = 1) (Q' := fun _ => True) (fun r hr => by omega) (fun r _ => Iff.rfl))
              clear HD
              go_wp2_with fail
              obtain ⟨wo2, hwo⟩ : ∃ wo : World, wo = wr := ⟨_, rfl⟩
              rw [← hwo] at HE hkcr ⊢
              clear hwo hkcr hklr
              obtain ⟨z0, hz0⟩ : ∃ z0, ((i : Int) - 1) / 2 * 2 = z0 := ⟨_, rfl⟩
              rw [hz0]
              have HZ0 : Side (z0 % 2 = 0 ∧ -2 ≤ z0 ∧ z0 < i ∧ (∀ r : Nat, r < i → r % 2 = 0 → (r : Int) ≤ z0)) := ⟨by omega, by omega, by omega, fun r h1 h2 => by omega⟩
              clear hz0
              go_loopw [10] (fun v10 wr => ∃ (z : Int) (N : Nat) (B : List Wt), v10 = .int .i64 z ∧ z % 2 = 0 ∧ -2 ≤ z ∧ z < i ∧ (N : Int) + z ≤ 200 ∧ Side (Dn W wr V i s1 s2 N (fun r => r % 2 = 1) (fun r => ¬ (r % 2 = 0 ∧ z < (r : Int))) A B)) (fun v10 _ => (intOf v10 + 2).toNat)
              case atStart => exact ⟨z0, N, B, rfl, HZ0.out.1, HZ0.out.2.1, HZ0.out.2.2.1, by have := HZ0.out.2.2.1; omega, ⟨HE.out.up (fun r _ => Iff.rfl) (fun r hr => ⟨fun _ h => by have := HZ0.out.2.2.2 r hr h.1; omega, fun _ => trivial⟩)⟩⟩
              case round =>
                clear HE HZ0
                obtain ⟨z, N, B, rfl, hz2, hzm, hzi, hN, HD⟩ := hrel
                have hkcr : wr.cell? ⟨kb, 0, none⟩ = some (.slice ar i cap) := ((bcell HD.out.l.sx.below).1 kb 0 hkl).trans hkc
                have hklr : kb < wr.heap.size := Nat.lt_of_lt_of_le hkl HD.out.l.sx.below.size
                by_cases hlt : 0 ≤ z
                · obtain ⟨q, rfl⟩ : ∃ q : Nat, z = q := ⟨z.toNat, by omega⟩
                  have hzz : (q : Int) ≥ 0 := hlt
                  have hi1 : -9223372036854775808 ≤ (q : Int) - 2 := by omega
                  obtain ⟨bh, hbh⟩ : ∃ bh, LeP.has B (q : Int) = bh := ⟨_, rfl⟩
                  go_wp2_with fail
                  refine (DropB HD.out (by omega) q (by omega) bh hbh).mono ?_
                  rintro e w5 ⟨rfl, h5⟩
                  have H5 := Side.mk (h5.up (P' := fun r => r % 2 = 1) (Q' := fun r => ¬ (r % 2 = 0 ∧ (q : Int) - 2 < (r : Int))) (fun r _ => Iff.rfl) (fun r _ => by omega))
                  clear h5 HD hkcr hklr
                  go_wp2
                  go_roundw
                  case rel => exact ⟨(q : Int) - 2, N + 1, _, rfl, by omega, by omega, by omega, by omega, H5⟩
                  case measure => simp [intOf]; omega
                · have hzz : ¬ z ≥ 0 := by omega
                  have HE := Side.mk (HD.out.up (P' := fun r => r % 2 = 1) (Q' := fun r => r % 2 = 1) (fun r _ => Iff.rfl) (fun r hr => by omega))
                  clear HD
                  obtain ⟨s, hs⟩ : ∃ s, sOf A = s := ⟨_, rfl⟩
                  obtain ⟨L, hL⟩ : ∃ L : Int, (ll A : Int) = L := ⟨_, rfl⟩
                  obtain ⟨M, hM⟩ : ∃ M : Int, (A.length : Int) = M := ⟨_, rfl⟩
                  have hAB := HE.out.a.perm HE.out.b
                  have hMi : M = (i : Int) / 2 := by rw [← hM, HE.out.a.odd]; omega
                  have hMw : IntKind.i64.wrap ((i : Int) / 2) = (i : Int) / 2 := Go.IntWalk.i64_in _ (by omega)
                  have C1 : Side (∀ w', Below wr.heap.size wr w' → Calls Try.prog 11 #[.pointer (some ⟨s1 + 2, 0, none⟩)] w' fun r w'' => r = .returned (.agg #[.int .i64 s.1, .int .i64 s.2]) ∧ Below w'.heap.size w' w'') := ⟨fun w' hb => (SumS (HE.out.l.below hb).sx s hs).mono (by rintro r w'' ⟨rfl, _, h⟩; exact ⟨rfl, h⟩)⟩
                  have C2 : Side (∀ w', Below wr.heap.size wr w' → Calls Try.prog 11 #[.pointer (some ⟨s2 + 2, 0, none⟩)] w' fun r w'' => r = .returned (.agg #[.int .i64 s.1, .int .i64 s.2]) ∧ Below w'.heap.size w' w'') := ⟨fun w' hb => (SumS (HE.out.l.below hb).sy s (by rw [← sOf_perm hAB]; exact hs)).mono (by rintro r w'' ⟨rfl, _, h⟩; exact ⟨rfl, h⟩)⟩
                  have C3 : Side (∀ w', Below wr.heap.size wr w' → Calls Try.prog 14 #[.pointer (some ⟨s1 + 2, 0, none⟩)] w' fun r w'' => r = .returned (.int .i64 L) ∧ Below w'.heap.size w' w'') := ⟨fun w' hb => (LcmS (HE.out.l.below hb).sx L hL).mono (by rintro r w'' ⟨rfl, _, h⟩; exact ⟨rfl, h⟩)⟩
                  have C4 : Side (∀ w', Below wr.heap.size wr w' → Calls Try.prog 14 #[.pointer (some ⟨s2 + 2, 0, none⟩)] w' fun r w'' => r = .returned (.int .i64 L) ∧ Below w'.heap.size w' w'') := ⟨fun w' hb => (LcmS (HE.out.l.below hb).sy L (by rw [← ll_perm hAB]; exact hL)).mono (by rintro r w'' ⟨rfl, _, h⟩; exact ⟨rfl, h⟩)⟩
                  have C5 : Side (∀ w', Below wr.heap.size wr w' → Calls Try.prog 16 #[.pointer (some ⟨s1 + 2, 0, none⟩)] w' fun r w'' => r = .returned (.int .i64 M) ∧ Below w'.heap.size w' w'') := ⟨fun w' hb => (LenS (HE.out.l.below hb).sx M hM).mono (by rintro r w'' ⟨rfl, _, h⟩; exact ⟨rfl, h⟩)⟩
                  have C6 : Side (∀ w', Below wr.heap.size wr w' → Calls Try.prog 16 #[.pointer (some ⟨s2 + 2, 0, none⟩)] w' fun r w'' => r = .returned (.int .i64 M) ∧ Below w'.heap.size w' w'') := ⟨fun w' hb => (LenS (HE.out.l.below hb).sy M (by rw [← hAB.length_eq]; exact hM)).mono (by rintro r w'' ⟨rfl, _, h⟩; exact ⟨rfl, h⟩)⟩
                  have DR : Side (∀ w', Below wr.drew.heap.size wr.drew w' → Below wr.heap.size wr w') := ⟨fun w' hb => below_then (below_drew (Below.refl _ wr)) (Nat.le_refl _) hb⟩
                  have HBW : Side (Below w.heap.size w wr) := ⟨below_then HB.out HB.out.size HE.out.l.sx.below⟩
                  clear hs hL hM hAB HE
                  obtain ⟨sa, sb⟩ := s
                  go_upto_region 22 with (fail)
                  refine start_ (n := 28) (S := fun w' => True) (ds := []) #[false, false, false, false, false, false, false, false, false, false, false, false, false, false, false, false, false, false, false, false, false, false, false, false, false, false, false, false] (by kernel_rfl) rfl rfl trivial (fun _ => ?_)
                  refine inv_at (B := [0, 1, 0, 7, 15, 31, 63, 127, 63, 511, 1023, 2047, 4095, 8191, 16383, 8191, 65535, 131071, 262143, 524287, 1048575, 2097151, 1048575, 5242879, 13631487, 33554431, 67108863, 134217727]) [0, 1, 2, 3, 4, 5, 6, 7, 8, 9, 10, 11, 12, 13, 14, 15, 16, 17, 18, 19, 20, 21, 22, 23, 24, 25, 26, 27] (fun a0_ b a w' => a = putSel a0_ b [(0, 75, .pointer (some ⟨s1 + 2, 0, none⟩)), (1, 76, .agg #[.int .i64 sa, .int .i64 sb]), (2, 77, .pointer (some ⟨s2 + 2, 0, none⟩)), (3, 78, .agg #[.int .i64 sa, .int .i64 sb]), (4, 79, .bool true), (5, 80, .bool true), (6, 81, .pointer (some ⟨s1 + 2, 0, none⟩)), (7, 82, .int .i64 L), (8, 83, .pointer (some ⟨s2 + 2, 0, none⟩)), (9, 84, .int .i64 L), (10, 85, .bool true), (11, 86, .bool true), (12, 87, .bool true), (13, 88, .pointer (some ⟨s1 + 2, 0, none⟩)), (14, 89, .int .i64 M), (15, 90, .pointer (some ⟨s2 + 2, 0, none⟩)), (16, 91, .int .i64 M), (17, 92, .bool true), (18, 93, .bool true), (19, 94, .bool true), (20, 95, .pointer (some ⟨s1 + 2, 0, none⟩)), (21, 96, .int .i64 M), (22, 97, .slice ar i cap), (23, 98, .int .i64 i), (24, 99, .int .i64 M), (25, 100, .bool true), (26, 101, .bool true), (27, 4, .bool true)] ∧ Below wr.drew.heap.size wr.drew w') rfl (by kernel_rfl) (by kernel_rfl) (by kernel_rfl) ?_ ?_ ?_
                  · exact ⟨by simp only [putSel, Bool.false_eq_true, if_false], Below.refl _ _⟩
                  · refine steps_cons (by rintro b a w' ⟨ha, HI⟩ hb hon hoff; refine ⟨_, rfl, fun K hK => ?_⟩; have e5 := poff ha (t := 5) rfl rfl; exact value_ (v := .pointer (some ⟨s1 + 2, 0, none⟩)) (by rfl) rfl (by clear HI ha; go_simp) (hK.out _ _ ⟨upk ha 0 hb rfl rfl, HI⟩)) ?_
                    refine steps_cons (by rintro b a w' ⟨ha, HI⟩ hb hon hoff; refine ⟨_, rfl, fun K hK => ?_⟩; have e75 := pon ha 0 (hon 0 rfl) rfl rfl rfl; refine goes_ Try.func11 (by kernel_rfl) rfl #[.pointer (some ⟨s1 + 2, 0, none⟩)] (by rfl) rfl rfl (by simp [Act.eval, e75]) ((C1.out _ (DR.out _ HI)).mono ?_); rintro e_ w'' ⟨rfl, hbc⟩; exact ⟨_, rfl, hK.out _ _ ⟨upk ha 1 hb rfl rfl, below_then HI HI.size hbc⟩⟩) ?_
                    refine steps_cons (by rintro b a w' ⟨ha, HI⟩ hb hon hoff; refine ⟨_, rfl, fun K hK => ?_⟩; have e6 := poff ha (t := 6) rfl rfl; exact value_ (v := .pointer (some ⟨s2 + 2, 0, none⟩)) (by rfl) rfl (by clear HI ha; go_simp) (hK.out _ _ ⟨upk ha 2 hb rfl rfl, HI⟩)) ?_
                    refine steps_cons (by rintro b a w' ⟨ha, HI⟩ hb hon hoff; refine ⟨_, rfl, fun K hK => ?_⟩; have e77 := pon ha 2 (hon 2 rfl) rfl rfl rfl; refine goes_ Try.func11 (by kernel_rfl) rfl #[.pointer (some ⟨s2 + 2, 0, none⟩)] (by rfl) rfl rfl (by simp [Act.eval, e77]) ((C2.out _ (DR.out _ HI)).mono ?_); rintro e_ w'' ⟨rfl, hbc⟩; exact ⟨_, rfl, hK.out _ _ ⟨upk ha 3 hb rfl rfl, below_then HI HI.size hbc⟩⟩) ?_
                    refine steps_cons (by rintro b a w' ⟨ha, HI⟩ hb hon hoff; refine ⟨_, rfl, fun K hK => ?_⟩; have e76 := pon ha 1 (hon 1 rfl) rfl rfl rfl; have e78 := pon ha 3 (hon 3 rfl) rfl rfl rfl; exact value_ (v := .bool true) (by rfl) rfl (by clear HI ha; go_simp) (hK.out _ _ ⟨upk ha 4 hb rfl rfl, HI⟩)) ?_
                    refine steps_cons (by rintro b a w' ⟨ha, HI⟩ hb hon hoff; refine ⟨_, rfl, fun K hK => ?_⟩; have e79 := pon ha 4 (hon 4 rfl) rfl rfl rfl; exact value_ (v := .bool true) (by rfl) rfl (by clear HI ha; go_simp) (hK.out _ _ ⟨upk ha 5 hb rfl rfl, HI⟩)) ?_
                    refine steps_cons (by rintro b a w' ⟨ha, HI⟩ hb hon hoff; refine ⟨_, rfl, fun K hK => ?_⟩; have e5 := poff ha (t := 5) rfl rfl; have e80 := pon ha 5 (hon 5 rfl) rfl rfl rfl; exact value_ (v := .pointer (some ⟨s1 + 2, 0, none⟩)) (wanted_on (t := 80) (u := true) rfl rfl rfl e80) rfl (by clear HI ha; go_simp) (hK.out _ _ ⟨upk ha 6 hb rfl rfl, HI⟩)) ?_
                    refine steps_cons (by rintro b a w' ⟨ha, HI⟩ hb hon hoff; refine ⟨_, rfl, fun K hK => ?_⟩; have e81 := pon ha 6 (hon 6 rfl) rfl rfl rfl; have e80 := pon ha 5 (hon 5 rfl) rfl rfl rfl; refine goes_ Try.func14 (by kernel_rfl) rfl #[.pointer (some ⟨s1 + 2, 0, none⟩)] (wanted_on (t := 80) (u := true) rfl rfl rfl e80) rfl rfl (by simp [Act.eval, e81, e80]) ((C3.out _ (DR.out _ HI)).mono ?_); rintro e_ w'' ⟨rfl, hbc⟩; exact ⟨_, rfl, hK.out _ _ ⟨upk ha 7 hb rfl rfl, below_then HI HI.size hbc⟩⟩) ?_
                    refine steps_cons (by rintro b a w' ⟨ha, HI⟩ hb hon hoff; refine ⟨_, rfl, fun K hK => ?_⟩; have e6 := poff ha (t := 6) rfl rfl; have e80 := pon ha 5 (hon 5 rfl) rfl rfl rfl; exact value_ (v := .pointer (some ⟨s2 + 2, 0, none⟩)) (wanted_on (t := 80) (u := true) rfl rfl rfl e80) rfl (by clear HI ha; go_simp) (hK.out _ _ ⟨upk ha 8 hb rfl rfl, HI⟩)) ?_
                    refine steps_cons (by rintro b a w' ⟨ha, HI⟩ hb hon hoff; refine ⟨_, rfl, fun K hK => ?_⟩; have e83 := pon ha 8 (hon 8 rfl) rfl rfl rfl; have e80 := pon ha 5 (hon 5 rfl) rfl rfl rfl; refine goes_ Try.func14 (by kernel_rfl) rfl #[.pointer (some ⟨s2 + 2, 0, none⟩)] (wanted_on (t := 80) (u := true) rfl rfl rfl e80) rfl rfl (by simp [Act.eval, e83, e80]) ((C4.out _ (DR.out _ HI)).mono ?_); rintro e_ w'' ⟨rfl, hbc⟩; exact ⟨_, rfl, hK.out _ _ ⟨upk ha 9 hb rfl rfl, below_then HI HI.size hbc⟩⟩) ?_
                    refine steps_cons (by rintro b a w' ⟨ha, HI⟩ hb hon hoff; refine ⟨_, rfl, fun K hK => ?_⟩; have e82 := pon ha 7 (hon 7 rfl) rfl rfl rfl; have e84 := pon ha 9 (hon 9 rfl) rfl rfl rfl; have e80 := pon ha 5 (hon 5 rfl) rfl rfl rfl; exact value_ (v := .bool true) (wanted_on (t := 80) (u := true) rfl rfl rfl e80) rfl (by clear HI ha; go_simp) (hK.out _ _ ⟨upk ha 10 hb rfl rfl, HI⟩)) ?_
                    refine steps_cons (by rintro b a w' ⟨ha, HI⟩ hb hon hoff; refine ⟨_, rfl, fun K hK => ?_⟩; have e80 := pon ha 5 (hon 5 rfl) rfl rfl rfl; have e85 := pon ha 10 (hon 10 rfl) rfl rfl rfl; exact value_ (v := .bool true) (by rfl) rfl (by clear HI ha; go_simp) (hK.out _ _ ⟨upk ha 11 hb rfl rfl, HI⟩)) ?_
                    refine steps_cons (by rintro b a w' ⟨ha, HI⟩ hb hon hoff; refine ⟨_, rfl, fun K hK => ?_⟩; have e86 := pon ha 11 (hon 11 rfl) rfl rfl rfl; exact value_ (v := .bool true) (by rfl) rfl (by clear HI ha; go_simp) (hK.out _ _ ⟨upk ha 12 hb rfl rfl, HI⟩)) ?_
                    refine steps_cons (by rintro b a w' ⟨ha, HI⟩ hb hon hoff; refine ⟨_, rfl, fun K hK => ?_⟩; have e5 := poff ha (t := 5) rfl rfl; have e87 := pon ha 12 (hon 12 rfl) rfl rfl rfl; exact value_ (v := .pointer (some ⟨s1 + 2, 0, none⟩)) (wanted_on (t := 87) (u := true) rfl rfl rfl e87) rfl (by clear HI ha; go_simp) (hK.out _ _ ⟨upk ha 13 hb rfl rfl, HI⟩)) ?_
                    refine steps_cons (by rintro b a w' ⟨ha, HI⟩ hb hon hoff; refine ⟨_, rfl, fun K hK => ?_⟩; have e88 := pon ha 13 (hon 13 rfl) rfl rfl rfl; have e87 := pon ha 12 (hon 12 rfl) rfl rfl rfl; refine goes_ Try.func16 (by kernel_rfl) rfl #[.pointer (some ⟨s1 + 2, 0, none⟩)] (wanted_on (t := 87) (u := true) rfl rfl rfl e87) rfl rfl (by simp [Act.eval, e88, e87]) ((C5.out _ (DR.out _ HI)).mono ?_); rintro e_ w'' ⟨rfl, hbc⟩; exact ⟨_, rfl, hK.out _ _ ⟨upk ha 14 hb rfl rfl, below_then HI HI.size hbc⟩⟩) ?_
                    refine steps_cons (by rintro b a w' ⟨ha, HI⟩ hb hon hoff; refine ⟨_, rfl, fun K hK => ?_⟩; have e6 := poff ha (t := 6) rfl rfl; have e87 := pon ha 12 (hon 12 rfl) rfl rfl rfl; exact value_ (v := .pointer (some ⟨s2 + 2, 0, none⟩)) (wanted_on (t := 87) (u := true) rfl rfl rfl e87) rfl (by clear HI ha; go_simp) (hK.out _ _ ⟨upk ha 15 hb rfl rfl, HI⟩)) ?_
                    refine steps_cons (by rintro b a w' ⟨ha, HI⟩ hb hon hoff; refine ⟨_, rfl, fun K hK => ?_⟩; have e90 := pon ha 15 (hon 15 rfl) rfl rfl rfl; have e87 := pon ha 12 (hon 12 rfl) rfl rfl rfl; refine goes_ Try.func16 (by kernel_rfl) rfl #[.pointer (some ⟨s2 + 2, 0, none⟩)] (wanted_on (t := 87) (u := true) rfl rfl rfl e87) rfl rfl (by simp [Act.eval, e90, e87]) ((C6.out _ (DR.out _ HI)).mono ?_); rintro e_ w'' ⟨rfl, hbc⟩; exact ⟨_, rfl, hK.out _ _ ⟨upk ha 16 hb rfl rfl, below_then HI HI.size hbc⟩⟩) ?_
                    refine steps_cons (by rintro b a w' ⟨ha, HI⟩ hb hon hoff; refine ⟨_, rfl, fun K hK => ?_⟩; have e89 := pon ha 14 (hon 14 rfl) rfl rfl rfl; have e91 := pon ha 16 (hon 16 rfl) rfl rfl rfl; have e87 := pon ha 12 (hon 12 rfl) rfl rfl rfl; exact value_ (v := .bool true) (wanted_on (t := 87) (u := true) rfl rfl rfl e87) rfl (by clear HI ha; go_simp) (hK.out _ _ ⟨upk ha 17 hb rfl rfl, HI⟩)) ?_
                    refine steps_cons (by rintro b a w' ⟨ha, HI⟩ hb hon hoff; refine ⟨_, rfl, fun K hK => ?_⟩; have e87 := pon ha 12 (hon 12 rfl) rfl rfl rfl; have e92 := pon ha 17 (hon 17 rfl) rfl rfl rfl; exact value_ (v := .bool true) (by rfl) rfl (by clear HI ha; go_simp) (hK.out _ _ ⟨upk ha 18 hb rfl rfl, HI⟩)) ?_
                    refine steps_cons (by rintro b a w' ⟨ha, HI⟩ hb hon hoff; refine ⟨_, rfl, fun K hK => ?_⟩; have e93 := pon ha 18 (hon 18 rfl) rfl rfl rfl; exact value_ (v := .bool true) (by rfl) rfl (by clear HI ha; go_simp) (hK.out _ _ ⟨upk ha 19 hb rfl rfl, HI⟩)) ?_
                    refine steps_cons (by rintro b a w' ⟨ha, HI⟩ hb hon hoff; refine ⟨_, rfl, fun K hK => ?_⟩; have e5 := poff ha (t := 5) rfl rfl; have e94 := pon ha 19 (hon 19 rfl) rfl rfl rfl; exact value_ (v := .pointer (some ⟨s1 + 2, 0, none⟩)) (wanted_on (t := 94) (u := true) rfl rfl rfl e94) rfl (by clear HI ha; go_simp) (hK.out _ _ ⟨upk ha 20 hb rfl rfl, HI⟩)) ?_
                    refine steps_cons (by rintro b a w' ⟨ha, HI⟩ hb hon hoff; refine ⟨_, rfl, fun K hK => ?_⟩; have e95 := pon ha 20 (hon 20 rfl) rfl rfl rfl; have e94 := pon ha 19 (hon 19 rfl) rfl rfl rfl; refine goes_ Try.func16 (by kernel_rfl) rfl #[.pointer (some ⟨s1 + 2, 0, none⟩)] (wanted_on (t := 94) (u := true) rfl rfl rfl e94) rfl rfl (by simp [Act.eval, e95, e94]) ((C5.out _ (DR.out _ HI)).mono ?_); rintro e_ w'' ⟨rfl, hbc⟩; exact ⟨_, rfl, hK.out _ _ ⟨upk ha 21 hb rfl rfl, below_then HI HI.size hbc⟩⟩) ?_
                    refine steps_cons (by rintro b a w' ⟨ha, HI⟩ hb hon hoff; refine ⟨_, rfl, fun K hK => ?_⟩; have e2 := poff ha (t := 2) rfl rfl; have e94 := pon ha 19 (hon 19 rfl) rfl rfl rfl; have k0_ := bc HI hklr hkcr; have kz_ := bz HI hklr; exact value_ (v := .slice ar i cap) (wanted_on (t := 94) (u := true) rfl rfl rfl e94) rfl (by clear HI ha; go_simp) (hK.out _ _ ⟨upk ha 22 hb rfl rfl, HI⟩)) ?_
                    refine steps_cons (by rintro b a w' ⟨ha, HI⟩ hb hon hoff; refine ⟨_, rfl, fun K hK => ?_⟩; have e97 := pon ha 22 (hon 22 rfl) rfl rfl rfl; have e94 := pon ha 19 (hon 19 rfl) rfl rfl rfl; exact value_ (v := .int .i64 i) (wanted_on (t := 94) (u := true) rfl rfl rfl e94) rfl (by clear HI ha; go_simp) (hK.out _ _ ⟨upk ha 23 hb rfl rfl, HI⟩)) ?_
                    refine steps_cons (by rintro b a w' ⟨ha, HI⟩ hb hon hoff; refine ⟨_, rfl, fun K hK => ?_⟩; have e98 := pon ha 23 (hon 23 rfl) rfl rfl rfl; have e94 := pon ha 19 (hon 19 rfl) rfl rfl rfl; exact value_ (v := .int .i64 M) (wanted_on (t := 94) (u := true) rfl rfl rfl e94) rfl (by clear HI ha; go_simp) (hK.out _ _ ⟨upk ha 24 hb rfl rfl, HI⟩)) ?_
                    refine steps_cons (by rintro b a w' ⟨ha, HI⟩ hb hon hoff; refine ⟨_, rfl, fun K hK => ?_⟩; have e96 := pon ha 21 (hon 21 rfl) rfl rfl rfl; have e99 := pon ha 24 (hon 24 rfl) rfl rfl rfl; have e94 := pon ha 19 (hon 19 rfl) rfl rfl rfl; exact value_ (v := .bool true) (wanted_on (t := 94) (u := true) rfl rfl rfl e94) rfl (by clear HI ha; go_simp) (hK.out _ _ ⟨upk ha 25 hb rfl rfl, HI⟩)) ?_
                    refine steps_cons (by rintro b a w' ⟨ha, HI⟩ hb hon hoff; refine ⟨_, rfl, fun K hK => ?_⟩; have e94 := pon ha 19 (hon 19 rfl) rfl rfl rfl; have e100 := pon ha 25 (hon 25 rfl) rfl rfl rfl; exact value_ (v := .bool true) (by rfl) rfl (by clear HI ha; go_simp) (hK.out _ _ ⟨upk ha 26 hb rfl rfl, HI⟩)) ?_
                    refine steps_cons (by rintro b a w' ⟨ha, HI⟩ hb hon hoff; refine ⟨_, rfl, fun K hK => ?_⟩; have e101 := pon ha 26 (hon 26 rfl) rfl rfl rfl; exact value_ (v := .bool true) (by rfl) rfl (by clear HI ha; go_simp) (hK.out _ _ ⟨upk ha 27 hb rfl rfl, HI⟩)) ?_
                    exact steps_nil
                  · rintro b a w' hall ⟨ha, HI⟩
                    have hb0_ := hall 0 rfl; have hb1_ := hall 1 rfl; have hb2_ := hall 2 rfl; have hb3_ := hall 3 rfl; have hb4_ := hall 4 rfl; have hb5_ := hall 5 rfl; have hb6_ := hall 6 rfl; have hb7_ := hall 7 rfl
                    have hb8_ := hall 8 rfl; have hb9_ := hall 9 rfl; have hb10_ := hall 10 rfl; have hb11_ := hall 11 rfl; have hb12_ := hall 12 rfl; have hb13_ := hall 13 rfl; have hb14_ := hall 14 rfl; have hb15_ := hall 15 rfl
                    have hb16_ := hall 16 rfl; have hb17_ := hall 17 rfl; have hb18_ := hall 18 rfl; have hb19_ := hall 19 rfl; have hb20_ := hall 20 rfl; have hb21_ := hall 21 rfl; have hb22_ := hall 22 rfl; have hb23_ := hall 23 rfl
                    have hb24_ := hall 24 rfl; have hb25_ := hall 25 rfl; have hb26_ := hall 26 rfl; have hb27_ := hall 27 rfl
                    subst ha
                    simp only [putSel, hb0_, hb1_, hb2_, hb3_, hb4_, hb5_, hb6_, hb7_, hb8_, hb9_, hb10_, hb11_, hb12_, hb13_, hb14_, hb15_, hb16_, hb17_, hb18_, hb19_, hb20_, hb21_, hb22_, hb23_, hb24_, hb25_, hb26_, hb27_, if_true, Act.put, List.setIfInBounds_toArray, List.set_cons_zero, List.set_cons_succ]
                    have hB := (below_then HBW.out HBW.out.size (DR.out _ HI) : Below w.heap.size w w')
                    clear hall HI hb0_ hb1_ hb2_ hb3_ hb4_ hb5_ hb6_ hb7_ hb8_ hb9_ hb10_ hb11_ hb12_ hb13_ hb14_ hb15_ hb16_ hb17_ hb18_ hb19_ hb20_ hb21_ hb22_ hb23_ hb24_ hb25_ hb26_ hb27_
                    refine ‹∀ (a : Act) (w : World), Code.wp Try.prog _ _ a w → _› _ _ ?_
                    go_wp2
                    go_ret
                    exact ⟨rfl, hB⟩
end Go.Proofs.Ytfgmenndmcjggaa.LOrders

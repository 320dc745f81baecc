/- Package ledger, second text: the least multiple of two; the multiple of all periods, whatever the order in which the map hands them out. No condition. -/
import Derived.Test.YtfgmenndmcjggaaLeA
set_option linter.unusedVariables false
set_option linter.unusedSimpArgs false
namespace Go.Proofs.Ytfgmenndmcjggaa.LeB
open Go.RowKit Go.Proofs.Ytfgmenndmcjggaa.Kit Go.Proofs.Ytfgmenndmcjggaa.Kit3 Go.Proofs.Ytfgmenndmcjggaa.LeP Go.Maps Go.Proofs.Ytfgmenndmcjggaa.LeA
open Go.Proofs.Ytfgmenndmcjggaa.PR WhPlain
open Go.Proofs.Ytfgmenndmcjggaa.RaC (I size_at mul64_at signed_at Gcd_at)
theorem WMul_at {a b : Int} (ha : I a) (hb : I b) (k : Nat) : whole_Mul.f (k + 1) a b = some (fit (a * b)) := by
  have h1 := ha.abs; have h2 := hb.abs
  unfold whole_Mul.f
  rw [size_at ha, size_at hb]; simp only [Option.bind_some]
  rw [mul64_at _ _ (by omega) (by omega)]; simp only [Option.bind_some]
  rw [mul_parts a b]
  by_cases h : a.natAbs * b.natAbs < 18446744073709551616
  · rw [if_pos (by omega), signed_at _ (by omega) (by omega)]; simp only [Option.bind_some]
    rw [Nat.mod_eq_of_lt h]
  · rw [if_neg (by omega), fit_no]
    split <;> omega
theorem G_small {a b : Int} (ha : I a) (hb : I b) (h1 : 1 ≤ a) : G a b = (Int.gcd a b : Int) ∧ 1 ≤ (Int.gcd a b : Int) ∧ (Int.gcd a b : Int) ≤ a := by
  have hg : Int.gcd a b ≤ a.natAbs := Nat.gcd_le_left _ (by omega)
  have hp : 0 < Int.gcd a b := Nat.gcd_pos_of_pos_left _ (by omega)
  unfold I at ha
  refine ⟨?_, by omega, by omega⟩
  unfold G; rw [if_neg (by omega)]
theorem Lcm_at {a b : Int} (ha : I a) (hb : I b) (h1 : 1 ≤ a) (h2 : 1 ≤ b) (k : Nat) (hk : 9223372036854775808 < k) : whole_Lcm.f (k + 1) a b = some (fit (a / (Int.gcd a b : Int) * b)) := by
  have hg := G_small ha hb h1
  unfold whole_Lcm.f
  rw [if_neg (by omega), decide_eq_false (by omega)]; simp only [whole_Lcm.j0]
  rw [if_neg (by decide), Gcd_at ha hb k hk, Option.bind_some, hg.1, if_neg (by omega), Kit.td (by omega)]
  have hd : 0 ≤ a / (Int.gcd a b : Int) ∧ a / (Int.gcd a b : Int) ≤ a := ⟨Int.ediv_nonneg (by omega) (by omega), Int.ediv_le_self _ (by omega)⟩
  have hI : I (a / (Int.gcd a b : Int)) := by unfold I at ha ⊢; omega
  obtain ⟨k, rfl⟩ : ∃ m, k = m + 1 := ⟨k - 1, by omega⟩
  rw [Kit.wr (by unfold I at hI; omega) (by unfold I at hI; omega), WMul_at hI hb]; rfl
theorem LcmK {a b c : Int} (ha : 1 ≤ a ∧ a ≤ 16777216) (hb : 1 ≤ b ∧ b ≤ 1048575) (hc : (Nat.lcm a.natAbs b.natAbs : Int) = c) (w : World) :
    Side (Calls Try.prog 28 #[.int .i64 a, .int .i64 b] w fun r w' => r = .returned (.tuple #[.int .i64 c, .int .i64 0]) ∧ Below w.heap.size w w') := by
  have hI : I a := by unfold I; omega
  have hJ : I b := by unfold I; omega
  have e : a / (Int.gcd a b : Int) * b = c := by
    rw [← hc]
    obtain ⟨x, rfl⟩ : ∃ x : Nat, a = x := ⟨a.natAbs, by omega⟩
    obtain ⟨y, rfl⟩ : ∃ y : Nat, b = y := ⟨b.natAbs, by omega⟩
    show ((x : Int) / ((Nat.gcd x y : Nat) : Int)) * (y : Int) = ((Nat.lcm x y : Nat) : Int)
    unfold Nat.lcm
    rw [← Nat.div_mul_right_comm (Nat.gcd_dvd_left x y)]
    rfl
  have h0 : Nat.lcm a.natAbs b.natAbs ≤ a.natAbs * b.natAbs := Nat.le_of_dvd (Nat.mul_pos (by omega) (by omega)) (Nat.lcm_dvd_mul _ _)
  have h1 : a.natAbs * b.natAbs ≤ 16777216 * 1048575 := Nat.mul_le_mul (by omega) (by omega)
  have h := Lcm_at hI hJ ha.1 hb.1 9223372036854775809 (by omega)
  rw [e, fit_yes (by omega) (by omega)] at h
  refine ⟨(whole_Lcm.calls _ a b c 0 w h).mono ?_⟩
  rintro r w' ⟨rfl, hd⟩
  exact ⟨rfl, hd.below⟩
/-- The loop under way: A stands, of the periods that have come (and of p). -/
structure Run (w wr : World) (bm n : Nat) (Dm : DD) (p : Nat) (ms : List Wt) (A : Int) (left : Lit → Bool) (cnt : Nat) : Prop where
  rg : wr.ranges Try.prog 3 (plainElem Try.prog 3) bm w.heap.size n Dm left cnt
  bel : Below w.heap.size w wr
  pos : 1 ≤ A ∧ A ≤ 16777216
  pd : p ∣ A.natAbs
  ad : A.natAbs ∣ Nat.lcm p (ll ms)
  le : ∀ kl, left kl = true → Maps.has Dm kl = true
  dn : ∀ m ∈ ms, left (kv m.2.2) = false → m.2.2.natAbs ∣ A.natAbs
set_option maxHeartbeats 4000000 in
set_option maxRecDepth 100000 in
theorem mult_at (w : World) (B gh bl bm n : Nat) (k : Int) (s : Int × Int) (Dl Dm : DD) (ms : List Wt) (h : Lg w B gh bl bm n k s Dl Dm) (hx : Ix ms Dl Dm) (hm : ∀ m ∈ ms, may m.2.1 m.2.2) (p : Int) (hp : 1 ≤ p ∧ p ≤ 1048575)
    (L : Int) (hL : (Nat.lcm p.natAbs (ll ms) : Int) = L) (R : Int) (ok : Bool) (hok : decide (L ≤ 16777216) = ok) (hR : (if ok = true then L else 0) = R) :
    Calls Try.prog 21 #[.pointer (some ⟨gh, 0, none⟩), .int .i64 p] w fun r w' => r = .returned (.tuple #[.int .i64 R, .bool ok]) ∧ Below w.heap.size w w' := by
  have hc2 := h.c2
  have hgl := h.lt
  have hmm := h.mm
  have hml := hmm.lt
  have HX := Side.mk hx
  have HM := Side.mk hm
  have HP := Side.mk hp
  have HL := Side.mk hL
  have HOK := Side.mk hok
  have HR := Side.mk hR
  have HS0 : Side (∀ w0 : World, w0.ranges Try.prog 3 (plainElem Try.prog 3) bm w.heap.size n Dm (Maps.has Dm) (Maps.size Dm) → w.grownBy w0 none → Run w w0 bm n Dm p.natAbs ms p (Maps.has Dm) (Maps.size Dm)) := ⟨fun w0 hrg hg => by
    refine ⟨hrg, ⟨hg.os, hg.tape, hg.output, hg.size, fun i hi => hg.block i hi (by simp)⟩, by omega, Nat.dvd_refl _, Nat.dvd_lcm_left _ _, fun _ h => h, fun m hmm hl => ?_⟩
    have h1 := hm m hmm
    unfold may at h1
    rw [hx.hasm m.2.2 (wf_of (by omega) (by omega))] at hl
    have := cnt_pos.2 ⟨m, hmm, rfl⟩
    simp at hl
    omega⟩
  clear h hx hm hp hL hok hR
  go_enter Try.func21, Try.ntmps21
  go_wp2_with (first
    | (at_range; refine wpList_range_own _ rfl _ 52 rfl 3 3 keyed Try.underlying52 _ bm n Dm rfl hmm ?_; intro w0 hrg0 hg0 hs0)
    | go_in)
  go_frame
  have HS := Side.mk (HS0.out w0 hrg0 hg0)
  clear hrg0 hg0 hs0 HS0 hmm hc2
  go_loopw [6] (fun v6 wr => ∃ (A : Int) (left : Lit → Bool) (cnt : Nat), v6 = .int .i64 A ∧ Side (Run w wr bm n Dm p.natAbs ms A left cnt)) (fun _ wr => wr.rangeLeft bm w.heap.size)
  case atStart => exact ⟨p, _, _, rfl, HS⟩
  case round =>
    clear HS
    obtain ⟨A, left, cnt, rfl, HR1⟩ := hrel
    have hrg := HR1.out.rg
    go_wp2_with (first
      | (at_next; refine wpList_next_ranges_ii _ rfl _ rfl 3 3 .i64 .i64 keyed Try.underlying3 Try.underlying3 bm w.heap.size n _ _ _ rfl hrg ?_ ?_)
      | go_in)
    · intro hc0 hl0
      have HE : Side (A = L ∧ A ≤ 16777216) := ⟨by
        have h1 := HR1.out
        have h2 : A.natAbs = Nat.lcm p.natAbs (ll ms) := Nat.dvd_antisymm h1.ad (Nat.lcm_dvd h1.pd (ll_least fun m hm => h1.dn m hm (hl0 _)))
        have h3 := HL.out
        have h4 := h1.pos
        exact ⟨by omega, h4.2⟩⟩
      obtain rfl := HE.out.1
      have hle := HE.out.2
      go_wp2
      go_ret2
      have h1 := HOK.out
      rw [decide_eq_true hle] at h1
      subst h1
      exact ⟨by rw [← HR.out]; rfl, HR1.out.bel⟩
    · intro x c w1 cnt1 hwx hwc hlx hat hrg1 hlt hg1 hs1 hen
      have HM2 : Side (∃ m ∈ ms, m.2.2 = x) := ⟨by
        have := HR1.out.le _ hlx
        rw [HX.out.hasm x hwx] at this
        exact cnt_pos.1 (of_decide_eq_true this)⟩
      have hxb : 1 ≤ x ∧ x ≤ 1048575 := by
        obtain ⟨m, hm, rfl⟩ := HM2.out
        have := HM.out m hm
        unfold may at this
        omega
      obtain ⟨C, hC⟩ : ∃ C : Int, (Nat.lcm A.natAbs x.natAbs : Int) = C := ⟨_, rfl⟩
      have HC := Side.mk hC
      have HLC : Side (∀ w, Side (Calls Try.prog 28 #[.int .i64 A, .int .i64 x] w fun r w' => r = .returned (.tuple #[.int .i64 C, .int .i64 0]) ∧ Below w.heap.size w w')) := ⟨fun w => LcmK HR1.out.pos hxb hC w⟩
      have HB1 : Side (Below w.heap.size w w1) := ⟨HR1.out.bel.grown hg1 HR1.out.bel.size (fun j hj => by cases hj; exact Nat.le_refl _)⟩
      have HG1 := Side.mk hrg1
      have HLT := Side.mk hlt
      have HLX := Side.mk hlx
      have HWX := Side.mk hwx
      clear hwx hwc hlx hat hrg1 hlt hg1 hs1 hC hxb
      have HD : Side (C.natAbs ∣ Nat.lcm p.natAbs (ll ms) ∧ 1 ≤ C) := ⟨by
        have h1 := HC.out
        have h2 := HR1.out.pos
        obtain ⟨m, hm, rfl⟩ := HM2.out
        have h3 := HM.out m hm
        unfold may at h3
        have h4 : 0 < Nat.lcm A.natAbs m.2.2.natAbs := Nat.lcm_pos (by omega) (by omega)
        refine ⟨?_, by omega⟩
        rw [show C.natAbs = Nat.lcm A.natAbs m.2.2.natAbs by omega]
        exact Nat.lcm_dvd HR1.out.ad (Nat.dvd_trans (ll_dvd hm) (Nat.dvd_lcm_right _ _))⟩
      by_cases hbig : C > 16777216
      · go_wp2_with ((go_at_call 28; (with_reducible refine (HLC.out _).out.mono ?_); rintro e w2 ⟨rfl, hb2⟩))
        go_ret2
        have hno : ok = false := by
          rw [← HOK.out]
          refine decide_eq_false ?_
          have h1 := HL.out
          have h2 := HD.out
          have h3 : 0 < Nat.lcm p.natAbs (ll ms) := Nat.lcm_pos (by have := HP.out; omega) (ll_pos fun m hm => by have := HM.out m hm; unfold may at this; omega)
          have h4 := Nat.le_of_dvd h3 h2.1
          omega
        subst hno
        exact ⟨by rw [← HR.out]; rfl, below_then HB1.out HB1.out.size hb2⟩
      · have hle : C ≤ 16777216 := by omega
        go_wp2_with ((go_at_call 28; (with_reducible refine (HLC.out _).out.mono ?_); rintro e w2 ⟨rfl, hb2⟩))
        have hrg2 := HG1.out.kept (row := none) ⟨hb2.os, hb2.tape, hb2.output, hb2.size, fun i hi _ => hb2.block i hi⟩ (by simp) (by simp)
        go_roundw
        case rel =>
          refine ⟨C, _, cnt1, rfl, ⟨hrg2, below_then HB1.out HB1.out.size hb2, ⟨HD.out.2, hle⟩, ?_, HD.out.1, fun kl hk => ?_, fun m hm hl => ?_⟩⟩
          · have h1 := HC.out
            rw [show C.natAbs = Nat.lcm A.natAbs x.natAbs by omega]
            exact Nat.dvd_trans HR1.out.pd (Nat.dvd_lcm_left _ _)
          · simp only [Bool.and_eq_true] at hk
            exact HR1.out.le kl hk.1
          · have h1 := HC.out
            rw [show C.natAbs = Nat.lcm A.natAbs x.natAbs by omega]
            by_cases hq : m.2.2 = x
            · rw [hq]; exact Nat.dvd_lcm_right _ _
            · refine Nat.dvd_trans (HR1.out.dn m hm ?_) (Nat.dvd_lcm_left _ _)
              have h2 : (kv m.2.2).sameKey (kv x) = false := Maps.sameKey_ne (kv_ne hq)
              simp only [h2, Bool.not_false, Bool.and_true] at hl
              exact hl
        case measure => rw [hrg2.left_eq, hrg.left_eq]; exact HLT.out
end Go.Proofs.Ytfgmenndmcjggaa.LeB

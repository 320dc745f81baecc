/- slices.symMergeCmpFunc over ranks, two or more on each side. No condition but that it merges less. -/
import Derived.Test.YtmjgadhknliiaaaSoF
set_option linter.unusedVariables false
set_option linter.unusedSimpArgs false
namespace Go.Proofs.Ytmjgadhknliiaaa.SoGp
open Go.RowKit Go.Proofs.Ytmjgadhknliiaaa.Kit Go.Proofs.Ytmjgadhknliiaaa.Kit3 Go.Proofs.Ytmjgadhknliiaaa.Kit4 Go.Proofs.Ytmjgadhknliiaaa.Kit5 Go.Proofs.Ytmjgadhknliiaaa.Rank Go.Proofs.Ytmjgadhknliiaaa.SoA Go.Proofs.Ytmjgadhknliiaaa.SoD Go.Proofs.Ytmjgadhknliiaaa.SoC Go.Proofs.Ytmjgadhknliiaaa.SoE Go.Proofs.Ytmjgadhknliiaaa.SoF SoPlain
open Go.Proofs.YtmjgadhknliiaaaW.PrintLast
/-- What is known of what merges less. -/
def Less (B g n cap N : Nat) : Prop := ∀ (w : World) (xs0 : List R) (la lm lb : Nat), M w B g n cap xs0 → la < lm → lm < lb → lb ≤ n → lb - la < N → Srt lt (at_ xs0) la lm → Srt lt (at_ xs0) lm lb →
    Calls Try.prog 32 #[.slice (some ⟨g, 0, none⟩) n cap, .int .i64 la, .int .i64 lm, .int .i64 lb, .func (.func 20) #[] #[]] w fun r w' => r = .returned (.tuple #[]) ∧ ∃ ys, M w' B g n cap ys ∧ Chg w w' (fun k => k = g) ∧ Mrg lt n (at_ xs0) (at_ ys) la lb
theorem ne_eq' {x y : Int} (h : ¬ x = y) : (x == y) = false := by simpa using h
structure Hole (G : Prop) : Prop where
  out : G
set_option maxHeartbeats 400000000 in
set_option maxRecDepth 100000 in
noncomputable def part : (G1 : Prop) ×' (G2 : Prop) ×' (G3 : Prop) ×' (Hole G1 → Hole G2 → Hole G3 → ∀ (w : World) (B g n cap : Nat) (xs0 : List R) (h : M w B g n cap xs0) (la lm lb : Nat) (h0 : ¬ lm = la + 1) (h00 : ¬ lb = lm + 1) (h1 : la < lm) (h2 : lm < lb) (hb : lb ≤ n) (o1 : Srt lt (at_ xs0) la lm) (o2 : Srt lt (at_ xs0) lm lb) (IH : Less B g n cap (lb - la)), Calls Try.prog 32 #[.slice (some ⟨g, 0, none⟩) n cap, .int .i64 la, .int .i64 lm, .int .i64 lb, .func (.func 20) #[] #[]] w fun r w' => r = .returned (.tuple #[]) ∧ ∃ ys, M w' B g n cap ys ∧ Chg w w' (fun k => k = g) ∧ Mrg lt n (at_ xs0) (at_ ys) la lb) := by
  apply PSigma.mk
  apply PSigma.mk
  apply PSigma.mk
  · intro k1 k2 k3
    intro w B g n cap xs0 h la lm lb h0 h00 h1 h2 hb o1 o2 IH
    have HM0 := Side.mk h
    have hn := h.small
    have O1 := Side.mk o1
    have O2 := Side.mk o2
    have HI := Side.mk IH
    have e3 : ¬ (lm : Int) - la = 1 := by omega
    have e4 : ¬ (lb : Int) - lm = 1 := by omega
    have e1 := ne_eq' e3
    have e2 := ne_eq' e4
    have hs0 : (0 : Int) ≤ (la : Int) + lb := by omega
    have hs1 : (la : Int) + lb ≤ 9223372036854775807 := by omega
    clear h o1 o2 h0 h00 IH
    go_enter Try.func32, Try.ntmps32
    go_upto_region 25 with (fail)
    obtain ⟨mid, hmid⟩ : ∃ mid : Nat, mid = (la + lb) / 2 := ⟨_, rfl⟩
    rw [show ((la : Int) + lb) / 2 = (mid : Int) by omega]
    have HMID := Side.mk hmid
    have hmn : mid < n := by omega
    have hm1 : la < mid := by omega
    have hm2 : mid < lb := by omega
    clear e1 e2 e3 e4 hs0 hs1 hmid
    obtain ⟨NN, hNN⟩ : ∃ NN, NN = mid + lm := ⟨_, rfl⟩
    have hNi : (mid : Int) + lm ≤ 9223372036854775807 := by omega
    have hNj : (0 : Int) ≤ (mid : Int) + lm := by omega
    have hN0 : (0 : Int) ≤ (NN : Int) := by omega
    have hN1 : (NN : Int) ≤ 2000 := by omega
    go_upto_region 27 with (fail)
    obtain ⟨s0, r0, hsr⟩ : ∃ s0 r0 : Nat, (mid < lm ∧ s0 = mid + lm - lb ∧ r0 = mid) ∨ (lm ≤ mid ∧ s0 = la ∧ r0 = lm) := by
      by_cases h : mid < lm
      · exact ⟨_, _, .inl ⟨h, rfl, rfl⟩⟩
      · exact ⟨_, _, .inr ⟨by omega, rfl, rfl⟩⟩
    have HSR := Side.mk hsr
    obtain ⟨qb, hqb⟩ : ∃ qb : Bool, qb = decide (mid < lm) := ⟨_, rfl⟩
    go_cut [140] (fun v we => v = .bool qb ∧ we = w)
    case first =>
      go_wp2
      go_meet
      case rel => exact ⟨by rw [hqb], rfl⟩
    case rest =>
    obtain ⟨rfl, hww⟩ := hcut
    go_step
    go_cut [20, 21] (fun v v' we => v = .int .i64 (s0 : Int) ∧ v' = .int .i64 (r0 : Int) ∧ we = w)
    case first =>
      rcases HSR.out with ⟨a1, a2, a3⟩ | ⟨a1, a2, a3⟩
      · obtain rfl : qb = true := by rw [hqb]; exact decide_eq_true a1
        have hmd := HMID.out
        have e5 : (s0 : Int) = (mid : Int) + lm - lb := by omega
        have e6 : (0 : Int) ≤ (mid : Int) + lm - lb := by omega
        have e7 : (mid : Int) + lm - lb ≤ 2000 := by omega
        have HE5 := Side.mk e5
        clear e5 hmd
        go_wp2
        go_meet
        case rel => exact ⟨congrArg _ HE5.out.symm, by rw [a3], by first | rfl | exact hww | exact hww.symm⟩
      · obtain rfl : qb = false := by rw [hqb]; exact decide_eq_false (by omega)
        go_wp2
        go_meet
        case rel => exact ⟨by rw [a2], by rw [a3], by first | rfl | exact hww | exact hww.symm⟩
    case rest =>
    obtain ⟨rfl, rfl, hww2⟩ := hcut
    clear hqb
    have HM1 : Side (M wc B g n cap xs0) := ⟨by first | (rw [hww2]; exact HM0.out) | (rw [hww2, hww]; exact HM0.out)⟩
    have HC1 : Side (Chg w wc (fun k => k = g)) := ⟨by first | (rw [hww2]; exact Chg.refl _ _) | (rw [hww2, hww]; exact Chg.refl _ _)⟩
    obtain ⟨wd, hwd⟩ : ∃ wd : World, wd = wc := ⟨_, rfl⟩
    rw [← hwd] at HM1 HC1 ⊢
    have hsr := HSR.out
    have hmd := HMID.out
    have hs0r : s0 ≤ r0 := by omega
    have has : la ≤ s0 := by omega
    have hrm : r0 ≤ lm := by omega
    have HIX : Side (∀ c, s0 ≤ c → c < r0 → lm ≤ mid + lm - 1 - c ∧ mid + lm - 1 - c < lb ∧ c < mid + lm) := ⟨fun c c1 c2 => by omega⟩
    have hNp : (1 : Int) ≤ (mid : Int) + lm := by omega
    clear hsr hmd hww hww2 HM0 hwd
    go_wp2_with fail
    go_loopw [20, 21] (fun v20 v21 wr => ∃ s r : Nat, v20 = .int .i64 (s : Int) ∧ v21 = .int .i64 (r : Int) ∧ s0 ≤ s ∧ s ≤ r ∧ r ≤ r0 ∧ Side (Below wd.heap.size wd wr) ∧ Side (Bs lt (at_ xs0) (mid + lm) s0 r0 s r)) (fun v20 v21 _ => (intOf v21 - intOf v20).toNat)
    case atStart => exact ⟨s0, r0, rfl, rfl, Nat.le_refl _, hs0r, Nat.le_refl _, ⟨(by (repeat (with_reducible first | exact Below.refl _ _ | apply below_drewN | apply below_drew | apply below_alloc)))⟩, ⟨Bs.start _ _ hs0r⟩⟩
    case round =>
      obtain ⟨s, r, rfl, rfl, hss, hsr, hrr, HB, HS⟩ := hrel
      obtain ⟨wz, hwz⟩ : ∃ wz : World, wz = wr := ⟨_, rfl⟩
      rw [← hwz] at HB ⊢
      clear hwz
      by_cases hlt : s < r
      · clear k1 k3
        repeat (rename_i x_; revert x_)
        (try revert B); (try revert Below); (try revert Bs); (try revert Chg); (try revert HB); (try revert HC1); (try revert HC2); (try revert HC3); (try revert HC4); (try revert HE5); (try revert HEI); (try revert HF8); (try revert HF9); (try revert HI); (try revert HIX); (try revert HM0); (try revert HM1); (try revert HM2); (try revert HM3); (try revert HM4)
        (try revert HMID); (try revert HN); (try revert HQ1); (try revert HS); (try revert HSR); (try revert IH); (try revert List); (try revert M); (try revert Mid); (try revert NN); (try revert O1); (try revert O2); (try revert R); (try revert RO); (try revert Try); (try revert World); (try revert a1); (try revert a2); (try revert a3); (try revert at_)
        (try revert c); (try revert c1); (try revert c2); (try revert cap); (try revert e); (try revert e1); (try revert e2); (try revert e3); (try revert e4); (try revert e5); (try revert e6); (try revert e7); (try revert e_); (try revert f1); (try revert f2); (try revert f3); (try revert f4); (try revert f5); (try revert f6); (try revert f7)
        (try revert f8); (try revert f9); (try revert g); (try revert go_cut); (try revert go_wp2); (try revert h); (try revert h0); (try revert h00); (try revert h1); (try revert h2); (try revert hN0); (try revert hN1); (try revert hNN); (try revert hNi); (try revert hNj); (try revert hNp); (try revert has); (try revert hb); (try revert hc); (try revert hcut)
        (try revert he); (try revert he0); (try revert hei); (try revert hen); (try revert hh); (try revert hii); (try revert hlt); (try revert hm); (try revert hm1); (try revert hm2); (try revert hmd); (try revert hmid); (try revert hmn); (try revert hn); (try revert hq1); (try revert hqb); (try revert hrel); (try revert hrm); (try revert hrr); (try revert hs)
        (try revert hs0); (try revert hs0r); (try revert hs1); (try revert hsr); (try revert hss); (try revert hwd); (try revert hww); (try revert hww2); (try revert hwz); (try revert intOf); (try revert k); (try revert la); (try revert lb); (try revert lm); (try revert lt); (try revert mid); (try revert n); (try revert ne_eq'); (try revert o1); (try revert o2)
        (try revert ordR); (try revert p); (try revert q1); (try revert qb); (try revert r); (try revert r0); (try revert rank); (try revert rest); (try revert round); (try revert s); (try revert s0); (try revert slices); (try revert v); (try revert v'); (try revert v20); (try revert v21); (try revert w); (try revert w'); (try revert w5); (try revert wc)
        (try revert wd); (try revert we); (try revert wr); (try revert wz); (try revert xs0); (try revert ys); (try revert u0); (try revert u1); (try revert u2); (try revert u3); (try revert u4); (try revert u5); (try revert u6); (try revert u7); (try revert u8); (try revert u9); (try revert u10); (try revert u11); (try revert u12); (try revert u13)
        (try revert u14); (try revert u15); (try revert u16); (try revert u17); (try revert u18); (try revert u19); (try revert u20); (try revert u21); (try revert u22); (try revert u23); (try revert u24); (try revert u25); (try revert u26); (try revert u27); (try revert u28); (try revert u29); (try revert u30); (try revert u31); (try revert u32); (try revert u33)
        (try revert u34); (try revert u35); (try revert u36); (try revert u37); (try revert u38); (try revert u39); (try revert u40); (try revert u41); (try revert u42); (try revert u43); (try revert u44); (try revert u45); (try revert u46); (try revert u47); (try revert u48); (try revert u49); (try revert u50); (try revert u51); (try revert u52); (try revert u53)
        (try revert u54); (try revert u55); (try revert u56); (try revert u57); (try revert u58); (try revert u59); (try revert u60); (try revert u61); (try revert u62); (try revert u63); (try revert u64); (try revert u65); (try revert u66); (try revert u67); (try revert u68); (try revert u69); (try revert u70); (try revert u71); (try revert u72); (try revert u73)
        (try revert u74); (try revert u75); (try revert u76); (try revert u77); (try revert u78); (try revert u79); (try revert u80); (try revert u81); (try revert u82); (try revert u83); (try revert u84); (try revert u85); (try revert u86); (try revert u87); (try revert u88); (try revert u89); (try revert u90); (try revert u91); (try revert u92); (try revert u93)
        (try revert u94); (try revert u95); (try revert u96); (try revert u97); (try revert u98); (try revert u99); (try revert u100); (try revert u101); (try revert u102); (try revert u103); (try revert u104); (try revert u105); (try revert u106); (try revert u107); (try revert u108); (try revert u109); (try revert u110); (try revert u111); (try revert u112); (try revert u113)
        (try revert u114); (try revert u115); (try revert u116); (try revert u117); (try revert u118); (try revert u119); (try revert u120); (try revert u121); (try revert u122); (try revert u123); (try revert u124); (try revert u125); (try revert u126); (try revert u127); (try revert u128); (try revert u129); (try revert u130); (try revert u131); (try revert u132); (try revert u133)
        (try revert u134); (try revert u135); (try revert u136); (try revert u137); (try revert u138); (try revert u139); (try revert u140); (try revert u141); (try revert u142); (try revert u143); (try revert u144); (try revert u145); (try revert u146); (try revert u147); (try revert u148); (try revert u149); (try revert u150); (try revert u151); (try revert u152); (try revert u153)
        (try revert u154); (try revert u155); (try revert u156); (try revert u157); (try revert u158); (try revert u159); (try revert u160); (try revert u161); (try revert u162); (try revert u163); (try revert u164); (try revert u165); (try revert u166); (try revert u167); (try revert u168); (try revert u169); (try revert u170); (try revert u171); (try revert u172); (try revert u173)
        (try revert u174); (try revert u175); (try revert u176); (try revert u177); (try revert u178); (try revert u179); (try revert u180); (try revert u181); (try revert u182); (try revert u183); (try revert u184); (try revert u185); (try revert u186); (try revert u187); (try revert u188); (try revert u189); (try revert u190); (try revert u191); (try revert u192); (try revert u193)
        (try revert u194); (try revert u195); (try revert u196); (try revert u197); (try revert u198); (try revert u199); (try revert u200); (try revert u201); (try revert u202); (try revert u203); (try revert u204); (try revert u205); (try revert u206); (try revert u207); (try revert u208); (try revert u209); (try revert u210); (try revert u211); (try revert u212); (try revert u213)
        (try revert u214); (try revert u215); (try revert u216); (try revert u217); (try revert u218); (try revert u219); (try revert u220); (try revert u221); (try revert u222); (try revert u223); (try revert u224); (try revert u225); (try revert u226); (try revert u227); (try revert u228); (try revert u229); (try revert u230); (try revert u231); (try revert u232); (try revert u233)
        (try revert u234); (try revert u235); (try revert u236); (try revert u237); (try revert u238); (try revert u239); (try revert u240); (try revert u241); (try revert u242); (try revert u243); (try revert u244); (try revert u245); (try revert u246); (try revert u247); (try revert u248); (try revert u249); (try revert u250); (try revert u251); (try revert u252); (try revert u253)
        (try revert u254); (try revert u255); (try revert u256); (try revert u257); (try revert u258); (try revert u259); (try revert u260); (try revert u261); (try revert u262); (try revert u263); (try revert u264); (try revert u265); (try revert u266); (try revert u267); (try revert u268); (try revert u269); (try revert u270); (try revert u271); (try revert u272); (try revert u273)
        (try revert u274); (try revert u275); (try revert u276); (try revert u277); (try revert u278); (try revert u279)
        exact k2.out
      · clear k2
        have hii : ¬ (s : Int) < r := by omega
        obtain rfl : s = r := by omega
        obtain ⟨f1, f2, f3, f4, f5, f6, f7, f8, f9⟩ := HS.out.fin ordR O1.out O2.out HMID.out h1 h2 HSR.out
        obtain ⟨e, he⟩ : ∃ e, e = mid + lm - s := ⟨_, rfl⟩
        rw [← he] at f3 f4 f5 f7 f8 f9
        have HF8 := Side.mk f8
        have HF9 := Side.mk f9
        have HM2 := Side.mk (HM1.out.below HB.out)
        have HC2 : Side (Chg w wz (fun k => k = g)) := ⟨HC1.out.trans (Chg.of_below HB.out) (fun _ _ h => h)⟩
        have hei : (mid : Int) + lm - s = (e : Int) := by omega
        have hen : (e : Int) ≤ 2000 := by omega
        have he0 : (0 : Int) ≤ (e : Int) := by omega
        have HEI := Side.mk hei
        clear f8 f9 HS HM1 HC1 HB he hei HIX HSR
        go_upto_region 39 with (fail)
        rw [HEI.out]
        obtain ⟨q1, hq1⟩ : ∃ q1 : Bool, q1 = (decide (s < lm) && decide (lm < e)) := ⟨_, rfl⟩
        go_cut [185] (fun v we => v = .bool q1 ∧ we = wz)
        case first =>
          repeat (rename_i x_; revert x_)
          (try revert B); (try revert Below); (try revert Bs); (try revert Chg); (try revert HB); (try revert HC1); (try revert HC2); (try revert HC3); (try revert HC4); (try revert HE5); (try revert HEI); (try revert HF8); (try revert HF9); (try revert HI); (try revert HIX); (try revert HM0); (try revert HM1); (try revert HM2); (try revert HM3); (try revert HM4)
          (try revert HMID); (try revert HN); (try revert HQ1); (try revert HS); (try revert HSR); (try revert IH); (try revert List); (try revert M); (try revert Mid); (try revert NN); (try revert O1); (try revert O2); (try revert R); (try revert RO); (try revert Try); (try revert World); (try revert a1); (try revert a2); (try revert a3); (try revert at_)
          (try revert c); (try revert c1); (try revert c2); (try revert cap); (try revert e); (try revert e1); (try revert e2); (try revert e3); (try revert e4); (try revert e5); (try revert e6); (try revert e7); (try revert e_); (try revert f1); (try revert f2); (try revert f3); (try revert f4); (try revert f5); (try revert f6); (try revert f7)
          (try revert f8); (try revert f9); (try revert g); (try revert go_cut); (try revert go_wp2); (try revert h); (try revert h0); (try revert h00); (try revert h1); (try revert h2); (try revert hN0); (try revert hN1); (try revert hNN); (try revert hNi); (try revert hNj); (try revert hNp); (try revert has); (try revert hb); (try revert hc); (try revert hcut)
          (try revert he); (try revert he0); (try revert hei); (try revert hen); (try revert hh); (try revert hii); (try revert hlt); (try revert hm); (try revert hm1); (try revert hm2); (try revert hmd); (try revert hmid); (try revert hmn); (try revert hn); (try revert hq1); (try revert hqb); (try revert hrel); (try revert hrm); (try revert hrr); (try revert hs)
          (try revert hs0); (try revert hs0r); (try revert hs1); (try revert hsr); (try revert hss); (try revert hwd); (try revert hww); (try revert hww2); (try revert hwz); (try revert intOf); (try revert k); (try revert la); (try revert lb); (try revert lm); (try revert lt); (try revert mid); (try revert n); (try revert ne_eq'); (try revert o1); (try revert o2)
          (try revert ordR); (try revert p); (try revert q1); (try revert qb); (try revert r); (try revert r0); (try revert rank); (try revert rest); (try revert round); (try revert s); (try revert s0); (try revert slices); (try revert v); (try revert v'); (try revert v20); (try revert v21); (try revert w); (try revert w'); (try revert w5); (try revert wc)
          (try revert wd); (try revert we); (try revert wr); (try revert wz); (try revert xs0); (try revert ys); (try revert u0); (try revert u1); (try revert u2); (try revert u3); (try revert u4); (try revert u5); (try revert u6); (try revert u7); (try revert u8); (try revert u9); (try revert u10); (try revert u11); (try revert u12); (try revert u13)
          (try revert u14); (try revert u15); (try revert u16); (try revert u17); (try revert u18); (try revert u19); (try revert u20); (try revert u21); (try revert u22); (try revert u23); (try revert u24); (try revert u25); (try revert u26); (try revert u27); (try revert u28); (try revert u29); (try revert u30); (try revert u31); (try revert u32); (try revert u33)
          (try revert u34); (try revert u35); (try revert u36); (try revert u37); (try revert u38); (try revert u39); (try revert u40); (try revert u41); (try revert u42); (try revert u43); (try revert u44); (try revert u45); (try revert u46); (try revert u47); (try revert u48); (try revert u49); (try revert u50); (try revert u51); (try revert u52); (try revert u53)
          (try revert u54); (try revert u55); (try revert u56); (try revert u57); (try revert u58); (try revert u59); (try revert u60); (try revert u61); (try revert u62); (try revert u63); (try revert u64); (try revert u65); (try revert u66); (try revert u67); (try revert u68); (try revert u69); (try revert u70); (try revert u71); (try revert u72); (try revert u73)
          (try revert u74); (try revert u75); (try revert u76); (try revert u77); (try revert u78); (try revert u79); (try revert u80); (try revert u81); (try revert u82); (try revert u83); (try revert u84); (try revert u85); (try revert u86); (try revert u87); (try revert u88); (try revert u89); (try revert u90); (try revert u91); (try revert u92); (try revert u93)
          (try revert u94); (try revert u95); (try revert u96); (try revert u97); (try revert u98); (try revert u99); (try revert u100); (try revert u101); (try revert u102); (try revert u103); (try revert u104); (try revert u105); (try revert u106); (try revert u107); (try revert u108); (try revert u109); (try revert u110); (try revert u111); (try revert u112); (try revert u113)
          (try revert u114); (try revert u115); (try revert u116); (try revert u117); (try revert u118); (try revert u119); (try revert u120); (try revert u121); (try revert u122); (try revert u123); (try revert u124); (try revert u125); (try revert u126); (try revert u127); (try revert u128); (try revert u129); (try revert u130); (try revert u131); (try revert u132); (try revert u133)
          (try revert u134); (try revert u135); (try revert u136); (try revert u137); (try revert u138); (try revert u139); (try revert u140); (try revert u141); (try revert u142); (try revert u143); (try revert u144); (try revert u145); (try revert u146); (try revert u147); (try revert u148); (try revert u149); (try revert u150); (try revert u151); (try revert u152); (try revert u153)
          (try revert u154); (try revert u155); (try revert u156); (try revert u157); (try revert u158); (try revert u159); (try revert u160); (try revert u161); (try revert u162); (try revert u163); (try revert u164); (try revert u165); (try revert u166); (try revert u167); (try revert u168); (try revert u169); (try revert u170); (try revert u171); (try revert u172); (try revert u173)
          (try revert u174); (try revert u175); (try revert u176); (try revert u177); (try revert u178); (try revert u179); (try revert u180); (try revert u181); (try revert u182); (try revert u183); (try revert u184); (try revert u185); (try revert u186); (try revert u187); (try revert u188); (try revert u189); (try revert u190); (try revert u191); (try revert u192); (try revert u193)
          (try revert u194); (try revert u195); (try revert u196); (try revert u197); (try revert u198); (try revert u199); (try revert u200); (try revert u201); (try revert u202); (try revert u203); (try revert u204); (try revert u205); (try revert u206); (try revert u207); (try revert u208); (try revert u209); (try revert u210); (try revert u211); (try revert u212); (try revert u213)
          (try revert u214); (try revert u215); (try revert u216); (try revert u217); (try revert u218); (try revert u219); (try revert u220); (try revert u221); (try revert u222); (try revert u223); (try revert u224); (try revert u225); (try revert u226); (try revert u227); (try revert u228); (try revert u229); (try revert u230); (try revert u231); (try revert u232); (try revert u233)
          (try revert u234); (try revert u235); (try revert u236); (try revert u237); (try revert u238); (try revert u239); (try revert u240); (try revert u241); (try revert u242); (try revert u243); (try revert u244); (try revert u245); (try revert u246); (try revert u247); (try revert u248); (try revert u249); (try revert u250); (try revert u251); (try revert u252); (try revert u253)
          (try revert u254); (try revert u255); (try revert u256); (try revert u257); (try revert u258); (try revert u259); (try revert u260); (try revert u261); (try revert u262); (try revert u263); (try revert u264); (try revert u265); (try revert u266); (try revert u267); (try revert u268); (try revert u269); (try revert u270); (try revert u271); (try revert u272); (try revert u273)
          (try revert u274); (try revert u275); (try revert u276); (try revert u277); (try revert u278); (try revert u279)
          exact k1.out
        case rest =>
        clear k1
        obtain ⟨rfl, hww⟩ := hcut
        have HM3 : Side (M wc B g n cap xs0) := ⟨by rw [hww]; exact HM2.out⟩
        have HC3 : Side (Chg w wc (fun k => k = g)) := ⟨by rw [hww]; exact HC2.out⟩
        have HQ1 := Side.mk hq1
        clear hww HM2 HC2 hq1
        go_step
        go_cut [185] (fun v we => ∃ ys : List R, Side (M we B g n cap ys) ∧ Side (Chg w we (fun k => k = g)) ∧ Side (Mid lt n (at_ xs0) (at_ ys) la s mid e lb))
        case first =>
          cases q1
          · have HN : Side (Mid lt n (at_ xs0) (at_ xs0) la s mid e lb) := ⟨Mid.of_rot ordR f1 f2 f3 f4 hb f5 O1.out O2.out HF8.out HF9.out (fun p => by
              have h := HQ1.out
              by_cases c1 : s < lm
              · rw [decide_eq_true c1, Bool.true_and] at h
                have c2 := of_decide_eq_false h.symm
                rw [show e = lm by omega, rot_nil2 s lm p f2]
              · rw [show s = lm by omega, rot_nil1])⟩
            clear HQ1 HF8 HF9 HI O1 O2 HMID
            go_wp2
            go_meet
            case rel => exact ⟨xs0, HM3, HC3, HN⟩
          · have h := HQ1.out
            have hh : s < lm ∧ lm < e := by simpa using h.symm
            have RO := fun w' (hm : M w' B g n cap xs0) => rotate_at w' B g n cap xs0 (.func (.func 20) #[] #[]) hm s lm e hh.1 hh.2 (by omega)
            clear h HQ1
            go_wp2_with fail
            refine (RO _ (HM3.out.below (by (repeat (with_reducible first | exact Below.refl _ _ | apply below_drewN | apply below_drew | apply below_alloc))))).mono ?_
            rintro e_ w5 ⟨rfl, ys, hm, hc, hs⟩
            have HN : Side (Mid lt n (at_ xs0) (at_ ys) la s mid e lb) := ⟨Mid.of_rot ordR f1 f2 f3 f4 hb f5 O1.out O2.out HF8.out HF9.out hs⟩
            have HM4 := Side.mk hm
            have HC4 : Side (Chg w w5 (fun k => k = g)) := ⟨(HC3.out.trans (Chg.of_below (by (repeat (with_reducible first | exact Below.refl _ _ | apply below_drewN | apply below_drew | apply below_alloc)))) (fun _ _ h => h)).trans hc (fun _ _ h => h)⟩
            clear hm hc hs RO HF8 HF9 HI O1 O2 HMID HM3 HC3
            go_wp2
            go_meet
            case rel => exact ⟨ys, HM4, HC4, HN⟩
        case rest =>
        obtain ⟨ys, HM4, HC4, HN⟩ := hcut
        clear HM3 HC3 HQ1 HF8 HF9
        repeat (rename_i x_; revert x_)
        (try revert B); (try revert Below); (try revert Bs); (try revert Chg); (try revert HB); (try revert HC1); (try revert HC2); (try revert HC3); (try revert HC4); (try revert HE5); (try revert HEI); (try revert HF8); (try revert HF9); (try revert HI); (try revert HIX); (try revert HM0); (try revert HM1); (try revert HM2); (try revert HM3); (try revert HM4)
        (try revert HMID); (try revert HN); (try revert HQ1); (try revert HS); (try revert HSR); (try revert IH); (try revert List); (try revert M); (try revert Mid); (try revert NN); (try revert O1); (try revert O2); (try revert R); (try revert RO); (try revert Try); (try revert World); (try revert a1); (try revert a2); (try revert a3); (try revert at_)
        (try revert c); (try revert c1); (try revert c2); (try revert cap); (try revert e); (try revert e1); (try revert e2); (try revert e3); (try revert e4); (try revert e5); (try revert e6); (try revert e7); (try revert e_); (try revert f1); (try revert f2); (try revert f3); (try revert f4); (try revert f5); (try revert f6); (try revert f7)
        (try revert f8); (try revert f9); (try revert g); (try revert go_cut); (try revert go_wp2); (try revert h); (try revert h0); (try revert h00); (try revert h1); (try revert h2); (try revert hN0); (try revert hN1); (try revert hNN); (try revert hNi); (try revert hNj); (try revert hNp); (try revert has); (try revert hb); (try revert hc); (try revert hcut)
        (try revert he); (try revert he0); (try revert hei); (try revert hen); (try revert hh); (try revert hii); (try revert hlt); (try revert hm); (try revert hm1); (try revert hm2); (try revert hmd); (try revert hmid); (try revert hmn); (try revert hn); (try revert hq1); (try revert hqb); (try revert hrel); (try revert hrm); (try revert hrr); (try revert hs)
        (try revert hs0); (try revert hs0r); (try revert hs1); (try revert hsr); (try revert hss); (try revert hwd); (try revert hww); (try revert hww2); (try revert hwz); (try revert intOf); (try revert k); (try revert la); (try revert lb); (try revert lm); (try revert lt); (try revert mid); (try revert n); (try revert ne_eq'); (try revert o1); (try revert o2)
        (try revert ordR); (try revert p); (try revert q1); (try revert qb); (try revert r); (try revert r0); (try revert rank); (try revert rest); (try revert round); (try revert s); (try revert s0); (try revert slices); (try revert v); (try revert v'); (try revert v20); (try revert v21); (try revert w); (try revert w'); (try revert w5); (try revert wc)
        (try revert wd); (try revert we); (try revert wr); (try revert wz); (try revert xs0); (try revert ys); (try revert u0); (try revert u1); (try revert u2); (try revert u3); (try revert u4); (try revert u5); (try revert u6); (try revert u7); (try revert u8); (try revert u9); (try revert u10); (try revert u11); (try revert u12); (try revert u13)
        (try revert u14); (try revert u15); (try revert u16); (try revert u17); (try revert u18); (try revert u19); (try revert u20); (try revert u21); (try revert u22); (try revert u23); (try revert u24); (try revert u25); (try revert u26); (try revert u27); (try revert u28); (try revert u29); (try revert u30); (try revert u31); (try revert u32); (try revert u33)
        (try revert u34); (try revert u35); (try revert u36); (try revert u37); (try revert u38); (try revert u39); (try revert u40); (try revert u41); (try revert u42); (try revert u43); (try revert u44); (try revert u45); (try revert u46); (try revert u47); (try revert u48); (try revert u49); (try revert u50); (try revert u51); (try revert u52); (try revert u53)
        (try revert u54); (try revert u55); (try revert u56); (try revert u57); (try revert u58); (try revert u59); (try revert u60); (try revert u61); (try revert u62); (try revert u63); (try revert u64); (try revert u65); (try revert u66); (try revert u67); (try revert u68); (try revert u69); (try revert u70); (try revert u71); (try revert u72); (try revert u73)
        (try revert u74); (try revert u75); (try revert u76); (try revert u77); (try revert u78); (try revert u79); (try revert u80); (try revert u81); (try revert u82); (try revert u83); (try revert u84); (try revert u85); (try revert u86); (try revert u87); (try revert u88); (try revert u89); (try revert u90); (try revert u91); (try revert u92); (try revert u93)
        (try revert u94); (try revert u95); (try revert u96); (try revert u97); (try revert u98); (try revert u99); (try revert u100); (try revert u101); (try revert u102); (try revert u103); (try revert u104); (try revert u105); (try revert u106); (try revert u107); (try revert u108); (try revert u109); (try revert u110); (try revert u111); (try revert u112); (try revert u113)
        (try revert u114); (try revert u115); (try revert u116); (try revert u117); (try revert u118); (try revert u119); (try revert u120); (try revert u121); (try revert u122); (try revert u123); (try revert u124); (try revert u125); (try revert u126); (try revert u127); (try revert u128); (try revert u129); (try revert u130); (try revert u131); (try revert u132); (try revert u133)
        (try revert u134); (try revert u135); (try revert u136); (try revert u137); (try revert u138); (try revert u139); (try revert u140); (try revert u141); (try revert u142); (try revert u143); (try revert u144); (try revert u145); (try revert u146); (try revert u147); (try revert u148); (try revert u149); (try revert u150); (try revert u151); (try revert u152); (try revert u153)
        (try revert u154); (try revert u155); (try revert u156); (try revert u157); (try revert u158); (try revert u159); (try revert u160); (try revert u161); (try revert u162); (try revert u163); (try revert u164); (try revert u165); (try revert u166); (try revert u167); (try revert u168); (try revert u169); (try revert u170); (try revert u171); (try revert u172); (try revert u173)
        (try revert u174); (try revert u175); (try revert u176); (try revert u177); (try revert u178); (try revert u179); (try revert u180); (try revert u181); (try revert u182); (try revert u183); (try revert u184); (try revert u185); (try revert u186); (try revert u187); (try revert u188); (try revert u189); (try revert u190); (try revert u191); (try revert u192); (try revert u193)
        (try revert u194); (try revert u195); (try revert u196); (try revert u197); (try revert u198); (try revert u199); (try revert u200); (try revert u201); (try revert u202); (try revert u203); (try revert u204); (try revert u205); (try revert u206); (try revert u207); (try revert u208); (try revert u209); (try revert u210); (try revert u211); (try revert u212); (try revert u213)
        (try revert u214); (try revert u215); (try revert u216); (try revert u217); (try revert u218); (try revert u219); (try revert u220); (try revert u221); (try revert u222); (try revert u223); (try revert u224); (try revert u225); (try revert u226); (try revert u227); (try revert u228); (try revert u229); (try revert u230); (try revert u231); (try revert u232); (try revert u233)
        (try revert u234); (try revert u235); (try revert u236); (try revert u237); (try revert u238); (try revert u239); (try revert u240); (try revert u241); (try revert u242); (try revert u243); (try revert u244); (try revert u245); (try revert u246); (try revert u247); (try revert u248); (try revert u249); (try revert u250); (try revert u251); (try revert u252); (try revert u253)
        (try revert u254); (try revert u255); (try revert u256); (try revert u257); (try revert u258); (try revert u259); (try revert u260); (try revert u261); (try revert u262); (try revert u263); (try revert u264); (try revert u265); (try revert u266); (try revert u267); (try revert u268); (try revert u269); (try revert u270); (try revert u271); (try revert u272); (try revert u273)
        (try revert u274); (try revert u275); (try revert u276); (try revert u277); (try revert u278); (try revert u279)
        exact k3.out
end Go.Proofs.Ytmjgadhknliiaaa.SoGp

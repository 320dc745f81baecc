/- Package calendar: the walk of CalendarPlays. No condition. -/
import Derived.Test.YtbppjaglgbhckaaCbA
set_option linter.unusedVariables false
set_option linter.unusedSimpArgs false
namespace Go.Proofs.Ytbppjaglgbhckaa.CbBp
open Go.RowKit Go.Proofs.Ytbppjaglgbhckaa.Kit Go.Proofs.Ytbppjaglgbhckaa.Kit2 Go.Proofs.Ytbppjaglgbhckaa.Kit4 Go.Proofs.Ytbppjaglgbhckaa.Kit5 Go.Proofs.Ytbppjaglgbhckaa.CaA Go.Proofs.Ytbppjaglgbhckaa.CaG Go.Proofs.Ytbppjaglgbhckaa.CaH Go.Proofs.Ytbppjaglgbhckaa.CaI Go.Proofs.Ytbppjaglgbhckaa.CaK Go.Proofs.Ytbppjaglgbhckaa.CaM Go.Proofs.Ytbppjaglgbhckaa.CaN Go.Proofs.Ytbppjaglgbhckaa.CaP Go.Proofs.Ytbppjaglgbhckaa.CaQ Go.Proofs.Ytbppjaglgbhckaa.CaR Go.Proofs.Ytbppjaglgbhckaa.CaT Go.Proofs.Ytbppjaglgbhckaa.CaX Go.Proofs.Ytbppjaglgbhckaa.CaY Go.Proofs.Ytbppjaglgbhckaa.CaZ Go.Proofs.Ytbppjaglgbhckaa.CbA
open Go.Proofs.YtbppjaglgbhckaaW.PrintLast
abbrev DK : List CK := [.i .i64, .i .i64, .i .i64]
def Y (V : Nat → Nat → Value) (i : Nat) : De := (intOf (V i 0), intOf (V i 1), intOf (V i 2))
theorem row3 {W w : World} {a : Option Addr} {len : Nat} {V : Nat → Nat → Value} (h : InRow DK W a len V) (hb : Below W.heap.size W w) (i : Nat) (hi : i < len) :
    ∃ g off, a = some ⟨g, off, none⟩ ∧ g < w.heap.size ∧ w.cell? ⟨g, off + i * 3, none⟩ = some (.int .i64 (Y V i).1) ∧ w.cell? ⟨g, off + i * 3 + 1, none⟩ = some (.int .i64 (Y V i).2.1) ∧ w.cell? ⟨g, off + i * 3 + 2, none⟩ = some (.int .i64 (Y V i).2.2) := by
  have z0 := h.int 0 .i64 rfl i hi
  have z1 := h.int 1 .i64 rfl i hi
  have z2 := h.int 2 .i64 rfl i hi
  obtain ⟨b, off, hp, hcs⟩ := h
  obtain ⟨rfl, hbl⟩ := hp (by omega)
  have c0 := (hcs i hi 0 _ rfl).1
  have c1 := (hcs i hi 1 _ rfl).1
  have c2 := (hcs i hi 2 _ rfl).1
  rw [z0.1] at c0
  rw [z1.1] at c1
  rw [z2.1] at c2
  exact ⟨b, off, rfl, Nat.lt_of_lt_of_le hbl hb.size, (hb.cell (p := ⟨b, off + i * 3, none⟩) hbl).trans c0, (hb.cell (p := ⟨b, off + i * 3 + 1, none⟩) hbl).trans c1, (hb.cell (p := ⟨b, off + i * 3 + 2, none⟩) hbl).trans c2⟩
structure Hole (G : Prop) : Prop where
  out : G
set_option maxHeartbeats 400000000 in
set_option maxRecDepth 100000 in
noncomputable def part : (G1 : Prop) ×' (G2 : Prop) ×' (G3 : Prop) ×' (G4 : Prop) ×' (Hole G1 → Hole G2 → Hole G3 → Hole G4 → ∀ (a : Option Addr) (len cap : Nat) (V : Nat → Nat → Value) (w : World), InRow DK w a len V → len ≤ maxLen → Calls Try.prog 4 #[.slice a len cap] w fun r w' => r = .returned (.bool true) ∧ Below w.heap.size w w') := by
  apply PSigma.mk
  apply PSigma.mk
  apply PSigma.mk
  apply PSigma.mk
  · intro k1 k2 k3 k4
    intro a len cap V w hrow hlen
    have HROW := Side.mk hrow
    have hl : (len : Int) ≤ 9223372036854775807 := by unfold maxLen at hlen; omega
    clear hrow hlen
    by_cases hbig : 200 < len
    · have hb3 : (200 : Int) < len := by omega
      clear hbig
      go_enter Try.func4, Try.ntmps4
      go_wp2_with fail
      refine (awake_at _).mono ?_
      rintro e w1 ⟨rfl, hb⟩
      have HB := Side.mk hb
      clear hb
      go_wp2
      go_ret
      exact ⟨rfl, HB.out⟩
    have hb3 : ¬ (200 : Int) < len := by omega
    have hb4 : (len : Int) ≤ 200 := by omega
    go_enter Try.func4, Try.ntmps4
    go_wp2_with fail
    refine (awake_at _).mono ?_
    rintro e wa ⟨rfl, hb⟩
    have HB := Side.mk hb
    clear hb
    go_wp2_with fail
    refine (New_at _).mono ?_
    rintro e w1 ⟨rfl, rfl⟩
    have P0 : Side (Pl w (wa.alloc (.cells #[.slice none 0 0] 42)) wa.heap.size (.slice none 0 0) []) := ⟨⟨St.start HB.out, MR.nil _ _⟩⟩
    obtain ⟨gq, hgq⟩ : ∃ gq, gq = wa.heap.size := ⟨_, rfl⟩
    rw [← hgq] at P0 ⊢
    clear hgq HB
    generalize wa.alloc (.cells #[.slice none 0 0] 42) = w1 at *
    go_wp2_with fail
    go_loopw [4, 5] (fun v4 v5 wr => ∃ (i : Nat) (ms : List De), v5 = .int .i64 (i : Int) ∧ i ≤ len ∧ ms.length ≤ i ∧ Side (Pl w wr gq v4 ms)) (fun _ v5 _ => (len - intOf v5).toNat)
    case atStart => exact ⟨0, [], rfl, Nat.zero_le _, Nat.le_refl _, P0⟩
    case round =>
      clear P0
      obtain ⟨i, ms, rfl, hi, hms, HP⟩ := hrel
      obtain ⟨a4, c4, rfl, hc4, hc5⟩ := HP.out.row.shape
      have hi0 : (0 : Int) ≤ i := by omega
      obtain ⟨wp, hwp⟩ : ∃ wp : World, wp = wr := ⟨_, rfl⟩
      rw [← hwp] at HP ⊢
      clear hwp hc4 hc5
      by_cases hin : i < len
      · have hii : (i : Int) < len := by omega
        have hi1 : (i : Int) + 1 ≤ 9223372036854775807 := by omega
        obtain ⟨g, off, rfl, hgl, c0, c1, c2⟩ := row3 HROW.out HP.out.st.below i hin
        generalize Y V i = d at *
        obtain ⟨dd, dt, di⟩ := d
        simp only at c0 c1 c2
        go_upto_region 13 with (fail)
        have HP1 := Side.mk (HP.out.below ((Below.refl wp.heap.size wp).alloc (Nat.le_refl _) (.cells #[.int .i64 dd, .int .i64 dt, .int .i64 di] 34)))
        have HBX := Side.mk (show At1 (wp.alloc (.cells #[.int .i64 dd, .int .i64 dt, .int .i64 di] 34)) wp.heap.size (dd, dt, di) from heap_alloc_new wp _)
        generalize wp.heap.size = p at *
        generalize wp.alloc _ = wq at *
        have b0 : wq.cell? ⟨p, 0, none⟩ = some (.int .i64 dd) := cell_of_row wq p 0 _ _ (0, 0) HBX.out
        have hpl := HBX.out.lt
        clear HP c0 c1 c2 hgl
        go_upto_block 2 with (fail)
        go_cut [4] (fun v4 we => ∃ ms2 : List De, ms2.length ≤ i + 1 ∧ Side (Pl w we gq v4 ms2))
        case first =>
          go_upto_region 14 with (fail)
          obtain ⟨bb, hbb⟩ : ∃ bb : Bool, bb = decide (dd = 0 ∨ dd = 1 ∨ dd = 2 ∨ dd = 3) := ⟨_, rfl⟩
          have HBB := Side.mk hbb
          clear hbb
          have hd5 : dd = 0 ∨ dd = 1 ∨ dd = 2 ∨ dd = 3 ∨ (¬ dd = 0 ∧ ¬ dd = 1 ∧ ¬ dd = 2 ∧ ¬ dd = 3) := by omega
          obtain ⟨e0, he0⟩ : ∃ e0 : Bool, e0 = (dd == 0) := ⟨_, rfl⟩
          have HE0 := Side.mk he0
          clear he0 hd5
          go_cut [35] (fun v we => v = .bool e0 ∧ we = wq)
          case first =>
            clear HP1 HBX b0 hpl HBB
            go_wp2
            go_meet
            case rel => exact ⟨by rw [HE0.out], rfl⟩
          case rest =>
          obtain ⟨rfl, hww⟩ := hcut
          have HP2 : Side (Pl w wc gq (.slice a4 ms.length c4) ms) := ⟨by rw [hww]; exact HP1.out⟩
          have HBX2 : Side (At1 wc p (dd, dt, di)) := ⟨by rw [hww]; exact HBX.out⟩
          clear hww HP1 HBX b0 hpl
          go_step
          go_cut [35] (fun v we => v = .bool bb ∧ we = wc)
          case first =>
            clear k1 k2 k3
            clear HP2 HBX2 HROW
            repeat (rename_i x_; revert x_)
            (try revert At1); (try revert Below); (try revert De); (try revert Go); (try revert HA); (try revert HB); (try revert HBB); (try revert HBX); (try revert HBX2); (try revert HC); (try revert HC3); (try revert HC4); (try revert HE0); (try revert HP); (try revert HP1); (try revert HP2); (try revert HROW); (try revert Len_st); (try revert List); (try revert MR)
            (try revert New_at); (try revert P0); (try revert Pl); (try revert St); (try revert Try); (try revert V); (try revert World); (try revert Y); (try revert a); (try revert a4); (try revert a5); (try revert b0); (try revert bb); (try revert c0); (try revert c1); (try revert c2); (try revert c4); (try revert c5); (try revert cap); (try revert cp)
            (try revert cur); (try revert d); (try revert dd); (try revert di); (try revert dt); (try revert e); (try revert e0); (try revert g); (try revert g5); (try revert go_cut); (try revert go_ret); (try revert go_wp2); (try revert gq); (try revert h0); (try revert h4); (try revert h5); (try revert hb); (try revert hb3); (try revert hb4); (try revert hbb)
            (try revert hbig); (try revert hc4); (try revert hc5); (try revert hcase); (try revert hcut); (try revert hd5); (try revert he0); (try revert hgl); (try revert hgq); (try revert hi); (try revert hi0); (try revert hi1); (try revert hii); (try revert hin); (try revert hl); (try revert hlen); (try revert hm2); (try revert hms); (try revert hn5); (try revert hn6)
            (try revert hn7); (try revert hpl); (try revert hr); (try revert hrel); (try revert hrow); (try revert hv); (try revert hw1); (try revert hw2); (try revert hwp); (try revert hwq); (try revert hww); (try revert i); (try revert intOf); (try revert len); (try revert maxLen); (try revert ms); (try revert ms2); (try revert n5); (try revert off); (try revert off5)
            (try revert only); (try revert p); (try revert r); (try revert r1); (try revert rest); (try revert round); (try revert row3); (try revert v); (try revert v4); (try revert v5); (try revert w); (try revert w1); (try revert w3); (try revert w4); (try revert wa); (try revert wc); (try revert we); (try revert wp); (try revert wq); (try revert wr)
            (try revert x); (try revert u0); (try revert u1); (try revert u2); (try revert u3); (try revert u4); (try revert u5); (try revert u6); (try revert u7); (try revert u8); (try revert u9); (try revert u10); (try revert u11); (try revert u12); (try revert u13); (try revert u14); (try revert u15); (try revert u16); (try revert u17); (try revert u18)
            (try revert u19); (try revert u20); (try revert u21); (try revert u22); (try revert u23); (try revert u24); (try revert u25); (try revert u26); (try revert u27); (try revert u28); (try revert u29); (try revert u30); (try revert u31); (try revert u32); (try revert u33); (try revert u34); (try revert u35); (try revert u36); (try revert u37); (try revert u38)
            (try revert u39); (try revert u40); (try revert u41); (try revert u42); (try revert u43); (try revert u44); (try revert u45); (try revert u46); (try revert u47); (try revert u48); (try revert u49); (try revert u50); (try revert u51); (try revert u52); (try revert u53); (try revert u54); (try revert u55); (try revert u56); (try revert u57); (try revert u58)
            (try revert u59); (try revert u60); (try revert u61); (try revert u62); (try revert u63); (try revert u64); (try revert u65); (try revert u66); (try revert u67); (try revert u68); (try revert u69); (try revert u70); (try revert u71); (try revert u72); (try revert u73); (try revert u74); (try revert u75); (try revert u76); (try revert u77); (try revert u78)
            (try revert u79); (try revert u80); (try revert u81); (try revert u82); (try revert u83); (try revert u84); (try revert u85); (try revert u86); (try revert u87); (try revert u88); (try revert u89); (try revert u90); (try revert u91); (try revert u92); (try revert u93); (try revert u94); (try revert u95); (try revert u96); (try revert u97); (try revert u98)
            (try revert u99); (try revert u100); (try revert u101); (try revert u102); (try revert u103); (try revert u104); (try revert u105); (try revert u106); (try revert u107); (try revert u108); (try revert u109); (try revert u110); (try revert u111); (try revert u112); (try revert u113); (try revert u114); (try revert u115); (try revert u116); (try revert u117); (try revert u118)
            (try revert u119); (try revert u120); (try revert u121); (try revert u122); (try revert u123); (try revert u124); (try revert u125); (try revert u126); (try revert u127); (try revert u128); (try revert u129); (try revert u130); (try revert u131); (try revert u132); (try revert u133); (try revert u134); (try revert u135); (try revert u136); (try revert u137); (try revert u138)
            (try revert u139); (try revert u140); (try revert u141); (try revert u142); (try revert u143); (try revert u144); (try revert u145); (try revert u146); (try revert u147); (try revert u148); (try revert u149); (try revert u150); (try revert u151); (try revert u152); (try revert u153); (try revert u154); (try revert u155); (try revert u156); (try revert u157); (try revert u158)
            (try revert u159); (try revert u160); (try revert u161); (try revert u162); (try revert u163); (try revert u164); (try revert u165); (try revert u166); (try revert u167); (try revert u168); (try revert u169); (try revert u170); (try revert u171); (try revert u172); (try revert u173); (try revert u174); (try revert u175); (try revert u176); (try revert u177); (try revert u178)
            (try revert u179); (try revert u180); (try revert u181); (try revert u182); (try revert u183); (try revert u184); (try revert u185); (try revert u186); (try revert u187); (try revert u188); (try revert u189); (try revert u190); (try revert u191); (try revert u192); (try revert u193); (try revert u194); (try revert u195); (try revert u196); (try revert u197); (try revert u198)
            (try revert u199); (try revert u200); (try revert u201); (try revert u202); (try revert u203); (try revert u204); (try revert u205); (try revert u206); (try revert u207); (try revert u208); (try revert u209); (try revert u210); (try revert u211); (try revert u212); (try revert u213); (try revert u214); (try revert u215); (try revert u216); (try revert u217); (try revert u218)
            (try revert u219); (try revert u220); (try revert u221); (try revert u222); (try revert u223); (try revert u224); (try revert u225); (try revert u226); (try revert u227); (try revert u228); (try revert u229); (try revert u230); (try revert u231); (try revert u232); (try revert u233); (try revert u234); (try revert u235); (try revert u236); (try revert u237); (try revert u238)
            (try revert u239); (try revert u240); (try revert u241); (try revert u242); (try revert u243); (try revert u244); (try revert u245); (try revert u246); (try revert u247); (try revert u248); (try revert u249); (try revert u250); (try revert u251); (try revert u252); (try revert u253); (try revert u254); (try revert u255); (try revert u256); (try revert u257); (try revert u258)
            (try revert u259); (try revert u260); (try revert u261); (try revert u262); (try revert u263); (try revert u264); (try revert u265); (try revert u266); (try revert u267); (try revert u268); (try revert u269); (try revert u270); (try revert u271); (try revert u272); (try revert u273); (try revert u274); (try revert u275); (try revert u276); (try revert u277); (try revert u278)
            (try revert u279)
            exact k4.out
          case rest =>
          clear k4
          obtain ⟨rfl, hww⟩ := hcut
          have HA : Side (Pl w wc gq (.slice a4 ms.length c4) ms) := ⟨by rw [hww]; exact HP2.out⟩
          have HB : Side (At1 wc p (dd, dt, di)) := ⟨by rw [hww]; exact HBX2.out⟩
          clear hww HP2 HBX2 HE0
          obtain ⟨wq, hwq⟩ : ∃ wq : World, wq = wc := ⟨_, rfl⟩
          rw [← hwq] at HA HB ⊢
          clear hwq
          go_step
          cases bb
          · clear k1
            have hcase : dd = 4 ∨ dd = 5 ∨ (¬ dd = 4 ∧ ¬ dd = 5) := by omega
            rcases hcase with rfl | rfl | ⟨h4, h5⟩
            · clear k3
              clear HBB
              repeat (rename_i x_; revert x_)
              (try revert At1); (try revert Below); (try revert De); (try revert Go); (try revert HA); (try revert HB); (try revert HBB); (try revert HBX); (try revert HBX2); (try revert HC); (try revert HC3); (try revert HC4); (try revert HE0); (try revert HP); (try revert HP1); (try revert HP2); (try revert HROW); (try revert Len_st); (try revert List); (try revert MR)
              (try revert New_at); (try revert P0); (try revert Pl); (try revert St); (try revert Try); (try revert V); (try revert World); (try revert Y); (try revert a); (try revert a4); (try revert a5); (try revert b0); (try revert bb); (try revert c0); (try revert c1); (try revert c2); (try revert c4); (try revert c5); (try revert cap); (try revert cp)
              (try revert cur); (try revert d); (try revert dd); (try revert di); (try revert dt); (try revert e); (try revert e0); (try revert g); (try revert g5); (try revert go_cut); (try revert go_ret); (try revert go_wp2); (try revert gq); (try revert h0); (try revert h4); (try revert h5); (try revert hb); (try revert hb3); (try revert hb4); (try revert hbb)
              (try revert hbig); (try revert hc4); (try revert hc5); (try revert hcase); (try revert hcut); (try revert hd5); (try revert he0); (try revert hgl); (try revert hgq); (try revert hi); (try revert hi0); (try revert hi1); (try revert hii); (try revert hin); (try revert hl); (try revert hlen); (try revert hm2); (try revert hms); (try revert hn5); (try revert hn6)
              (try revert hn7); (try revert hpl); (try revert hr); (try revert hrel); (try revert hrow); (try revert hv); (try revert hw1); (try revert hw2); (try revert hwp); (try revert hwq); (try revert hww); (try revert i); (try revert intOf); (try revert len); (try revert maxLen); (try revert ms); (try revert ms2); (try revert n5); (try revert off); (try revert off5)
              (try revert only); (try revert p); (try revert r); (try revert r1); (try revert rest); (try revert round); (try revert row3); (try revert v); (try revert v4); (try revert v5); (try revert w); (try revert w1); (try revert w3); (try revert w4); (try revert wa); (try revert wc); (try revert we); (try revert wp); (try revert wq); (try revert wr)
              (try revert x); (try revert u0); (try revert u1); (try revert u2); (try revert u3); (try revert u4); (try revert u5); (try revert u6); (try revert u7); (try revert u8); (try revert u9); (try revert u10); (try revert u11); (try revert u12); (try revert u13); (try revert u14); (try revert u15); (try revert u16); (try revert u17); (try revert u18)
              (try revert u19); (try revert u20); (try revert u21); (try revert u22); (try revert u23); (try revert u24); (try revert u25); (try revert u26); (try revert u27); (try revert u28); (try revert u29); (try revert u30); (try revert u31); (try revert u32); (try revert u33); (try revert u34); (try revert u35); (try revert u36); (try revert u37); (try revert u38)
              (try revert u39); (try revert u40); (try revert u41); (try revert u42); (try revert u43); (try revert u44); (try revert u45); (try revert u46); (try revert u47); (try revert u48); (try revert u49); (try revert u50); (try revert u51); (try revert u52); (try revert u53); (try revert u54); (try revert u55); (try revert u56); (try revert u57); (try revert u58)
              (try revert u59); (try revert u60); (try revert u61); (try revert u62); (try revert u63); (try revert u64); (try revert u65); (try revert u66); (try revert u67); (try revert u68); (try revert u69); (try revert u70); (try revert u71); (try revert u72); (try revert u73); (try revert u74); (try revert u75); (try revert u76); (try revert u77); (try revert u78)
              (try revert u79); (try revert u80); (try revert u81); (try revert u82); (try revert u83); (try revert u84); (try revert u85); (try revert u86); (try revert u87); (try revert u88); (try revert u89); (try revert u90); (try revert u91); (try revert u92); (try revert u93); (try revert u94); (try revert u95); (try revert u96); (try revert u97); (try revert u98)
              (try revert u99); (try revert u100); (try revert u101); (try revert u102); (try revert u103); (try revert u104); (try revert u105); (try revert u106); (try revert u107); (try revert u108); (try revert u109); (try revert u110); (try revert u111); (try revert u112); (try revert u113); (try revert u114); (try revert u115); (try revert u116); (try revert u117); (try revert u118)
              (try revert u119); (try revert u120); (try revert u121); (try revert u122); (try revert u123); (try revert u124); (try revert u125); (try revert u126); (try revert u127); (try revert u128); (try revert u129); (try revert u130); (try revert u131); (try revert u132); (try revert u133); (try revert u134); (try revert u135); (try revert u136); (try revert u137); (try revert u138)
              (try revert u139); (try revert u140); (try revert u141); (try revert u142); (try revert u143); (try revert u144); (try revert u145); (try revert u146); (try revert u147); (try revert u148); (try revert u149); (try revert u150); (try revert u151); (try revert u152); (try revert u153); (try revert u154); (try revert u155); (try revert u156); (try revert u157); (try revert u158)
              (try revert u159); (try revert u160); (try revert u161); (try revert u162); (try revert u163); (try revert u164); (try revert u165); (try revert u166); (try revert u167); (try revert u168); (try revert u169); (try revert u170); (try revert u171); (try revert u172); (try revert u173); (try revert u174); (try revert u175); (try revert u176); (try revert u177); (try revert u178)
              (try revert u179); (try revert u180); (try revert u181); (try revert u182); (try revert u183); (try revert u184); (try revert u185); (try revert u186); (try revert u187); (try revert u188); (try revert u189); (try revert u190); (try revert u191); (try revert u192); (try revert u193); (try revert u194); (try revert u195); (try revert u196); (try revert u197); (try revert u198)
              (try revert u199); (try revert u200); (try revert u201); (try revert u202); (try revert u203); (try revert u204); (try revert u205); (try revert u206); (try revert u207); (try revert u208); (try revert u209); (try revert u210); (try revert u211); (try revert u212); (try revert u213); (try revert u214); (try revert u215); (try revert u216); (try revert u217); (try revert u218)
              (try revert u219); (try revert u220); (try revert u221); (try revert u222); (try revert u223); (try revert u224); (try revert u225); (try revert u226); (try revert u227); (try revert u228); (try revert u229); (try revert u230); (try revert u231); (try revert u232); (try revert u233); (try revert u234); (try revert u235); (try revert u236); (try revert u237); (try revert u238)
              (try revert u239); (try revert u240); (try revert u241); (try revert u242); (try revert u243); (try revert u244); (try revert u245); (try revert u246); (try revert u247); (try revert u248); (try revert u249); (try revert u250); (try revert u251); (try revert u252); (try revert u253); (try revert u254); (try revert u255); (try revert u256); (try revert u257); (try revert u258)
              (try revert u259); (try revert u260); (try revert u261); (try revert u262); (try revert u263); (try revert u264); (try revert u265); (try revert u266); (try revert u267); (try revert u268); (try revert u269); (try revert u270); (try revert u271); (try revert u272); (try revert u273); (try revert u274); (try revert u275); (try revert u276); (try revert u277); (try revert u278)
              (try revert u279)
              exact k2.out
            · clear k2
              clear HBB
              repeat (rename_i x_; revert x_)
              (try revert At1); (try revert Below); (try revert De); (try revert Go); (try revert HA); (try revert HB); (try revert HBB); (try revert HBX); (try revert HBX2); (try revert HC); (try revert HC3); (try revert HC4); (try revert HE0); (try revert HP); (try revert HP1); (try revert HP2); (try revert HROW); (try revert Len_st); (try revert List); (try revert MR)
              (try revert New_at); (try revert P0); (try revert Pl); (try revert St); (try revert Try); (try revert V); (try revert World); (try revert Y); (try revert a); (try revert a4); (try revert a5); (try revert b0); (try revert bb); (try revert c0); (try revert c1); (try revert c2); (try revert c4); (try revert c5); (try revert cap); (try revert cp)
              (try revert cur); (try revert d); (try revert dd); (try revert di); (try revert dt); (try revert e); (try revert e0); (try revert g); (try revert g5); (try revert go_cut); (try revert go_ret); (try revert go_wp2); (try revert gq); (try revert h0); (try revert h4); (try revert h5); (try revert hb); (try revert hb3); (try revert hb4); (try revert hbb)
              (try revert hbig); (try revert hc4); (try revert hc5); (try revert hcase); (try revert hcut); (try revert hd5); (try revert he0); (try revert hgl); (try revert hgq); (try revert hi); (try revert hi0); (try revert hi1); (try revert hii); (try revert hin); (try revert hl); (try revert hlen); (try revert hm2); (try revert hms); (try revert hn5); (try revert hn6)
              (try revert hn7); (try revert hpl); (try revert hr); (try revert hrel); (try revert hrow); (try revert hv); (try revert hw1); (try revert hw2); (try revert hwp); (try revert hwq); (try revert hww); (try revert i); (try revert intOf); (try revert len); (try revert maxLen); (try revert ms); (try revert ms2); (try revert n5); (try revert off); (try revert off5)
              (try revert only); (try revert p); (try revert r); (try revert r1); (try revert rest); (try revert round); (try revert row3); (try revert v); (try revert v4); (try revert v5); (try revert w); (try revert w1); (try revert w3); (try revert w4); (try revert wa); (try revert wc); (try revert we); (try revert wp); (try revert wq); (try revert wr)
              (try revert x); (try revert u0); (try revert u1); (try revert u2); (try revert u3); (try revert u4); (try revert u5); (try revert u6); (try revert u7); (try revert u8); (try revert u9); (try revert u10); (try revert u11); (try revert u12); (try revert u13); (try revert u14); (try revert u15); (try revert u16); (try revert u17); (try revert u18)
              (try revert u19); (try revert u20); (try revert u21); (try revert u22); (try revert u23); (try revert u24); (try revert u25); (try revert u26); (try revert u27); (try revert u28); (try revert u29); (try revert u30); (try revert u31); (try revert u32); (try revert u33); (try revert u34); (try revert u35); (try revert u36); (try revert u37); (try revert u38)
              (try revert u39); (try revert u40); (try revert u41); (try revert u42); (try revert u43); (try revert u44); (try revert u45); (try revert u46); (try revert u47); (try revert u48); (try revert u49); (try revert u50); (try revert u51); (try revert u52); (try revert u53); (try revert u54); (try revert u55); (try revert u56); (try revert u57); (try revert u58)
              (try revert u59); (try revert u60); (try revert u61); (try revert u62); (try revert u63); (try revert u64); (try revert u65); (try revert u66); (try revert u67); (try revert u68); (try revert u69); (try revert u70); (try revert u71); (try revert u72); (try revert u73); (try revert u74); (try revert u75); (try revert u76); (try revert u77); (try revert u78)
              (try revert u79); (try revert u80); (try revert u81); (try revert u82); (try revert u83); (try revert u84); (try revert u85); (try revert u86); (try revert u87); (try revert u88); (try revert u89); (try revert u90); (try revert u91); (try revert u92); (try revert u93); (try revert u94); (try revert u95); (try revert u96); (try revert u97); (try revert u98)
              (try revert u99); (try revert u100); (try revert u101); (try revert u102); (try revert u103); (try revert u104); (try revert u105); (try revert u106); (try revert u107); (try revert u108); (try revert u109); (try revert u110); (try revert u111); (try revert u112); (try revert u113); (try revert u114); (try revert u115); (try revert u116); (try revert u117); (try revert u118)
              (try revert u119); (try revert u120); (try revert u121); (try revert u122); (try revert u123); (try revert u124); (try revert u125); (try revert u126); (try revert u127); (try revert u128); (try revert u129); (try revert u130); (try revert u131); (try revert u132); (try revert u133); (try revert u134); (try revert u135); (try revert u136); (try revert u137); (try revert u138)
              (try revert u139); (try revert u140); (try revert u141); (try revert u142); (try revert u143); (try revert u144); (try revert u145); (try revert u146); (try revert u147); (try revert u148); (try revert u149); (try revert u150); (try revert u151); (try revert u152); (try revert u153); (try revert u154); (try revert u155); (try revert u156); (try revert u157); (try revert u158)
              (try revert u159); (try revert u160); (try revert u161); (try revert u162); (try revert u163); (try revert u164); (try revert u165); (try revert u166); (try revert u167); (try revert u168); (try revert u169); (try revert u170); (try revert u171); (try revert u172); (try revert u173); (try revert u174); (try revert u175); (try revert u176); (try revert u177); (try revert u178)
              (try revert u179); (try revert u180); (try revert u181); (try revert u182); (try revert u183); (try revert u184); (try revert u185); (try revert u186); (try revert u187); (try revert u188); (try revert u189); (try revert u190); (try revert u191); (try revert u192); (try revert u193); (try revert u194); (try revert u195); (try revert u196); (try revert u197); (try revert u198)
              (try revert u199); (try revert u200); (try revert u201); (try revert u202); (try revert u203); (try revert u204); (try revert u205); (try revert u206); (try revert u207); (try revert u208); (try revert u209); (try revert u210); (try revert u211); (try revert u212); (try revert u213); (try revert u214); (try revert u215); (try revert u216); (try revert u217); (try revert u218)
              (try revert u219); (try revert u220); (try revert u221); (try revert u222); (try revert u223); (try revert u224); (try revert u225); (try revert u226); (try revert u227); (try revert u228); (try revert u229); (try revert u230); (try revert u231); (try revert u232); (try revert u233); (try revert u234); (try revert u235); (try revert u236); (try revert u237); (try revert u238)
              (try revert u239); (try revert u240); (try revert u241); (try revert u242); (try revert u243); (try revert u244); (try revert u245); (try revert u246); (try revert u247); (try revert u248); (try revert u249); (try revert u250); (try revert u251); (try revert u252); (try revert u253); (try revert u254); (try revert u255); (try revert u256); (try revert u257); (try revert u258)
              (try revert u259); (try revert u260); (try revert u261); (try revert u262); (try revert u263); (try revert u264); (try revert u265); (try revert u266); (try revert u267); (try revert u268); (try revert u269); (try revert u270); (try revert u271); (try revert u272); (try revert u273); (try revert u274); (try revert u275); (try revert u276); (try revert u277); (try revert u278)
              (try revert u279)
              exact k3.out
            · clear k2 k3
              have HC : Side (Pl w wq gq (.slice a4 ms.length c4) ms) := HA
              clear HA HB HBB
              go_upto_region 23 with (fail)
              go_cut [97] (fun v we => v = .bool false ∧ we = wq)
              case first =>
                go_wp2
                go_meet
                case rel => exact ⟨by simp [h4], rfl⟩
              case rest =>
              obtain ⟨rfl, hw1⟩ := hcut
              go_step
              go_upto_region 36 with (fail)
              go_cut [141] (fun v we => v = .bool false ∧ we = wq)
              case first =>
                go_wp2
                go_meet
                case rel => exact ⟨by simp [h5], by first | rfl | exact hw1 | exact hw1.symm⟩
              case rest =>
              obtain ⟨rfl, hw2⟩ := hcut
              go_step
              clear h4 h5
              go_wp2
              go_meet
              case rel => exact ⟨ms, by omega, by first | exact HC | (rw [hw2]; exact HC) | (rw [hw2, hw1]; exact HC) | (rw [← hw2]; exact HC)⟩
          · clear k2 k3
            clear HBB
            repeat (rename_i x_; revert x_)
            (try revert At1); (try revert Below); (try revert De); (try revert Go); (try revert HA); (try revert HB); (try revert HBB); (try revert HBX); (try revert HBX2); (try revert HC); (try revert HC3); (try revert HC4); (try revert HE0); (try revert HP); (try revert HP1); (try revert HP2); (try revert HROW); (try revert Len_st); (try revert List); (try revert MR)
            (try revert New_at); (try revert P0); (try revert Pl); (try revert St); (try revert Try); (try revert V); (try revert World); (try revert Y); (try revert a); (try revert a4); (try revert a5); (try revert b0); (try revert bb); (try revert c0); (try revert c1); (try revert c2); (try revert c4); (try revert c5); (try revert cap); (try revert cp)
            (try revert cur); (try revert d); (try revert dd); (try revert di); (try revert dt); (try revert e); (try revert e0); (try revert g); (try revert g5); (try revert go_cut); (try revert go_ret); (try revert go_wp2); (try revert gq); (try revert h0); (try revert h4); (try revert h5); (try revert hb); (try revert hb3); (try revert hb4); (try revert hbb)
            (try revert hbig); (try revert hc4); (try revert hc5); (try revert hcase); (try revert hcut); (try revert hd5); (try revert he0); (try revert hgl); (try revert hgq); (try revert hi); (try revert hi0); (try revert hi1); (try revert hii); (try revert hin); (try revert hl); (try revert hlen); (try revert hm2); (try revert hms); (try revert hn5); (try revert hn6)
            (try revert hn7); (try revert hpl); (try revert hr); (try revert hrel); (try revert hrow); (try revert hv); (try revert hw1); (try revert hw2); (try revert hwp); (try revert hwq); (try revert hww); (try revert i); (try revert intOf); (try revert len); (try revert maxLen); (try revert ms); (try revert ms2); (try revert n5); (try revert off); (try revert off5)
            (try revert only); (try revert p); (try revert r); (try revert r1); (try revert rest); (try revert round); (try revert row3); (try revert v); (try revert v4); (try revert v5); (try revert w); (try revert w1); (try revert w3); (try revert w4); (try revert wa); (try revert wc); (try revert we); (try revert wp); (try revert wq); (try revert wr)
            (try revert x); (try revert u0); (try revert u1); (try revert u2); (try revert u3); (try revert u4); (try revert u5); (try revert u6); (try revert u7); (try revert u8); (try revert u9); (try revert u10); (try revert u11); (try revert u12); (try revert u13); (try revert u14); (try revert u15); (try revert u16); (try revert u17); (try revert u18)
            (try revert u19); (try revert u20); (try revert u21); (try revert u22); (try revert u23); (try revert u24); (try revert u25); (try revert u26); (try revert u27); (try revert u28); (try revert u29); (try revert u30); (try revert u31); (try revert u32); (try revert u33); (try revert u34); (try revert u35); (try revert u36); (try revert u37); (try revert u38)
            (try revert u39); (try revert u40); (try revert u41); (try revert u42); (try revert u43); (try revert u44); (try revert u45); (try revert u46); (try revert u47); (try revert u48); (try revert u49); (try revert u50); (try revert u51); (try revert u52); (try revert u53); (try revert u54); (try revert u55); (try revert u56); (try revert u57); (try revert u58)
            (try revert u59); (try revert u60); (try revert u61); (try revert u62); (try revert u63); (try revert u64); (try revert u65); (try revert u66); (try revert u67); (try revert u68); (try revert u69); (try revert u70); (try revert u71); (try revert u72); (try revert u73); (try revert u74); (try revert u75); (try revert u76); (try revert u77); (try revert u78)
            (try revert u79); (try revert u80); (try revert u81); (try revert u82); (try revert u83); (try revert u84); (try revert u85); (try revert u86); (try revert u87); (try revert u88); (try revert u89); (try revert u90); (try revert u91); (try revert u92); (try revert u93); (try revert u94); (try revert u95); (try revert u96); (try revert u97); (try revert u98)
            (try revert u99); (try revert u100); (try revert u101); (try revert u102); (try revert u103); (try revert u104); (try revert u105); (try revert u106); (try revert u107); (try revert u108); (try revert u109); (try revert u110); (try revert u111); (try revert u112); (try revert u113); (try revert u114); (try revert u115); (try revert u116); (try revert u117); (try revert u118)
            (try revert u119); (try revert u120); (try revert u121); (try revert u122); (try revert u123); (try revert u124); (try revert u125); (try revert u126); (try revert u127); (try revert u128); (try revert u129); (try revert u130); (try revert u131); (try revert u132); (try revert u133); (try revert u134); (try revert u135); (try revert u136); (try revert u137); (try revert u138)
            (try revert u139); (try revert u140); (try revert u141); (try revert u142); (try revert u143); (try revert u144); (try revert u145); (try revert u146); (try revert u147); (try revert u148); (try revert u149); (try revert u150); (try revert u151); (try revert u152); (try revert u153); (try revert u154); (try revert u155); (try revert u156); (try revert u157); (try revert u158)
            (try revert u159); (try revert u160); (try revert u161); (try revert u162); (try revert u163); (try revert u164); (try revert u165); (try revert u166); (try revert u167); (try revert u168); (try revert u169); (try revert u170); (try revert u171); (try revert u172); (try revert u173); (try revert u174); (try revert u175); (try revert u176); (try revert u177); (try revert u178)
            (try revert u179); (try revert u180); (try revert u181); (try revert u182); (try revert u183); (try revert u184); (try revert u185); (try revert u186); (try revert u187); (try revert u188); (try revert u189); (try revert u190); (try revert u191); (try revert u192); (try revert u193); (try revert u194); (try revert u195); (try revert u196); (try revert u197); (try revert u198)
            (try revert u199); (try revert u200); (try revert u201); (try revert u202); (try revert u203); (try revert u204); (try revert u205); (try revert u206); (try revert u207); (try revert u208); (try revert u209); (try revert u210); (try revert u211); (try revert u212); (try revert u213); (try revert u214); (try revert u215); (try revert u216); (try revert u217); (try revert u218)
            (try revert u219); (try revert u220); (try revert u221); (try revert u222); (try revert u223); (try revert u224); (try revert u225); (try revert u226); (try revert u227); (try revert u228); (try revert u229); (try revert u230); (try revert u231); (try revert u232); (try revert u233); (try revert u234); (try revert u235); (try revert u236); (try revert u237); (try revert u238)
            (try revert u239); (try revert u240); (try revert u241); (try revert u242); (try revert u243); (try revert u244); (try revert u245); (try revert u246); (try revert u247); (try revert u248); (try revert u249); (try revert u250); (try revert u251); (try revert u252); (try revert u253); (try revert u254); (try revert u255); (try revert u256); (try revert u257); (try revert u258)
            (try revert u259); (try revert u260); (try revert u261); (try revert u262); (try revert u263); (try revert u264); (try revert u265); (try revert u266); (try revert u267); (try revert u268); (try revert u269); (try revert u270); (try revert u271); (try revert u272); (try revert u273); (try revert u274); (try revert u275); (try revert u276); (try revert u277); (try revert u278)
            (try revert u279)
            exact k1.out
        case rest =>
          clear k1 k2 k3 k4
          obtain ⟨ms2, hm2, HC⟩ := hcut
          clear HP1 HBX b0 hpl
          rcases ms2 with _ | ⟨x, r⟩
          · obtain ⟨a5, c5, rfl, -, -⟩ := HC.out.row.shape
            go_wp2_with fail
            refine (Next_st HC.out.st (by rw [its_len]; omega) 0 false rfl rfl).mono ?_
            rintro e w3 ⟨rfl, hb⟩
            have HC3 := Side.mk (HC.out.below hb)
            clear hb HC
            go_wp2_with fail
            refine (Len_st (HC3.out.st.below' (by (repeat (with_reducible first | exact Below.refl _ _ | apply below_drewN | apply below_drew | apply below_alloc)))) 0 (its_len _)).mono ?_
            rintro e w4 ⟨rfl, hb⟩
            have HC4 := Side.mk ((HC3.out.below (by (repeat (with_reducible first | exact Below.refl _ _ | apply below_drewN | apply below_drew | apply below_alloc)))).below hb)
            clear hb HC3
            go_wp2
            go_roundw
            case rel => exact ⟨i + 1, _, by simp, by omega, hm2, ⟨HC4.out.below (by (repeat (with_reducible first | exact Below.refl _ _ | apply below_drewN | apply below_drew | apply below_alloc)))⟩⟩
            case measure => simp [intOf]; omega
          · obtain ⟨a5, c5, rfl, -, -⟩ := HC.out.row.shape
            obtain ⟨n5, hn5⟩ : ∃ n5, n5 = (x :: r).length := ⟨_, rfl⟩
            have hn6 : (0 : Int) < n5 := by rw [hn5, List.length_cons]; omega
            have hn7 : ¬ ((n5 : Int) < 0) := by omega
            go_wp2_with fail
            refine (Next_st HC.out.st (by rw [its_len]; omega) x.2.1 true rfl rfl).mono ?_
            rintro e w3 ⟨rfl, hb⟩
            have HC3 := Side.mk (HC.out.below hb)
            clear hb HC
            go_wp2_with fail
            refine (Len_st (HC3.out.st.below' (by (repeat (with_reducible first | exact Below.refl _ _ | apply below_drewN | apply below_drew | apply below_alloc)))) (x :: r).length (its_len _)).mono ?_
            rintro e w4 ⟨rfl, hb⟩
            have HC4 := Side.mk ((HC3.out.below (by (repeat (with_reducible first | exact Below.refl _ _ | apply below_drewN | apply below_drew | apply below_alloc)))).below hb)
            clear hb HC3
            obtain ⟨g5, off5, rfl, r1⟩ : ∃ g5 off5, a5 = some ⟨g5, off5, none⟩ ∧ w4.cell? ⟨g5, off5 + 1, none⟩ = some (.int .i64 x.2.1) := by
              rcases HC4.out.row with ⟨_, h0⟩ | ⟨g5, off5, cp, cur, hv, _, _, _, _, hr⟩
              · simp at h0
              · simp at hv
                exact ⟨g5, off5, hv.1, by have := hr 0 1 x _ rfl rfl; simpa using this⟩
            go_wp2
            go_roundw
            case rel => exact ⟨i + 1, _, by simp, by omega, hm2, ⟨HC4.out.below (by (repeat (with_reducible first | exact Below.refl _ _ | apply below_drewN | apply below_drew | apply below_alloc)))⟩⟩
            case measure => simp [intOf]; omega
      · clear k1 k2 k3 k4
        have hii : ¬ (i : Int) < len := by omega
        have HB := Side.mk HP.out.st.below
        clear HP
        go_wp2
        go_ret
        exact ⟨rfl, Below.trans HB.out ((Below.refl _ _).mono HB.out.size)⟩

end Go.Proofs.Ytbppjaglgbhckaa.CbBp

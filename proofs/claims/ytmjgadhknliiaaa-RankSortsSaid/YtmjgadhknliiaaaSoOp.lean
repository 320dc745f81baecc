/- RankSorts: the walk. No condition. -/
import Derived.Test.YtmjgadhknliiaaaSoN
import Derived.Test.YtmjgadhknliiaaaAw4
set_option linter.unusedVariables false
set_option linter.unusedSimpArgs false
namespace Go.Proofs.Ytmjgadhknliiaaa.SoOp
open Go.RowKit Go.Proofs.Ytmjgadhknliiaaa.Kit Go.Proofs.Ytmjgadhknliiaaa.Kit2 Go.Proofs.Ytmjgadhknliiaaa.Kit4 Go.Proofs.Ytmjgadhknliiaaa.Kit5 Go.Proofs.Ytmjgadhknliiaaa.Rank Go.Proofs.Ytmjgadhknliiaaa.SoA Go.Proofs.Ytmjgadhknliiaaa.SoK Go.Proofs.Ytmjgadhknliiaaa.SoM Go.Proofs.Ytmjgadhknliiaaa.SoN SoPlain
open Go.Proofs.YtmjgadhknliiaaaW.PrintLast
structure Hole (G : Prop) : Prop where
  out : G
set_option maxHeartbeats 400000000 in
set_option maxRecDepth 100000 in
noncomputable def part : (G1 : Prop) ×' (G2 : Prop) ×' (G3 : Prop) ×' (Hole G1 → Hole G2 → Hole G3 → ∀ (a : Option Addr) (len cap : Nat) (V : Nat → Nat → Value) (w : World), InRow DK w a len V → len ≤ maxLen → Calls Try.prog 6 #[.slice a len cap] w fun r w' => r = .returned (.bool true) ∧ Below w.heap.size w w') := by
  apply PSigma.mk
  apply PSigma.mk
  apply PSigma.mk
  · intro k1 k2 k3
    intro a len cap V w hrow hlen
    have HROW := Side.mk hrow
    have hl : (len : Int) ≤ 9223372036854775807 := by unfold maxLen at hlen; omega
    clear hrow hlen
    by_cases hbig : 200 < len
    · clear k1 k2 k3
      have hb3 : (200 : Int) < len := by omega
      clear hbig
      go_enter Try.func6, Try.ntmps6
      go_wp2_with fail
      refine (awake_at _).mono ?_
      rintro e w1 ⟨rfl, hb⟩
      have HB := Side.mk hb
      clear hb
      go_wp2
      go_ret
      exact ⟨rfl, HB.out⟩
    have hb3 : ¬ (200 : Int) < len := by omega
    have hb4 : (len : Int) ≤ 200 := by omega
    go_enter Try.func6, Try.ntmps6
    go_wp2_with fail
    refine (awake_at _).mono ?_
    rintro e w1 ⟨rfl, hb⟩
    have HB1 := Side.mk hb
    clear hb
    go_wp2_with fail
    go_loopw [3, 4] (fun v3 v4 wr => ∃ i : Nat, v4 = .int .i64 (i : Int) ∧ i ≤ len ∧ Side (Below w1.heap.size w1 wr) ∧ Side (RRow wr w1.heap.size v3 (ls V i))) (fun _ v4 _ => (len - intOf v4).toNat)
    case atStart => exact ⟨0, rfl, Nat.zero_le _, ⟨(by (repeat (with_reducible first | exact Below.refl _ _ | apply below_drewN | apply below_drew | apply below_alloc)))⟩, ⟨GRow.nil _ _⟩⟩
    case round =>
      obtain ⟨i, rfl, hi, HB, HM⟩ := hrel
      obtain ⟨wp, hwp⟩ : ∃ wp : World, wp = wr := ⟨_, rfl⟩
      rw [← hwp] at HB HM ⊢
      clear hwp
      have hi0 : (0 : Int) ≤ i := by omega
      by_cases hin : i < len
      · clear k2 k3
        repeat (rename_i x_; revert x_)
        (try revert B5); (try revert Below); (try revert Dw); (try revert E4); (try revert FRow); (try revert GRow); (try revert HB); (try revert HB1); (try revert HB2); (try revert HD); (try revert HF); (try revert HG); (try revert HM); (try revert HM2); (try revert HQ); (try revert HROW); (try revert HS2); (try revert HW); (try revert HX); (try revert List)
        (try revert R); (try revert RRow); (try revert Srt); (try revert Stb); (try revert Try); (try revert V); (try revert World); (try revert Ws); (try revert a); (try revert a3); (try revert a5); (try revert a6); (try revert at_); (try revert c5); (try revert c6); (try revert cap); (try revert cm); (try revert e); (try revert go_ret); (try revert go_wp2)
        (try revert h1); (try revert h2); (try revert hB5); (try revert hb); (try revert hb3); (try revert hb4); (try revert hbig); (try revert hi); (try revert hi0); (try revert hii); (try revert hin); (try revert hk); (try revert hk0); (try revert hkn); (try revert hkni); (try revert hl); (try revert hlen); (try revert hn); (try revert hn0); (try revert hni)
        (try revert hnii); (try revert hr); (try revert hrel); (try revert hrow); (try revert hs); (try revert ht); (try revert hwl); (try revert hwo); (try revert hwp); (try revert hwz); (try revert i); (try revert intOf); (try revert j); (try revert k); (try revert len); (try revert ls); (try revert ls_len); (try revert lt); (try revert maxLen); (try revert n)
        (try revert q); (try revert round); (try revert v3); (try revert v4); (try revert v5); (try revert v6); (try revert v7); (try revert v8); (try revert v9); (try revert w); (try revert w1); (try revert w2); (try revert wo); (try revert wp); (try revert wr); (try revert ws); (try revert wz); (try revert ys); (try revert u0); (try revert u1)
        (try revert u2); (try revert u3); (try revert u4); (try revert u5); (try revert u6); (try revert u7); (try revert u8); (try revert u9); (try revert u10); (try revert u11); (try revert u12); (try revert u13); (try revert u14); (try revert u15); (try revert u16); (try revert u17); (try revert u18); (try revert u19); (try revert u20); (try revert u21)
        (try revert u22); (try revert u23); (try revert u24); (try revert u25); (try revert u26); (try revert u27); (try revert u28); (try revert u29); (try revert u30); (try revert u31); (try revert u32); (try revert u33); (try revert u34); (try revert u35); (try revert u36); (try revert u37); (try revert u38); (try revert u39); (try revert u40); (try revert u41)
        (try revert u42); (try revert u43); (try revert u44); (try revert u45); (try revert u46); (try revert u47); (try revert u48); (try revert u49); (try revert u50); (try revert u51); (try revert u52); (try revert u53); (try revert u54); (try revert u55); (try revert u56); (try revert u57); (try revert u58); (try revert u59); (try revert u60); (try revert u61)
        (try revert u62); (try revert u63); (try revert u64); (try revert u65); (try revert u66); (try revert u67); (try revert u68); (try revert u69); (try revert u70); (try revert u71); (try revert u72); (try revert u73); (try revert u74); (try revert u75); (try revert u76); (try revert u77); (try revert u78); (try revert u79); (try revert u80); (try revert u81)
        (try revert u82); (try revert u83); (try revert u84); (try revert u85); (try revert u86); (try revert u87); (try revert u88); (try revert u89); (try revert u90); (try revert u91); (try revert u92); (try revert u93); (try revert u94); (try revert u95); (try revert u96); (try revert u97); (try revert u98); (try revert u99); (try revert u100); (try revert u101)
        (try revert u102); (try revert u103); (try revert u104); (try revert u105); (try revert u106); (try revert u107); (try revert u108); (try revert u109); (try revert u110); (try revert u111); (try revert u112); (try revert u113); (try revert u114); (try revert u115); (try revert u116); (try revert u117); (try revert u118); (try revert u119); (try revert u120); (try revert u121)
        (try revert u122); (try revert u123); (try revert u124); (try revert u125); (try revert u126); (try revert u127); (try revert u128); (try revert u129); (try revert u130); (try revert u131); (try revert u132); (try revert u133); (try revert u134); (try revert u135); (try revert u136); (try revert u137); (try revert u138); (try revert u139); (try revert u140); (try revert u141)
        (try revert u142); (try revert u143); (try revert u144); (try revert u145); (try revert u146); (try revert u147); (try revert u148); (try revert u149); (try revert u150); (try revert u151); (try revert u152); (try revert u153); (try revert u154); (try revert u155); (try revert u156); (try revert u157); (try revert u158); (try revert u159); (try revert u160); (try revert u161)
        (try revert u162); (try revert u163); (try revert u164); (try revert u165); (try revert u166); (try revert u167); (try revert u168); (try revert u169); (try revert u170); (try revert u171); (try revert u172); (try revert u173); (try revert u174); (try revert u175); (try revert u176); (try revert u177); (try revert u178); (try revert u179); (try revert u180); (try revert u181)
        (try revert u182); (try revert u183); (try revert u184); (try revert u185); (try revert u186); (try revert u187); (try revert u188); (try revert u189); (try revert u190); (try revert u191); (try revert u192); (try revert u193); (try revert u194); (try revert u195); (try revert u196); (try revert u197); (try revert u198); (try revert u199); (try revert u200); (try revert u201)
        (try revert u202); (try revert u203); (try revert u204); (try revert u205); (try revert u206); (try revert u207); (try revert u208); (try revert u209); (try revert u210); (try revert u211); (try revert u212); (try revert u213); (try revert u214); (try revert u215); (try revert u216); (try revert u217); (try revert u218); (try revert u219); (try revert u220); (try revert u221)
        (try revert u222); (try revert u223); (try revert u224); (try revert u225); (try revert u226); (try revert u227); (try revert u228); (try revert u229); (try revert u230); (try revert u231); (try revert u232); (try revert u233); (try revert u234); (try revert u235); (try revert u236); (try revert u237); (try revert u238); (try revert u239); (try revert u240); (try revert u241)
        (try revert u242); (try revert u243); (try revert u244); (try revert u245); (try revert u246); (try revert u247); (try revert u248); (try revert u249); (try revert u250); (try revert u251); (try revert u252); (try revert u253); (try revert u254); (try revert u255); (try revert u256); (try revert u257); (try revert u258); (try revert u259); (try revert u260); (try revert u261)
        (try revert u262); (try revert u263); (try revert u264); (try revert u265); (try revert u266); (try revert u267); (try revert u268); (try revert u269); (try revert u270); (try revert u271); (try revert u272); (try revert u273); (try revert u274); (try revert u275); (try revert u276); (try revert u277); (try revert u278); (try revert u279)
        exact k1.out
      · clear k1
        obtain rfl : i = len := by omega
        have hii : ¬ (i : Int) < i := by omega
        obtain ⟨a3, cm, rfl, -, -⟩ := HM.out.shape E4
        clear hin hi
        go_wp2_with fail
        refine (sort_at _ w1.heap.size _ (ls V i) (HM.out.below (by (repeat (with_reducible first | exact Below.refl _ _ | apply below_drewN | apply below_drew | apply below_alloc)))) (by rw [ls_len]; omega)).mono ?_
        rintro e w2 ⟨v5, ys, rfl, hr, hlen, hb, ht, hs⟩
        rw [ls_len] at hlen ht hs
        obtain ⟨a5, c5, rfl, -, -⟩ := hr.shape E4
        rw [ls_len, hlen]
        have HX := Side.mk (show ys.length = i ∧ Stb lt i (at_ (ls V i)) (at_ ys) ∧ Srt lt (at_ ys) 0 i from ⟨hlen, ht, hs⟩)
        rw [hlen] at hr
        obtain ⟨B5, hB5⟩ : ∃ B5 : Nat, RRow w2 B5 (.slice a5 i c5) ys := ⟨_, hr⟩
        have HS2 := Side.mk hB5
        have HM2 := Side.mk (HM.out.below (below_then (by (repeat (with_reducible first | exact Below.refl _ _ | apply below_drewN | apply below_drew | apply below_alloc))) (Nat.le_refl _) hb))
        rw [ls_len] at HM2
        have HB2 : Side (Below w.heap.size w w2) := ⟨HB1.out.trans ((HB.out.trans ((below_then (by (repeat (with_reducible first | exact Below.refl _ _ | apply below_drewN | apply below_drew | apply below_alloc))) (Nat.le_refl _) hb : Below wp.heap.size wp w2).mono HB.out.size)).mono HB1.out.size)⟩
        clear hr hlen hb ht hs hB5 HM HB HB1
        go_wp2_with fail
        go_loopw [6, 7] (fun v6 v7 wr => ∃ (j : Nat) (ws : List R), v7 = .int .i64 (j : Int) ∧ j ≤ i ∧ Side (Below w2.heap.size w2 wr) ∧ Side (FRow wr w2.heap.size v6 ws) ∧ Side (Ws (at_ (ls V i)) j ws)) (fun _ v7 _ => (i - intOf v7).toNat)
        case atStart => exact ⟨0, [], rfl, Nat.zero_le _, ⟨(by (repeat (with_reducible first | exact Below.refl _ _ | apply below_drewN | apply below_drew | apply below_alloc)))⟩, ⟨GRow.nil _ _⟩, ⟨Ws.nil _⟩⟩
        case round =>
          obtain ⟨n, ws, rfl, hn, HB, HF, HW⟩ := hrel
          obtain ⟨wo, hwo⟩ : ∃ wo : World, wo = wr := ⟨_, rfl⟩
          rw [← hwo] at HB HF ⊢
          clear hwo
          have hn0 : (0 : Int) ≤ n := by omega
          obtain ⟨a6, c6, rfl, -, -⟩ := HF.out.shape E4
          have hwl := HW.out.len
          rw [hwl] at HF ⊢
          clear hwl
          by_cases hni : n < i
          · clear k3
            have hnii : (n : Int) < i := by omega
            go_wp2_with fail
            go_loopw [8] (fun v8 wr => ∃ j : Nat, v8 = .int .i64 (j : Int) ∧ Side (Dw (at_ (ls V i)) n j ws) ∧ Side (Below wo.heap.size wo wr)) (fun v8 _ => (intOf v8).toNat)
            case atStart => exact ⟨n, rfl, ⟨⟨Nat.le_refl _, fun q h1 h2 => by omega⟩⟩, ⟨(by (repeat (with_reducible first | exact Below.refl _ _ | apply below_drewN | apply below_drew | apply below_alloc)))⟩⟩
            case round =>
              obtain ⟨j, rfl, HD, HQ⟩ := hrel
              obtain ⟨wz, hwz⟩ : ∃ wz : World, wz = wr := ⟨_, rfl⟩
              rw [← hwz] at HQ ⊢
              clear hwz
              repeat (rename_i x_; revert x_)
              (try revert B5); (try revert Below); (try revert Dw); (try revert E4); (try revert FRow); (try revert GRow); (try revert HB); (try revert HB1); (try revert HB2); (try revert HD); (try revert HF); (try revert HG); (try revert HM); (try revert HM2); (try revert HQ); (try revert HROW); (try revert HS2); (try revert HW); (try revert HX); (try revert List)
              (try revert R); (try revert RRow); (try revert Srt); (try revert Stb); (try revert Try); (try revert V); (try revert World); (try revert Ws); (try revert a); (try revert a3); (try revert a5); (try revert a6); (try revert at_); (try revert c5); (try revert c6); (try revert cap); (try revert cm); (try revert e); (try revert go_ret); (try revert go_wp2)
              (try revert h1); (try revert h2); (try revert hB5); (try revert hb); (try revert hb3); (try revert hb4); (try revert hbig); (try revert hi); (try revert hi0); (try revert hii); (try revert hin); (try revert hk); (try revert hk0); (try revert hkn); (try revert hkni); (try revert hl); (try revert hlen); (try revert hn); (try revert hn0); (try revert hni)
              (try revert hnii); (try revert hr); (try revert hrel); (try revert hrow); (try revert hs); (try revert ht); (try revert hwl); (try revert hwo); (try revert hwp); (try revert hwz); (try revert i); (try revert intOf); (try revert j); (try revert k); (try revert len); (try revert ls); (try revert ls_len); (try revert lt); (try revert maxLen); (try revert n)
              (try revert q); (try revert round); (try revert v3); (try revert v4); (try revert v5); (try revert v6); (try revert v7); (try revert v8); (try revert v9); (try revert w); (try revert w1); (try revert w2); (try revert wo); (try revert wp); (try revert wr); (try revert ws); (try revert wz); (try revert ys); (try revert u0); (try revert u1)
              (try revert u2); (try revert u3); (try revert u4); (try revert u5); (try revert u6); (try revert u7); (try revert u8); (try revert u9); (try revert u10); (try revert u11); (try revert u12); (try revert u13); (try revert u14); (try revert u15); (try revert u16); (try revert u17); (try revert u18); (try revert u19); (try revert u20); (try revert u21)
              (try revert u22); (try revert u23); (try revert u24); (try revert u25); (try revert u26); (try revert u27); (try revert u28); (try revert u29); (try revert u30); (try revert u31); (try revert u32); (try revert u33); (try revert u34); (try revert u35); (try revert u36); (try revert u37); (try revert u38); (try revert u39); (try revert u40); (try revert u41)
              (try revert u42); (try revert u43); (try revert u44); (try revert u45); (try revert u46); (try revert u47); (try revert u48); (try revert u49); (try revert u50); (try revert u51); (try revert u52); (try revert u53); (try revert u54); (try revert u55); (try revert u56); (try revert u57); (try revert u58); (try revert u59); (try revert u60); (try revert u61)
              (try revert u62); (try revert u63); (try revert u64); (try revert u65); (try revert u66); (try revert u67); (try revert u68); (try revert u69); (try revert u70); (try revert u71); (try revert u72); (try revert u73); (try revert u74); (try revert u75); (try revert u76); (try revert u77); (try revert u78); (try revert u79); (try revert u80); (try revert u81)
              (try revert u82); (try revert u83); (try revert u84); (try revert u85); (try revert u86); (try revert u87); (try revert u88); (try revert u89); (try revert u90); (try revert u91); (try revert u92); (try revert u93); (try revert u94); (try revert u95); (try revert u96); (try revert u97); (try revert u98); (try revert u99); (try revert u100); (try revert u101)
              (try revert u102); (try revert u103); (try revert u104); (try revert u105); (try revert u106); (try revert u107); (try revert u108); (try revert u109); (try revert u110); (try revert u111); (try revert u112); (try revert u113); (try revert u114); (try revert u115); (try revert u116); (try revert u117); (try revert u118); (try revert u119); (try revert u120); (try revert u121)
              (try revert u122); (try revert u123); (try revert u124); (try revert u125); (try revert u126); (try revert u127); (try revert u128); (try revert u129); (try revert u130); (try revert u131); (try revert u132); (try revert u133); (try revert u134); (try revert u135); (try revert u136); (try revert u137); (try revert u138); (try revert u139); (try revert u140); (try revert u141)
              (try revert u142); (try revert u143); (try revert u144); (try revert u145); (try revert u146); (try revert u147); (try revert u148); (try revert u149); (try revert u150); (try revert u151); (try revert u152); (try revert u153); (try revert u154); (try revert u155); (try revert u156); (try revert u157); (try revert u158); (try revert u159); (try revert u160); (try revert u161)
              (try revert u162); (try revert u163); (try revert u164); (try revert u165); (try revert u166); (try revert u167); (try revert u168); (try revert u169); (try revert u170); (try revert u171); (try revert u172); (try revert u173); (try revert u174); (try revert u175); (try revert u176); (try revert u177); (try revert u178); (try revert u179); (try revert u180); (try revert u181)
              (try revert u182); (try revert u183); (try revert u184); (try revert u185); (try revert u186); (try revert u187); (try revert u188); (try revert u189); (try revert u190); (try revert u191); (try revert u192); (try revert u193); (try revert u194); (try revert u195); (try revert u196); (try revert u197); (try revert u198); (try revert u199); (try revert u200); (try revert u201)
              (try revert u202); (try revert u203); (try revert u204); (try revert u205); (try revert u206); (try revert u207); (try revert u208); (try revert u209); (try revert u210); (try revert u211); (try revert u212); (try revert u213); (try revert u214); (try revert u215); (try revert u216); (try revert u217); (try revert u218); (try revert u219); (try revert u220); (try revert u221)
              (try revert u222); (try revert u223); (try revert u224); (try revert u225); (try revert u226); (try revert u227); (try revert u228); (try revert u229); (try revert u230); (try revert u231); (try revert u232); (try revert u233); (try revert u234); (try revert u235); (try revert u236); (try revert u237); (try revert u238); (try revert u239); (try revert u240); (try revert u241)
              (try revert u242); (try revert u243); (try revert u244); (try revert u245); (try revert u246); (try revert u247); (try revert u248); (try revert u249); (try revert u250); (try revert u251); (try revert u252); (try revert u253); (try revert u254); (try revert u255); (try revert u256); (try revert u257); (try revert u258); (try revert u259); (try revert u260); (try revert u261)
              (try revert u262); (try revert u263); (try revert u264); (try revert u265); (try revert u266); (try revert u267); (try revert u268); (try revert u269); (try revert u270); (try revert u271); (try revert u272); (try revert u273); (try revert u274); (try revert u275); (try revert u276); (try revert u277); (try revert u278); (try revert u279)
              exact k2.out
          · clear k2
            obtain rfl : n = i := by omega
            have hnii : ¬ (n : Int) < n := by omega
            clear hni hn
            go_wp2_with fail
            go_loopw [9] (fun v9 wr => ∃ k : Nat, v9 = .int .i64 (k : Int) ∧ k ≤ n ∧ Side (Below wo.heap.size wo wr)) (fun v9 _ => (n - intOf v9).toNat)
            case atStart => exact ⟨0, rfl, Nat.zero_le _, ⟨(by (repeat (with_reducible first | exact Below.refl _ _ | apply below_drewN | apply below_drew | apply below_alloc)))⟩⟩
            case round =>
              obtain ⟨k, rfl, hk, HQ⟩ := hrel
              obtain ⟨wz, hwz⟩ : ∃ wz : World, wz = wr := ⟨_, rfl⟩
              rw [← hwz] at HQ ⊢
              clear hwz
              have hk0 : (0 : Int) ≤ k := by omega
              by_cases hkn : k < n
              · repeat (rename_i x_; revert x_)
                (try revert B5); (try revert Below); (try revert Dw); (try revert E4); (try revert FRow); (try revert GRow); (try revert HB); (try revert HB1); (try revert HB2); (try revert HD); (try revert HF); (try revert HG); (try revert HM); (try revert HM2); (try revert HQ); (try revert HROW); (try revert HS2); (try revert HW); (try revert HX); (try revert List)
                (try revert R); (try revert RRow); (try revert Srt); (try revert Stb); (try revert Try); (try revert V); (try revert World); (try revert Ws); (try revert a); (try revert a3); (try revert a5); (try revert a6); (try revert at_); (try revert c5); (try revert c6); (try revert cap); (try revert cm); (try revert e); (try revert go_ret); (try revert go_wp2)
                (try revert h1); (try revert h2); (try revert hB5); (try revert hb); (try revert hb3); (try revert hb4); (try revert hbig); (try revert hi); (try revert hi0); (try revert hii); (try revert hin); (try revert hk); (try revert hk0); (try revert hkn); (try revert hkni); (try revert hl); (try revert hlen); (try revert hn); (try revert hn0); (try revert hni)
                (try revert hnii); (try revert hr); (try revert hrel); (try revert hrow); (try revert hs); (try revert ht); (try revert hwl); (try revert hwo); (try revert hwp); (try revert hwz); (try revert i); (try revert intOf); (try revert j); (try revert k); (try revert len); (try revert ls); (try revert ls_len); (try revert lt); (try revert maxLen); (try revert n)
                (try revert q); (try revert round); (try revert v3); (try revert v4); (try revert v5); (try revert v6); (try revert v7); (try revert v8); (try revert v9); (try revert w); (try revert w1); (try revert w2); (try revert wo); (try revert wp); (try revert wr); (try revert ws); (try revert wz); (try revert ys); (try revert u0); (try revert u1)
                (try revert u2); (try revert u3); (try revert u4); (try revert u5); (try revert u6); (try revert u7); (try revert u8); (try revert u9); (try revert u10); (try revert u11); (try revert u12); (try revert u13); (try revert u14); (try revert u15); (try revert u16); (try revert u17); (try revert u18); (try revert u19); (try revert u20); (try revert u21)
                (try revert u22); (try revert u23); (try revert u24); (try revert u25); (try revert u26); (try revert u27); (try revert u28); (try revert u29); (try revert u30); (try revert u31); (try revert u32); (try revert u33); (try revert u34); (try revert u35); (try revert u36); (try revert u37); (try revert u38); (try revert u39); (try revert u40); (try revert u41)
                (try revert u42); (try revert u43); (try revert u44); (try revert u45); (try revert u46); (try revert u47); (try revert u48); (try revert u49); (try revert u50); (try revert u51); (try revert u52); (try revert u53); (try revert u54); (try revert u55); (try revert u56); (try revert u57); (try revert u58); (try revert u59); (try revert u60); (try revert u61)
                (try revert u62); (try revert u63); (try revert u64); (try revert u65); (try revert u66); (try revert u67); (try revert u68); (try revert u69); (try revert u70); (try revert u71); (try revert u72); (try revert u73); (try revert u74); (try revert u75); (try revert u76); (try revert u77); (try revert u78); (try revert u79); (try revert u80); (try revert u81)
                (try revert u82); (try revert u83); (try revert u84); (try revert u85); (try revert u86); (try revert u87); (try revert u88); (try revert u89); (try revert u90); (try revert u91); (try revert u92); (try revert u93); (try revert u94); (try revert u95); (try revert u96); (try revert u97); (try revert u98); (try revert u99); (try revert u100); (try revert u101)
                (try revert u102); (try revert u103); (try revert u104); (try revert u105); (try revert u106); (try revert u107); (try revert u108); (try revert u109); (try revert u110); (try revert u111); (try revert u112); (try revert u113); (try revert u114); (try revert u115); (try revert u116); (try revert u117); (try revert u118); (try revert u119); (try revert u120); (try revert u121)
                (try revert u122); (try revert u123); (try revert u124); (try revert u125); (try revert u126); (try revert u127); (try revert u128); (try revert u129); (try revert u130); (try revert u131); (try revert u132); (try revert u133); (try revert u134); (try revert u135); (try revert u136); (try revert u137); (try revert u138); (try revert u139); (try revert u140); (try revert u141)
                (try revert u142); (try revert u143); (try revert u144); (try revert u145); (try revert u146); (try revert u147); (try revert u148); (try revert u149); (try revert u150); (try revert u151); (try revert u152); (try revert u153); (try revert u154); (try revert u155); (try revert u156); (try revert u157); (try revert u158); (try revert u159); (try revert u160); (try revert u161)
                (try revert u162); (try revert u163); (try revert u164); (try revert u165); (try revert u166); (try revert u167); (try revert u168); (try revert u169); (try revert u170); (try revert u171); (try revert u172); (try revert u173); (try revert u174); (try revert u175); (try revert u176); (try revert u177); (try revert u178); (try revert u179); (try revert u180); (try revert u181)
                (try revert u182); (try revert u183); (try revert u184); (try revert u185); (try revert u186); (try revert u187); (try revert u188); (try revert u189); (try revert u190); (try revert u191); (try revert u192); (try revert u193); (try revert u194); (try revert u195); (try revert u196); (try revert u197); (try revert u198); (try revert u199); (try revert u200); (try revert u201)
                (try revert u202); (try revert u203); (try revert u204); (try revert u205); (try revert u206); (try revert u207); (try revert u208); (try revert u209); (try revert u210); (try revert u211); (try revert u212); (try revert u213); (try revert u214); (try revert u215); (try revert u216); (try revert u217); (try revert u218); (try revert u219); (try revert u220); (try revert u221)
                (try revert u222); (try revert u223); (try revert u224); (try revert u225); (try revert u226); (try revert u227); (try revert u228); (try revert u229); (try revert u230); (try revert u231); (try revert u232); (try revert u233); (try revert u234); (try revert u235); (try revert u236); (try revert u237); (try revert u238); (try revert u239); (try revert u240); (try revert u241)
                (try revert u242); (try revert u243); (try revert u244); (try revert u245); (try revert u246); (try revert u247); (try revert u248); (try revert u249); (try revert u250); (try revert u251); (try revert u252); (try revert u253); (try revert u254); (try revert u255); (try revert u256); (try revert u257); (try revert u258); (try revert u259); (try revert u260); (try revert u261)
                (try revert u262); (try revert u263); (try revert u264); (try revert u265); (try revert u266); (try revert u267); (try revert u268); (try revert u269); (try revert u270); (try revert u271); (try revert u272); (try revert u273); (try revert u274); (try revert u275); (try revert u276); (try revert u277); (try revert u278); (try revert u279)
                exact k3.out
              · clear k3
                have hkni : ¬ (k : Int) < n := by omega
                have HG : Side (Below w.heap.size w wz) := ⟨(HB2.out.trans (HB.out.mono HB2.out.size)).trans (HQ.out.mono (Nat.le_trans HB2.out.size HB.out.size))⟩
                clear HB2 HB HQ HW HF HX HS2 HM2 HROW
                go_wp2
                go_ret
                exact ⟨rfl, below_then HG.out HG.out.size (by (repeat (with_reducible first | exact Below.refl _ _ | apply below_drewN | apply below_drew | apply below_alloc)))⟩

end Go.Proofs.Ytmjgadhknliiaaa.SoOp

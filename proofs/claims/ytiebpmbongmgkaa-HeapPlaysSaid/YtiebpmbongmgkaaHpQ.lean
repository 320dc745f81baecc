/- Package heap: the walk of HeapAnew. No condition. -/
import Derived.Test.YtiebpmbongmgkaaHpP
set_option linter.unusedVariables false
set_option linter.unusedSimpArgs false
namespace Go.Proofs.Ytiebpmbongmgkaa.HpQ
open Go.RowKit Go.Proofs.Ytiebpmbongmgkaa.Kit Go.Proofs.Ytiebpmbongmgkaa.Kit2 Go.Proofs.Ytiebpmbongmgkaa.Kit3 Go.Proofs.Ytiebpmbongmgkaa.Kit4 HpPlain Go.Maps Go.Proofs.Ytiebpmbongmgkaa.HpA Go.Proofs.Ytiebpmbongmgkaa.HpB Go.Proofs.Ytiebpmbongmgkaa.HpE Go.Proofs.Ytiebpmbongmgkaa.HpG Go.Proofs.Ytiebpmbongmgkaa.HpI Go.Proofs.Ytiebpmbongmgkaa.HpK Go.Proofs.Ytiebpmbongmgkaa.HpL Go.Proofs.Ytiebpmbongmgkaa.HpN Go.Proofs.Ytiebpmbongmgkaa.HpO Go.Proofs.Ytiebpmbongmgkaa.HpP
open Go.Proofs.YtiebpmbongmgkaaW.PrintLast
theorem row1 {W w : World} {a : Option Addr} {len : Nat} {k : IntKind} {V : Nat → Nat → Value} (h : InRow [.i k] W a len V) (hb : Below W.heap.size W w) (i : Nat) (hi : i < len) :
    ∃ b off, a = some ⟨b, off, none⟩ ∧ b < W.heap.size ∧ b < w.heap.size ∧ w.cell? ⟨b, off + i, none⟩ = some (.int k (intOf (V i 0))) ∧ (Lit.int k (intOf (V i 0))).wf = true := by
  have z0 := h.int 0 k rfl i hi
  obtain ⟨b, off, hp, hcs⟩ := h
  obtain ⟨rfl, hbl⟩ := hp (by omega)
  have c0 := (hcs i hi 0 _ rfl).1
  rw [z0.1] at c0
  have e : off + (i * [CK.i k].length + 0) = off + i := by simp
  rw [e] at c0
  exact ⟨b, off, rfl, hbl, Nat.lt_of_lt_of_le hbl hb.size, ((bcell hb).1 _ _ hbl).trans c0, z0.2⟩
theorem isi16 {x : Int} (h : (Lit.int .i16 x).wf = true) : -32768 ≤ x ∧ x ≤ 32767 := by
  have h1 : IntKind.i16.min = -32768 := by decide
  have h2 : IntKind.i16.max = 32767 := by decide
  simp only [Lit.wf, h1, h2, Bool.and_eq_true, decide_eq_true_eq] at h; omega
theorem put_len (m : List It) (x : It) : (put m x).length = if hasS m x.1 = true then m.length else m.length + 1 := by
  unfold put
  split <;> simp
/-- What stands between the rounds. -/
structure An (W : World) (gh p r : Nat) (L : Nat → Int) (on : Nat → Bool) (w : World) : Prop where
  st : St W w (fun _ => False) gh 2 (alive L 0 8 on)
  at_ : Val w 27 p (fl 8 (fun j => .int .i64 (L j)))
  on_ : Val w 28 r (fl 8 (fun j => .bool (on j)))
  pb : W.heap.size ≤ p
  rb : W.heap.size ≤ r
  ne : p ≠ r
  lb : ∀ j, -32768 ≤ L j ∧ L j ≤ 32767
theorem An.below {W w w' : World} {gh p r : Nat} {L : Nat → Int} {on : Nat → Bool} (h : An W gh p r L on w) (hb : Below w.heap.size w w') : An W gh p r L on w' :=
  ⟨h.st.below' hb, h.at_.below hb, h.on_.below hb, h.pb, h.rb, h.ne, h.lb⟩
theorem An.c {W w : World} {gh p r : Nat} {L : Nat → Int} {on : Nat → Bool} (h : An W gh p r L on w) (j : Nat) (hj : j < 8) : w.cell? ⟨p, j, none⟩ = some (.int .i64 (L j)) := h.at_.cell j _ (fl_at _ hj)
theorem An.o {W w : World} {gh p r : Nat} {L : Nat → Int} {on : Nat → Bool} (h : An W gh p r L on w) (j : Nat) (hj : j < 8) : w.cell? ⟨r, j, none⟩ = some (.bool (on j)) := h.on_.cell j _ (fl_at _ hj)
set_option maxHeartbeats 8000000 in
set_option maxRecDepth 100000 in
theorem big (a c : Option Addr) (len cap len2 cap2 : Nat) (w : World) (hl : len ≤ maxLen) (hl2 : len2 ≤ maxLen) (h : 200 < len ∨ len2 < len) :
    Calls Try.prog 3 #[.slice a len cap, .slice c len2 cap2] w fun r w' => r = .returned (.bool true) ∧ Below w.heap.size w w' := by
  have h1 : (len : Int) ≤ 9223372036854775807 := by unfold maxLen at hl; omega
  have h2 : (len2 : Int) ≤ 9223372036854775807 := by unfold maxLen at hl2; omega
  have hc : ((200 : Int) < len) ∨ (¬ (200 : Int) < len ∧ (len2 : Int) < len) := by omega
  clear hl hl2 h
  rcases hc with b1 | ⟨b1, b2⟩
  all_goals
    go_enter Try.func3, Try.ntmps3
    go_wp2_with fail
    refine (awake_at _).mono ?_
    rintro e w1 ⟨rfl, hb⟩
    have HB := Side.mk hb
    clear hb
    go_wp2
    go_ret
    exact ⟨rfl, HB.out⟩
set_option maxHeartbeats 8000000 in
set_option maxRecDepth 100000 in
theorem walk (a : Option Addr) (len cap : Nat) (V : Nat → Nat → Value) (c : Option Addr) (len2 cap2 : Nat) (U : Nat → Nat → Value) (w : World) (hrow : InRow [.i .u8] w a len V) (hlen : len ≤ maxLen) (hrow2 : InRow [.i .i16] w c len2 U) (hlen2 : len2 ≤ maxLen) :
    Calls Try.prog 3 #[.slice a len cap, .slice c len2 cap2] w fun r w' => r = .returned (.bool true) ∧ Below w.heap.size w w' := by
  by_cases hbig : 200 < len ∨ len2 < len
  · exact big a c len cap len2 cap2 w hlen hlen2 hbig
  have HROW := Side.mk hrow
  have HROW2 := Side.mk hrow2
  have h1 : (len : Int) ≤ 200 := by omega
  have h2 : (len2 : Int) ≤ 9223372036854775807 := by unfold maxLen at hlen2; omega
  have b1 : ¬ (200 : Int) < len := by omega
  have b2 : ¬ (len2 : Int) < len := by omega
  have h200 : len ≤ 200 := by omega
  have h22 : len ≤ len2 := by omega
  clear hrow hrow2 hlen hlen2 hbig
  go_enter Try.func3, Try.ntmps3
  go_wp2_with fail
  refine (awake_at _).mono ?_
  rintro e wa ⟨rfl, hb⟩
  have HB := Side.mk hb
  clear hb
  go_wp2_with fail
  refine (New_at _ 2).mono ?_
  rintro e w1 ⟨rfl, rfl⟩
  have S0 := Side.mk (St.start HB.out 2)
  generalize wa.heap.size + 1 = gh at *
  generalize (wa.alloc (.map #[] 0)).alloc (.cells #[.int .i64 2, .slice none 0 0, .map (some wa.heap.size)] 53) = w1 at *
  clear HB
  go_wp2_with fail
  obtain ⟨W2, hW2⟩ : ∃ W2, W2 = (w1.alloc (.cells #[.int .i64 0, .int .i64 0, .int .i64 0, .int .i64 0, .int .i64 0, .int .i64 0, .int .i64 0, .int .i64 0] 27)).alloc (.cells #[.bool false, .bool false, .bool false, .bool false, .bool false, .bool false, .bool false, .bool false] 28) := ⟨_, rfl⟩
  have A0 : Side (An w gh w1.heap.size (w1.heap.size + 1) (fun _ => 0) (fun _ => false) W2) := ⟨by
    have hb2 : Below w1.heap.size w1 W2 := by rw [hW2]; exact ((Below.refl _ _).alloc (Nat.le_refl _) _).alloc (by simp) _
    have e1 : alive (fun _ => 0) 0 8 (fun _ => false) = [] := by decide
    refine ⟨by rw [e1]; exact S0.out.below' hb2, ⟨#[.int .i64 0, .int .i64 0, .int .i64 0, .int .i64 0, .int .i64 0, .int .i64 0, .int .i64 0, .int .i64 0], rfl, ?_⟩, ⟨#[.bool false, .bool false, .bool false, .bool false, .bool false, .bool false, .bool false, .bool false], rfl, ?_⟩, S0.out.below.size, by have := S0.out.below.size; omega, by omega, fun j => by omega⟩
    · rw [hW2]
      exact (Below.heap_alloc _ _ _ (by simp)).trans (heap_alloc_new w1 _)
    · rw [hW2]
      have := heap_alloc_new (w1.alloc (.cells #[.int .i64 0, .int .i64 0, .int .i64 0, .int .i64 0, .int .i64 0, .int .i64 0, .int .i64 0, .int .i64 0] 27)) (.cells #[.bool false, .bool false, .bool false, .bool false, .bool false, .bool false, .bool false, .bool false] 28)
      simpa using this⟩
  have HAL : Side ((0 : Int) = ((alive (fun _ => 0) 0 8 (fun _ => false)).length : Nat)) := ⟨by decide⟩
  rw [← hW2]
  clear hW2 S0
  generalize w1.heap.size + 1 = r at *
  generalize w1.heap.size = p at *
  go_loopw [8, 9] (fun v8 v9 wr => ∃ (i : Nat) (L : Nat → Int) (on : Nat → Bool), v9 = .int .i64 (i : Int) ∧ i ≤ len ∧ v8 = .int .i64 ((alive L 0 8 on).length : Nat) ∧ Side (An w gh p r L on wr)) (fun _ v9 _ => (len - intOf v9).toNat)
  case atStart => exact ⟨0, _, _, rfl, Nat.zero_le _, congrArg (Value.int .i64) HAL.out, A0⟩
  case round =>
    clear A0 HAL
    obtain ⟨i, L, on, rfl, hi, rfl, HA⟩ := hrel
    have hi0 : (0 : Int) ≤ i := by omega
    by_cases hlt : i < len
    · have hii : (i : Int) < len := by omega
      have hi2 : (i : Int) < len2 := by omega
      have hi1 : (i : Int) + 1 ≤ 9223372036854775807 := by omega
      obtain ⟨ga, oa, rfl, hga, hgl, c0, hw0⟩ := row1 HROW.out HA.out.st.below i hlt
      obtain ⟨gc, oc, rfl, hgc, hgcl, d0, hw1⟩ := row1 HROW2.out HA.out.st.below i (by omega)
      obtain ⟨x0, x1⟩ := isu8 hw0
      obtain ⟨y0, y1⟩ := isi16 hw1
      generalize intOf (V i 0) = x at *
      generalize intOf (U i 0) = d at *
      obtain ⟨q, hq⟩ : ∃ q : Nat, q = (x % 8).toNat := ⟨_, rfl⟩
      have E : x % 8 = (q : Int) := by omega
      have hq8 : q < 8 := by omega
      have hqi : (q : Int) < 8 := by omega
      have hq0 : (0 : Int) ≤ q := by omega
      have HD : Side (∀ w', Below w.heap.size w w' → w'.cell? ⟨gc, oc + i, none⟩ = some (.int .i16 d) ∧ gc < w'.heap.size) := ⟨fun w' hb => by
        obtain ⟨b', o', hbo, _, h2, h3, _⟩ := row1 HROW2.out hb i (by omega)
        obtain ⟨b'', o'', hbo2, _, _, h5, _⟩ := row1 HROW2.out HA.out.st.below i (by omega)
        obtain ⟨rfl, rfl⟩ : gc = b' ∧ oc = o' := by simpa using hbo
        obtain ⟨rfl, rfl⟩ : gc = b'' ∧ oc = o'' := by simpa using hbo2
        rw [d0] at h5
        rw [← h5] at h3
        exact ⟨h3, h2⟩⟩
      clear hq
      go_wp2_with fail
      refine (MadeS _ _ _ _ _).out.mono ?_
      rintro e w2 ⟨rfl, hb⟩
      have A2 := Side.mk (HA.out.below hb)
      clear hb c0 d0 hgl hgcl
      go_wp2_with fail
      clear E
      refine (Put_st A2.out.st (by have := alive_len L 0 8 on; omega) ((q : Int), d, 0, 0, 0) ⟨hq0, by simp only; omega⟩ _ rfl).mono ?_
      rintro e w3 ⟨rfl, s3, f3⟩
      have S3 := Side.mk (St.perm s3 (alive_put L 0 d 8 on q hq8))
      have HN : Side ((alive (upd L q d) 0 8 (upd on q true)).length = if on q = true then (alive L 0 8 on).length else (alive L 0 8 on).length + 1) := ⟨by
        rw [← (alive_put L 0 d 8 on q hq8).length_eq, put_len]
        show (if hasS (alive L 0 8 on) (q : Int) = true then _ else _) = _
        rw [alive_has L 0 8 on q hq8]⟩
      have VA := Side.mk (Val.fr A2.out.at_ f3 (by decide) (by decide))
      have VO := Side.mk (Val.fr A2.out.on_ f3 (by decide) (by decide))
      have HPB := Side.mk (And.intro A2.out.pb (And.intro A2.out.rb (And.intro A2.out.ne A2.out.lb)))
      clear s3 f3 A2 HA
      have k1 := VA.out.cell q _ (fl_at _ hq8)
      have k2 := Val.froz VA.out q
      have k3 := VA.out.lt
      obtain ⟨d1, d2⟩ := HD.out w3 S3.out.below
      go_upto_region 18 with (fail)
      have S4 : Side (St w (w3.setCell ⟨p, q, none⟩ (.int .i64 d)) (fun _ => False) gh 2 (alive (upd L q d) 0 8 (upd on q true))) := ⟨St.setCell S3.out VA.out HPB.out.1 (by decide) (by decide) q _⟩
      have VA4 : Side (Val (w3.setCell ⟨p, q, none⟩ (.int .i64 d)) 27 p (fl 8 (fun j => .int .i64 (upd L q d j)))) := ⟨by
        have h := Val.set VA.out q (.int .i64 d)
        rw [fl_set] at h
        have e : fl 8 (upd (fun j => Value.int .i64 (L j)) q (.int .i64 d)) = fl 8 (fun j => .int .i64 (upd L q d j)) := fl_congr fun j _ => by unfold upd; split <;> rfl
        rw [e] at h
        exact h⟩
      have VO4 : Side (Val (w3.setCell ⟨p, q, none⟩ (.int .i64 d)) 28 r (fl 8 (fun j => .bool (on j)))) := ⟨VO.out.move (blk_far _ (fun e => HPB.out.2.2.1 e.symm) _)⟩
      generalize w3.setCell ⟨p, q, none⟩ (.int .i64 d) = w4 at *
      clear k1 k2 k3 d1 d2 VA VO S3 HD
      have k1 := VO4.out.cell q _ (fl_at _ hq8)
      have k3 := VO4.out.lt
      obtain ⟨nb, hnb⟩ : ∃ nb, nb = !on q := ⟨_, rfl⟩
      have HNB := Side.mk hnb
      go_cut [64] (fun v wc => v = .bool nb ∧ wc = w4)
      case first =>
        clear HN hnb
        go_wp2
        go_meet
        case rel => exact ⟨congrArg Value.bool HNB.out.symm, rfl⟩
      case rest =>
      obtain ⟨rfl, rfl⟩ := hcut
      clear k1 k3 hnb
      obtain ⟨nn, hnn⟩ : ∃ nn, nn = (alive (upd L q d) 0 8 (upd on q true)).length := ⟨_, rfl⟩
      obtain ⟨n0, hn0⟩ : ∃ n0, n0 = (alive L 0 8 on).length := ⟨_, rfl⟩
      have hn8 : n0 ≤ 8 := by rw [hn0]; exact alive_len L 0 8 on
      have HNN := Side.mk hnn
      have HN2 : Side (nn = if nb = true then n0 + 1 else n0) := ⟨by
        rw [hnn, hn0, HN.out, HNB.out]
        cases on q <;> rfl⟩
      rw [← hn0]
      clear hnn hn0 HN
      go_step
      go_cut [8] (fun v we => v = .int .i64 (nn : Int) ∧ we = wc)
      case first =>
        have hnb : (n0 : Int) + 1 ≤ 9223372036854775807 := by omega
        have h2 := HN2.out
        clear HN2
        cases nb
        · obtain rfl : nn = n0 := h2
          clear h2
          go_wp2
          go_meet
          case rel => exact ⟨rfl, rfl⟩
        · obtain rfl : nn = n0 + 1 := h2
          clear h2
          go_wp2
          go_meet
          case rel => exact ⟨by simp, rfl⟩
      case rest =>
      obtain ⟨rfl, rfl⟩ := hcut
      have k1 := VO4.out.cell q _ (fl_at _ hq8)
      have k2 := Val.froz VO4.out q
      have k3 := VO4.out.lt
      go_step
      go_wp2_with fail
      have HA5 : Side (An w gh p r (upd L q d) (upd on q true) (wc.setCell ⟨r, q, none⟩ (.bool true))) := ⟨⟨St.setCell S4.out VO4.out HPB.out.2.1 (by decide) (by decide) q _, VA4.out.move (blk_far _ HPB.out.2.2.1 _), by
        have h := Val.set VO4.out q (.bool true)
        rw [fl_set] at h
        have e : fl 8 (upd (fun j => Value.bool (on j)) q (.bool true)) = fl 8 (fun j => .bool (upd on q true j)) := fl_congr fun j _ => by unfold upd; split <;> rfl
        rw [e] at h
        exact h, HPB.out.1, HPB.out.2.1, HPB.out.2.2.1, fun j => by unfold upd; split <;> first | exact ⟨y0, y1⟩ | exact HPB.out.2.2.2 j⟩⟩
      have HQ : Side (upd on q true q = true) := ⟨by unfold upd; rw [if_pos rfl]⟩
      generalize wc.setCell ⟨r, q, none⟩ (.bool true) = w5 at *
      clear k1 k2 k3 S4 VA4 VO4 HPB HN2 hn8
      generalize hLL : upd L q d = L' at *
      generalize hOO : upd on q true = on' at *
      clear hLL hOO
      go_loopw [11, 12] (fun v11 v12 wr2 => ∃ j : Nat, v12 = .int .i64 (j : Int) ∧ j ≤ 8 ∧ v11 = .int .i64 (best on' L' j) ∧ Side (An w gh p r L' on' wr2)) (fun _ v12 _ => (8 - intOf v12).toNat)
      case atStart => exact ⟨0, rfl, by omega, rfl, HA5⟩
      case round =>
        rename_i wr0
        clear HA5
        obtain ⟨j, rfl, hj, rfl, HA⟩ := hrel
        obtain ⟨wq, hwq⟩ : ∃ wq : World, wq = wr := ⟨_, rfl⟩
        rw [← hwq] at HA ⊢
        clear hwq
        have hj0 : (0 : Int) ≤ j := by omega
        by_cases hj8 : j < 8
        · have hj8i : (j : Int) < 8 := by omega
          have hj1 : (j : Int) + 1 ≤ 9223372036854775807 := by omega
          have HB1 : Side (best on' L' (j + 1) = if tst on' L' j (best on' L' j) = true then (j : Int) else best on' L' j) := ⟨rfl⟩
          have HSP := Side.mk (best_spec on' L' j)
          have HT : Side (tst on' L' j (best on' L' j) = (on' j && (decide (best on' L' j < 0) || decide (L' j < L' (best on' L' j).toNat)))) := ⟨rfl⟩
          generalize tst on' L' j (best on' L' j) = tt at *
          obtain ⟨bj, hbj⟩ : ∃ bj, bj = best on' L' j := ⟨_, rfl⟩
          rw [← hbj] at HB1 HSP HT ⊢
          clear hbj
          have ho := HA.out.o j hj8
          have hc := HA.out.c j hj8
          have hpl := HA.out.at_.lt
          have hrl := HA.out.on_.lt
          go_upto_region 25 with (fail)
          go_cut [88] (fun v we => v = .bool tt ∧ Side (Below wq.heap.size wq we))
          case first =>
            have hto := HT.out
            clear HT HB1
            cases hoj : on' j
            · rw [hoj, Bool.false_and] at hto
              rw [hoj] at ho
              subst hto
              clear hoj
              refine start_ (n := 16) (S := fun w' => True) (ds := []) #[false, false, false, false, false, false, false, false, false, false, false, false, false, false, false, false] (by kernel_rfl) rfl rfl trivial (fun _ => ?_)
              refine inv_at (B := [0, 1, 3, 7, 15, 31, 63, 127, 255, 511, 127, 1151, 3199, 8191, 16383, 32767]) [0, 1, 2, 3, 4, 5, 6, 7, 8, 9, 10, 11, 12, 13, 14, 15] (fun a0_ b a w' => a = putSel a0_ b [(0, 73, .int .i64 j), (1, 74, .pointer (some ⟨r, j, none⟩)), (2, 75, .bool false), (3, 76, .bool false), (4, 77, undef), (5, 78, undef), (6, 79, undef), (7, 80, undef), (8, 81, undef), (9, 82, undef), (10, 83, undef), (11, 84, undef), (12, 85, undef), (13, 86, undef), (14, 87, undef), (15, 88, .bool false)] ∧ Below wq.drew.heap.size wq.drew w') rfl (by kernel_rfl) (by kernel_rfl) (by kernel_rfl) ?_ ?_ ?_
              · exact ⟨by simp only [putSel, Bool.false_eq_true, if_false], Below.refl _ _⟩
              · refine steps_cons (by rintro b a w' ⟨ha, HI⟩ hb hon hoff; refine ⟨_, rfl, fun K hK => ?_⟩; have e12 := poff ha (t := 12) rfl rfl; exact value_ (v := .int .i64 j) (by rfl) rfl (by clear HI ha; go_simp) (hK.out _ _ ⟨upk ha 0 hb rfl rfl, HI⟩)) ?_
                refine steps_cons (by rintro b a w' ⟨ha, HI⟩ hb hon hoff; refine ⟨_, rfl, fun K hK => ?_⟩; have e7 := poff ha (t := 7) rfl rfl; have e73 := pon ha 0 (hon 0 rfl) rfl rfl rfl; exact value_ (v := .pointer (some ⟨r, j, none⟩)) (by rfl) rfl (by clear HI ha; go_simp) (hK.out _ _ ⟨upk ha 1 hb rfl rfl, HI⟩)) ?_
                refine steps_cons (by rintro b a w' ⟨ha, HI⟩ hb hon hoff; refine ⟨_, rfl, fun K hK => ?_⟩; have e74 := pon ha 1 (hon 1 rfl) rfl rfl rfl; have k0_ := bc HI hrl ho; have kz_ := bz HI hrl; exact value_ (v := .bool false) (by rfl) rfl (by clear HI ha; go_simp) (hK.out _ _ ⟨upk ha 2 hb rfl rfl, HI⟩)) ?_
                refine steps_cons (by rintro b a w' ⟨ha, HI⟩ hb hon hoff; refine ⟨_, rfl, fun K hK => ?_⟩; have e75 := pon ha 2 (hon 2 rfl) rfl rfl rfl; exact value_ (v := .bool false) (by rfl) rfl (by clear HI ha; go_simp) (hK.out _ _ ⟨upk ha 3 hb rfl rfl, HI⟩)) ?_
                refine steps_cons (by rintro b a w' ⟨ha, HI⟩ hb hon hoff; refine ⟨_, rfl, fun K hK => ?_⟩; have e11 := poff ha (t := 11) rfl rfl; have e76 := pon ha 3 (hon 3 rfl) rfl rfl rfl; exact off_ (wanted_off (t := 76) (u := true) rfl rfl rfl e76) (hK.out _ _ ⟨upk ha 4 hb rfl rfl, HI⟩)) ?_
                refine steps_cons (by rintro b a w' ⟨ha, HI⟩ hb hon hoff; refine ⟨_, rfl, fun K hK => ?_⟩; have e77 := pon ha 4 (hon 4 rfl) rfl rfl rfl; have e76 := pon ha 3 (hon 3 rfl) rfl rfl rfl; exact off_ (wanted_off (t := 76) (u := true) rfl rfl rfl e76) (hK.out _ _ ⟨upk ha 5 hb rfl rfl, HI⟩)) ?_
                refine steps_cons (by rintro b a w' ⟨ha, HI⟩ hb hon hoff; refine ⟨_, rfl, fun K hK => ?_⟩; have e78 := pon ha 5 (hon 5 rfl) rfl rfl rfl; have e76 := pon ha 3 (hon 3 rfl) rfl rfl rfl; exact off_ (wanted_off (t := 76) (u := true) rfl rfl rfl e76) (hK.out _ _ ⟨upk ha 6 hb rfl rfl, HI⟩)) ?_
                refine steps_cons (by rintro b a w' ⟨ha, HI⟩ hb hon hoff; refine ⟨_, rfl, fun K hK => ?_⟩; have e12 := poff ha (t := 12) rfl rfl; have e79 := pon ha 6 (hon 6 rfl) rfl rfl rfl; exact off_ (wanted_none (t := 79) (u := false) rfl rfl rfl e79) (hK.out _ _ ⟨upk ha 7 hb rfl rfl, HI⟩)) ?_
                refine steps_cons (by rintro b a w' ⟨ha, HI⟩ hb hon hoff; refine ⟨_, rfl, fun K hK => ?_⟩; have e6 := poff ha (t := 6) rfl rfl; have e80 := pon ha 7 (hon 7 rfl) rfl rfl rfl; have e79 := pon ha 6 (hon 6 rfl) rfl rfl rfl; exact off_ (wanted_none (t := 79) (u := false) rfl rfl rfl e79) (hK.out _ _ ⟨upk ha 8 hb rfl rfl, HI⟩)) ?_
                refine steps_cons (by rintro b a w' ⟨ha, HI⟩ hb hon hoff; refine ⟨_, rfl, fun K hK => ?_⟩; have e81 := pon ha 8 (hon 8 rfl) rfl rfl rfl; have e79 := pon ha 6 (hon 6 rfl) rfl rfl rfl; exact off_ (wanted_none (t := 79) (u := false) rfl rfl rfl e79) (hK.out _ _ ⟨upk ha 9 hb rfl rfl, HI⟩)) ?_
                refine steps_cons (by rintro b a w' ⟨ha, HI⟩ hb hon hoff; refine ⟨_, rfl, fun K hK => ?_⟩; have e11 := poff ha (t := 11) rfl rfl; have e79 := pon ha 6 (hon 6 rfl) rfl rfl rfl; exact off_ (wanted_none (t := 79) (u := false) rfl rfl rfl e79) (hK.out _ _ ⟨upk ha 10 hb rfl rfl, HI⟩)) ?_
                refine steps_cons (by rintro b a w' ⟨ha, HI⟩ hb hon hoff; refine ⟨_, rfl, fun K hK => ?_⟩; have e6 := poff ha (t := 6) rfl rfl; have e83 := pon ha 10 (hon 10 rfl) rfl rfl rfl; have e79 := pon ha 6 (hon 6 rfl) rfl rfl rfl; exact off_ (wanted_none (t := 79) (u := false) rfl rfl rfl e79) (hK.out _ _ ⟨upk ha 11 hb rfl rfl, HI⟩)) ?_
                refine steps_cons (by rintro b a w' ⟨ha, HI⟩ hb hon hoff; refine ⟨_, rfl, fun K hK => ?_⟩; have e84 := pon ha 11 (hon 11 rfl) rfl rfl rfl; have e79 := pon ha 6 (hon 6 rfl) rfl rfl rfl; exact off_ (wanted_none (t := 79) (u := false) rfl rfl rfl e79) (hK.out _ _ ⟨upk ha 12 hb rfl rfl, HI⟩)) ?_
                refine steps_cons (by rintro b a w' ⟨ha, HI⟩ hb hon hoff; refine ⟨_, rfl, fun K hK => ?_⟩; have e82 := pon ha 9 (hon 9 rfl) rfl rfl rfl; have e85 := pon ha 12 (hon 12 rfl) rfl rfl rfl; have e79 := pon ha 6 (hon 6 rfl) rfl rfl rfl; exact off_ (wanted_none (t := 79) (u := false) rfl rfl rfl e79) (hK.out _ _ ⟨upk ha 13 hb rfl rfl, HI⟩)) ?_
                refine steps_cons (by rintro b a w' ⟨ha, HI⟩ hb hon hoff; refine ⟨_, rfl, fun K hK => ?_⟩; have e79 := pon ha 6 (hon 6 rfl) rfl rfl rfl; have e86 := pon ha 13 (hon 13 rfl) rfl rfl rfl; have e76 := pon ha 3 (hon 3 rfl) rfl rfl rfl; exact off_ (wanted_off (t := 76) (u := true) rfl rfl rfl e76) (hK.out _ _ ⟨upk ha 14 hb rfl rfl, HI⟩)) ?_
                refine steps_cons (by rintro b a w' ⟨ha, HI⟩ hb hon hoff; refine ⟨_, rfl, fun K hK => ?_⟩; have e76 := pon ha 3 (hon 3 rfl) rfl rfl rfl; have e87 := pon ha 14 (hon 14 rfl) rfl rfl rfl; exact value_ (v := .bool false) (by rfl) rfl (by clear HI ha; go_simp) (hK.out _ _ ⟨upk ha 15 hb rfl rfl, HI⟩)) ?_
                exact steps_nil
              · rintro b a w' hall ⟨ha, HI⟩
                have hb0_ := hall 0 rfl; have hb1_ := hall 1 rfl; have hb2_ := hall 2 rfl; have hb3_ := hall 3 rfl; have hb4_ := hall 4 rfl; have hb5_ := hall 5 rfl; have hb6_ := hall 6 rfl; have hb7_ := hall 7 rfl
                have hb8_ := hall 8 rfl; have hb9_ := hall 9 rfl; have hb10_ := hall 10 rfl; have hb11_ := hall 11 rfl; have hb12_ := hall 12 rfl; have hb13_ := hall 13 rfl; have hb14_ := hall 14 rfl; have hb15_ := hall 15 rfl
                subst ha
                simp only [putSel, hb0_, hb1_, hb2_, hb3_, hb4_, hb5_, hb6_, hb7_, hb8_, hb9_, hb10_, hb11_, hb12_, hb13_, hb14_, hb15_, if_true, Act.put, List.setIfInBounds_toArray, List.set_cons_zero, List.set_cons_succ]
                have hB := (below_then (below_drew (Below.refl _ wq)) (Nat.le_refl _) HI : Below wq.heap.size wq w')
                clear hall HI hb0_ hb1_ hb2_ hb3_ hb4_ hb5_ hb6_ hb7_ hb8_ hb9_ hb10_ hb11_ hb12_ hb13_ hb14_ hb15_
                refine ‹∀ (a' : Act) (w' : World), Met _ a' w' → _› _ _ ?_
                go_meet
                case rel => exact ⟨rfl, ⟨hB⟩⟩
            · rw [hoj, Bool.true_and] at hto
              rw [hoj] at ho
              clear hoj
              rcases HSP.out with ⟨h1, -⟩ | ⟨q2, hq2, h1, -, -⟩
              · subst h1
                rw [decide_eq_true (by decide), Bool.true_or] at hto
                subst hto
                refine start_ (n := 16) (S := fun w' => True) (ds := []) #[false, false, false, false, false, false, false, false, false, false, false, false, false, false, false, false] (by kernel_rfl) rfl rfl trivial (fun _ => ?_)
                refine inv_at (B := [0, 1, 3, 7, 15, 31, 63, 127, 255, 511, 127, 1151, 3199, 8191, 16383, 32767]) [0, 1, 2, 3, 4, 5, 6, 7, 8, 9, 10, 11, 12, 13, 14, 15] (fun a0_ b a w' => a = putSel a0_ b [(0, 73, .int .i64 j), (1, 74, .pointer (some ⟨r, j, none⟩)), (2, 75, .bool true), (3, 76, .bool true), (4, 77, .int .i64 (-1)), (5, 78, .bool true), (6, 79, .bool true), (7, 80, undef), (8, 81, undef), (9, 82, undef), (10, 83, undef), (11, 84, undef), (12, 85, undef), (13, 86, undef), (14, 87, .bool true), (15, 88, .bool true)] ∧ Below wq.drew.heap.size wq.drew w') rfl (by kernel_rfl) (by kernel_rfl) (by kernel_rfl) ?_ ?_ ?_
                · exact ⟨by simp only [putSel, Bool.false_eq_true, if_false], Below.refl _ _⟩
                · refine steps_cons (by rintro b a w' ⟨ha, HI⟩ hb hon hoff; refine ⟨_, rfl, fun K hK => ?_⟩; have e12 := poff ha (t := 12) rfl rfl; exact value_ (v := .int .i64 j) (by rfl) rfl (by clear HI ha; go_simp) (hK.out _ _ ⟨upk ha 0 hb rfl rfl, HI⟩)) ?_
                  refine steps_cons (by rintro b a w' ⟨ha, HI⟩ hb hon hoff; refine ⟨_, rfl, fun K hK => ?_⟩; have e7 := poff ha (t := 7) rfl rfl; have e73 := pon ha 0 (hon 0 rfl) rfl rfl rfl; exact value_ (v := .pointer (some ⟨r, j, none⟩)) (by rfl) rfl (by clear HI ha; go_simp) (hK.out _ _ ⟨upk ha 1 hb rfl rfl, HI⟩)) ?_
                  refine steps_cons (by rintro b a w' ⟨ha, HI⟩ hb hon hoff; refine ⟨_, rfl, fun K hK => ?_⟩; have e74 := pon ha 1 (hon 1 rfl) rfl rfl rfl; have k0_ := bc HI hrl ho; have kz_ := bz HI hrl; exact value_ (v := .bool true) (by rfl) rfl (by clear HI ha; go_simp) (hK.out _ _ ⟨upk ha 2 hb rfl rfl, HI⟩)) ?_
                  refine steps_cons (by rintro b a w' ⟨ha, HI⟩ hb hon hoff; refine ⟨_, rfl, fun K hK => ?_⟩; have e75 := pon ha 2 (hon 2 rfl) rfl rfl rfl; exact value_ (v := .bool true) (by rfl) rfl (by clear HI ha; go_simp) (hK.out _ _ ⟨upk ha 3 hb rfl rfl, HI⟩)) ?_
                  refine steps_cons (by rintro b a w' ⟨ha, HI⟩ hb hon hoff; refine ⟨_, rfl, fun K hK => ?_⟩; have e11 := poff ha (t := 11) rfl rfl; have e76 := pon ha 3 (hon 3 rfl) rfl rfl rfl; exact value_ (v := .int .i64 (-1)) (wanted_on (t := 76) (u := true) rfl rfl rfl e76) rfl (by clear HI ha; go_simp) (hK.out _ _ ⟨upk ha 4 hb rfl rfl, HI⟩)) ?_
                  refine steps_cons (by rintro b a w' ⟨ha, HI⟩ hb hon hoff; refine ⟨_, rfl, fun K hK => ?_⟩; have e77 := pon ha 4 (hon 4 rfl) rfl rfl rfl; have e76 := pon ha 3 (hon 3 rfl) rfl rfl rfl; exact value_ (v := .bool true) (wanted_on (t := 76) (u := true) rfl rfl rfl e76) rfl (by clear HI ha; go_simp) (hK.out _ _ ⟨upk ha 5 hb rfl rfl, HI⟩)) ?_
                  refine steps_cons (by rintro b a w' ⟨ha, HI⟩ hb hon hoff; refine ⟨_, rfl, fun K hK => ?_⟩; have e78 := pon ha 5 (hon 5 rfl) rfl rfl rfl; have e76 := pon ha 3 (hon 3 rfl) rfl rfl rfl; exact value_ (v := .bool true) (wanted_on (t := 76) (u := true) rfl rfl rfl e76) rfl (by clear HI ha; go_simp) (hK.out _ _ ⟨upk ha 6 hb rfl rfl, HI⟩)) ?_
                  refine steps_cons (by rintro b a w' ⟨ha, HI⟩ hb hon hoff; refine ⟨_, rfl, fun K hK => ?_⟩; have e12 := poff ha (t := 12) rfl rfl; have e79 := pon ha 6 (hon 6 rfl) rfl rfl rfl; exact off_ (wanted_off (t := 79) (u := false) rfl rfl rfl e79) (hK.out _ _ ⟨upk ha 7 hb rfl rfl, HI⟩)) ?_
                  refine steps_cons (by rintro b a w' ⟨ha, HI⟩ hb hon hoff; refine ⟨_, rfl, fun K hK => ?_⟩; have e6 := poff ha (t := 6) rfl rfl; have e80 := pon ha 7 (hon 7 rfl) rfl rfl rfl; have e79 := pon ha 6 (hon 6 rfl) rfl rfl rfl; exact off_ (wanted_off (t := 79) (u := false) rfl rfl rfl e79) (hK.out _ _ ⟨upk ha 8 hb rfl rfl, HI⟩)) ?_
                  refine steps_cons (by rintro b a w' ⟨ha, HI⟩ hb hon hoff; refine ⟨_, rfl, fun K hK => ?_⟩; have e81 := pon ha 8 (hon 8 rfl) rfl rfl rfl; have e79 := pon ha 6 (hon 6 rfl) rfl rfl rfl; exact off_ (wanted_off (t := 79) (u := false) rfl rfl rfl e79) (hK.out _ _ ⟨upk ha 9 hb rfl rfl, HI⟩)) ?_
                  refine steps_cons (by rintro b a w' ⟨ha, HI⟩ hb hon hoff; refine ⟨_, rfl, fun K hK => ?_⟩; have e11 := poff ha (t := 11) rfl rfl; have e79 := pon ha 6 (hon 6 rfl) rfl rfl rfl; exact off_ (wanted_off (t := 79) (u := false) rfl rfl rfl e79) (hK.out _ _ ⟨upk ha 10 hb rfl rfl, HI⟩)) ?_
                  refine steps_cons (by rintro b a w' ⟨ha, HI⟩ hb hon hoff; refine ⟨_, rfl, fun K hK => ?_⟩; have e6 := poff ha (t := 6) rfl rfl; have e83 := pon ha 10 (hon 10 rfl) rfl rfl rfl; have e79 := pon ha 6 (hon 6 rfl) rfl rfl rfl; exact off_ (wanted_off (t := 79) (u := false) rfl rfl rfl e79) (hK.out _ _ ⟨upk ha 11 hb rfl rfl, HI⟩)) ?_
                  refine steps_cons (by rintro b a w' ⟨ha, HI⟩ hb hon hoff; refine ⟨_, rfl, fun K hK => ?_⟩; have e84 := pon ha 11 (hon 11 rfl) rfl rfl rfl; have e79 := pon ha 6 (hon 6 rfl) rfl rfl rfl; exact off_ (wanted_off (t := 79) (u := false) rfl rfl rfl e79) (hK.out _ _ ⟨upk ha 12 hb rfl rfl, HI⟩)) ?_
                  refine steps_cons (by rintro b a w' ⟨ha, HI⟩ hb hon hoff; refine ⟨_, rfl, fun K hK => ?_⟩; have e82 := pon ha 9 (hon 9 rfl) rfl rfl rfl; have e85 := pon ha 12 (hon 12 rfl) rfl rfl rfl; have e79 := pon ha 6 (hon 6 rfl) rfl rfl rfl; exact off_ (wanted_off (t := 79) (u := false) rfl rfl rfl e79) (hK.out _ _ ⟨upk ha 13 hb rfl rfl, HI⟩)) ?_
                  refine steps_cons (by rintro b a w' ⟨ha, HI⟩ hb hon hoff; refine ⟨_, rfl, fun K hK => ?_⟩; have e79 := pon ha 6 (hon 6 rfl) rfl rfl rfl; have e86 := pon ha 13 (hon 13 rfl) rfl rfl rfl; have e76 := pon ha 3 (hon 3 rfl) rfl rfl rfl; exact value_ (v := .bool true) (wanted_on (t := 76) (u := true) rfl rfl rfl e76) rfl (by clear HI ha; go_simp) (hK.out _ _ ⟨upk ha 14 hb rfl rfl, HI⟩)) ?_
                  refine steps_cons (by rintro b a w' ⟨ha, HI⟩ hb hon hoff; refine ⟨_, rfl, fun K hK => ?_⟩; have e76 := pon ha 3 (hon 3 rfl) rfl rfl rfl; have e87 := pon ha 14 (hon 14 rfl) rfl rfl rfl; exact value_ (v := .bool true) (by rfl) rfl (by clear HI ha; go_simp) (hK.out _ _ ⟨upk ha 15 hb rfl rfl, HI⟩)) ?_
                  exact steps_nil
                · rintro b a w' hall ⟨ha, HI⟩
                  have hb0_ := hall 0 rfl; have hb1_ := hall 1 rfl; have hb2_ := hall 2 rfl; have hb3_ := hall 3 rfl; have hb4_ := hall 4 rfl; have hb5_ := hall 5 rfl; have hb6_ := hall 6 rfl; have hb7_ := hall 7 rfl
                  have hb8_ := hall 8 rfl; have hb9_ := hall 9 rfl; have hb10_ := hall 10 rfl; have hb11_ := hall 11 rfl; have hb12_ := hall 12 rfl; have hb13_ := hall 13 rfl; have hb14_ := hall 14 rfl; have hb15_ := hall 15 rfl
                  subst ha
                  simp only [putSel, hb0_, hb1_, hb2_, hb3_, hb4_, hb5_, hb6_, hb7_, hb8_, hb9_, hb10_, hb11_, hb12_, hb13_, hb14_, hb15_, if_true, Act.put, List.setIfInBounds_toArray, List.set_cons_zero, List.set_cons_succ]
                  have hB := (below_then (below_drew (Below.refl _ wq)) (Nat.le_refl _) HI : Below wq.heap.size wq w')
                  clear hall HI hb0_ hb1_ hb2_ hb3_ hb4_ hb5_ hb6_ hb7_ hb8_ hb9_ hb10_ hb11_ hb12_ hb13_ hb14_ hb15_
                  refine ‹∀ (a' : Act) (w' : World), Met _ a' w' → _› _ _ ?_
                  go_meet
                  case rel => exact ⟨rfl, ⟨hB⟩⟩
              · subst h1
                rw [decide_eq_false (by omega), Bool.false_or, Int.toNat_natCast] at hto
                subst hto
                have hc2 := HA.out.c q2 (by omega)
                have hq2n : (0 : Int) ≤ q2 := by omega
                have hq28 : (q2 : Int) < 8 := by omega
                clear HSP
                refine start_ (n := 16) (S := fun w' => True) (ds := []) #[false, false, false, false, false, false, false, false, false, false, false, false, false, false, false, false] (by kernel_rfl) rfl rfl trivial (fun _ => ?_)
                refine inv_at (B := [0, 1, 3, 7, 15, 31, 63, 127, 255, 511, 127, 1151, 3199, 8191, 16383, 32767]) [0, 1, 2, 3, 4, 5, 6, 7, 8, 9, 10, 11, 12, 13, 14, 15] (fun a0_ b a w' => a = putSel a0_ b [(0, 73, .int .i64 j), (1, 74, .pointer (some ⟨r, j, none⟩)), (2, 75, .bool true), (3, 76, .bool true), (4, 77, .int .i64 q2), (5, 78, .bool false), (6, 79, .bool false), (7, 80, .int .i64 j), (8, 81, .pointer (some ⟨p, j, none⟩)), (9, 82, .int .i64 (L' j)), (10, 83, .int .i64 q2), (11, 84, .pointer (some ⟨p, q2, none⟩)), (12, 85, .int .i64 (L' q2)), (13, 86, .bool (decide (L' j < L' q2))), (14, 87, .bool (decide (L' j < L' q2))), (15, 88, .bool (decide (L' j < L' q2)))] ∧ Below wq.drew.heap.size wq.drew w') rfl (by kernel_rfl) (by kernel_rfl) (by kernel_rfl) ?_ ?_ ?_
                · exact ⟨by simp only [putSel, Bool.false_eq_true, if_false], Below.refl _ _⟩
                · refine steps_cons (by rintro b a w' ⟨ha, HI⟩ hb hon hoff; refine ⟨_, rfl, fun K hK => ?_⟩; have e12 := poff ha (t := 12) rfl rfl; exact value_ (v := .int .i64 j) (by rfl) rfl (by clear HI ha; go_simp) (hK.out _ _ ⟨upk ha 0 hb rfl rfl, HI⟩)) ?_
                  refine steps_cons (by rintro b a w' ⟨ha, HI⟩ hb hon hoff; refine ⟨_, rfl, fun K hK => ?_⟩; have e7 := poff ha (t := 7) rfl rfl; have e73 := pon ha 0 (hon 0 rfl) rfl rfl rfl; exact value_ (v := .pointer (some ⟨r, j, none⟩)) (by rfl) rfl (by clear HI ha; go_simp) (hK.out _ _ ⟨upk ha 1 hb rfl rfl, HI⟩)) ?_
                  refine steps_cons (by rintro b a w' ⟨ha, HI⟩ hb hon hoff; refine ⟨_, rfl, fun K hK => ?_⟩; have e74 := pon ha 1 (hon 1 rfl) rfl rfl rfl; have k0_ := bc HI hrl ho; have kz_ := bz HI hrl; exact value_ (v := .bool true) (by rfl) rfl (by clear HI ha; go_simp) (hK.out _ _ ⟨upk ha 2 hb rfl rfl, HI⟩)) ?_
                  refine steps_cons (by rintro b a w' ⟨ha, HI⟩ hb hon hoff; refine ⟨_, rfl, fun K hK => ?_⟩; have e75 := pon ha 2 (hon 2 rfl) rfl rfl rfl; exact value_ (v := .bool true) (by rfl) rfl (by clear HI ha; go_simp) (hK.out _ _ ⟨upk ha 3 hb rfl rfl, HI⟩)) ?_
                  refine steps_cons (by rintro b a w' ⟨ha, HI⟩ hb hon hoff; refine ⟨_, rfl, fun K hK => ?_⟩; have e11 := poff ha (t := 11) rfl rfl; have e76 := pon ha 3 (hon 3 rfl) rfl rfl rfl; exact value_ (v := .int .i64 q2) (wanted_on (t := 76) (u := true) rfl rfl rfl e76) rfl (by clear HI ha; go_simp) (hK.out _ _ ⟨upk ha 4 hb rfl rfl, HI⟩)) ?_
                  refine steps_cons (by rintro b a w' ⟨ha, HI⟩ hb hon hoff; refine ⟨_, rfl, fun K hK => ?_⟩; have e77 := pon ha 4 (hon 4 rfl) rfl rfl rfl; have e76 := pon ha 3 (hon 3 rfl) rfl rfl rfl; exact value_ (v := .bool false) (wanted_on (t := 76) (u := true) rfl rfl rfl e76) rfl (by clear HI ha; go_simp) (hK.out _ _ ⟨upk ha 5 hb rfl rfl, HI⟩)) ?_
                  refine steps_cons (by rintro b a w' ⟨ha, HI⟩ hb hon hoff; refine ⟨_, rfl, fun K hK => ?_⟩; have e78 := pon ha 5 (hon 5 rfl) rfl rfl rfl; have e76 := pon ha 3 (hon 3 rfl) rfl rfl rfl; exact value_ (v := .bool false) (wanted_on (t := 76) (u := true) rfl rfl rfl e76) rfl (by clear HI ha; go_simp) (hK.out _ _ ⟨upk ha 6 hb rfl rfl, HI⟩)) ?_
                  refine steps_cons (by rintro b a w' ⟨ha, HI⟩ hb hon hoff; refine ⟨_, rfl, fun K hK => ?_⟩; have e12 := poff ha (t := 12) rfl rfl; have e79 := pon ha 6 (hon 6 rfl) rfl rfl rfl; exact value_ (v := .int .i64 j) (wanted_on (t := 79) (u := false) rfl rfl rfl e79) rfl (by clear HI ha; go_simp) (hK.out _ _ ⟨upk ha 7 hb rfl rfl, HI⟩)) ?_
                  refine steps_cons (by rintro b a w' ⟨ha, HI⟩ hb hon hoff; refine ⟨_, rfl, fun K hK => ?_⟩; have e6 := poff ha (t := 6) rfl rfl; have e80 := pon ha 7 (hon 7 rfl) rfl rfl rfl; have e79 := pon ha 6 (hon 6 rfl) rfl rfl rfl; exact value_ (v := .pointer (some ⟨p, j, none⟩)) (wanted_on (t := 79) (u := false) rfl rfl rfl e79) rfl (by clear HI ha; go_simp) (hK.out _ _ ⟨upk ha 8 hb rfl rfl, HI⟩)) ?_
                  refine steps_cons (by rintro b a w' ⟨ha, HI⟩ hb hon hoff; refine ⟨_, rfl, fun K hK => ?_⟩; have e81 := pon ha 8 (hon 8 rfl) rfl rfl rfl; have e79 := pon ha 6 (hon 6 rfl) rfl rfl rfl; have k0_ := bc HI hpl hc; have kz_ := bz HI hpl; exact value_ (v := .int .i64 (L' j)) (wanted_on (t := 79) (u := false) rfl rfl rfl e79) rfl (by clear HI ha; go_simp) (hK.out _ _ ⟨upk ha 9 hb rfl rfl, HI⟩)) ?_
                  refine steps_cons (by rintro b a w' ⟨ha, HI⟩ hb hon hoff; refine ⟨_, rfl, fun K hK => ?_⟩; have e11 := poff ha (t := 11) rfl rfl; have e79 := pon ha 6 (hon 6 rfl) rfl rfl rfl; exact value_ (v := .int .i64 q2) (wanted_on (t := 79) (u := false) rfl rfl rfl e79) rfl (by clear HI ha; go_simp) (hK.out _ _ ⟨upk ha 10 hb rfl rfl, HI⟩)) ?_
                  refine steps_cons (by rintro b a w' ⟨ha, HI⟩ hb hon hoff; refine ⟨_, rfl, fun K hK => ?_⟩; have e6 := poff ha (t := 6) rfl rfl; have e83 := pon ha 10 (hon 10 rfl) rfl rfl rfl; have e79 := pon ha 6 (hon 6 rfl) rfl rfl rfl; exact value_ (v := .pointer (some ⟨p, q2, none⟩)) (wanted_on (t := 79) (u := false) rfl rfl rfl e79) rfl (by clear HI ha; go_simp) (hK.out _ _ ⟨upk ha 11 hb rfl rfl, HI⟩)) ?_
                  refine steps_cons (by rintro b a w' ⟨ha, HI⟩ hb hon hoff; refine ⟨_, rfl, fun K hK => ?_⟩; have e84 := pon ha 11 (hon 11 rfl) rfl rfl rfl; have e79 := pon ha 6 (hon 6 rfl) rfl rfl rfl; have k0_ := bc HI hpl hc2; have kz_ := bz HI hpl; exact value_ (v := .int .i64 (L' q2)) (wanted_on (t := 79) (u := false) rfl rfl rfl e79) rfl (by clear HI ha; go_simp) (hK.out _ _ ⟨upk ha 12 hb rfl rfl, HI⟩)) ?_
                  refine steps_cons (by rintro b a w' ⟨ha, HI⟩ hb hon hoff; refine ⟨_, rfl, fun K hK => ?_⟩; have e82 := pon ha 9 (hon 9 rfl) rfl rfl rfl; have e85 := pon ha 12 (hon 12 rfl) rfl rfl rfl; have e79 := pon ha 6 (hon 6 rfl) rfl rfl rfl; exact value_ (v := .bool (decide (L' j < L' q2))) (wanted_on (t := 79) (u := false) rfl rfl rfl e79) rfl (by clear HI ha; go_simp) (hK.out _ _ ⟨upk ha 13 hb rfl rfl, HI⟩)) ?_
                  refine steps_cons (by rintro b a w' ⟨ha, HI⟩ hb hon hoff; refine ⟨_, rfl, fun K hK => ?_⟩; have e79 := pon ha 6 (hon 6 rfl) rfl rfl rfl; have e86 := pon ha 13 (hon 13 rfl) rfl rfl rfl; have e76 := pon ha 3 (hon 3 rfl) rfl rfl rfl; exact value_ (v := .bool (decide (L' j < L' q2))) (wanted_on (t := 76) (u := true) rfl rfl rfl e76) rfl (by clear HI ha; go_simp) (hK.out _ _ ⟨upk ha 14 hb rfl rfl, HI⟩)) ?_
                  refine steps_cons (by rintro b a w' ⟨ha, HI⟩ hb hon hoff; refine ⟨_, rfl, fun K hK => ?_⟩; have e76 := pon ha 3 (hon 3 rfl) rfl rfl rfl; have e87 := pon ha 14 (hon 14 rfl) rfl rfl rfl; exact value_ (v := .bool (decide (L' j < L' q2))) (by rfl) rfl (by clear HI ha; go_simp) (hK.out _ _ ⟨upk ha 15 hb rfl rfl, HI⟩)) ?_
                  exact steps_nil
                · rintro b a w' hall ⟨ha, HI⟩
                  have hb0_ := hall 0 rfl; have hb1_ := hall 1 rfl; have hb2_ := hall 2 rfl; have hb3_ := hall 3 rfl; have hb4_ := hall 4 rfl; have hb5_ := hall 5 rfl; have hb6_ := hall 6 rfl; have hb7_ := hall 7 rfl
                  have hb8_ := hall 8 rfl; have hb9_ := hall 9 rfl; have hb10_ := hall 10 rfl; have hb11_ := hall 11 rfl; have hb12_ := hall 12 rfl; have hb13_ := hall 13 rfl; have hb14_ := hall 14 rfl; have hb15_ := hall 15 rfl
                  subst ha
                  simp only [putSel, hb0_, hb1_, hb2_, hb3_, hb4_, hb5_, hb6_, hb7_, hb8_, hb9_, hb10_, hb11_, hb12_, hb13_, hb14_, hb15_, if_true, Act.put, List.setIfInBounds_toArray, List.set_cons_zero, List.set_cons_succ]
                  have hB := (below_then (below_drew (Below.refl _ wq)) (Nat.le_refl _) HI : Below wq.heap.size wq w')
                  clear hall HI hb0_ hb1_ hb2_ hb3_ hb4_ hb5_ hb6_ hb7_ hb8_ hb9_ hb10_ hb11_ hb12_ hb13_ hb14_ hb15_
                  refine ‹∀ (a' : Act) (w' : World), Met _ a' w' → _› _ _ ?_
                  go_meet
                  case rel => exact ⟨rfl, ⟨hB⟩⟩
          case rest =>
            obtain ⟨rfl, HB⟩ := hcut
            have HA2 := Side.mk (HA.out.below HB.out)
            clear HA HB ho hc hpl hrl
            have h1 := HB1.out
            clear HB1 HT
            go_step
            cases tt
            · have HE : Side (best on' L' (j + 1) = bj) := ⟨h1⟩
              clear h1
              go_wp2
              go_roundw
              case rel => exact ⟨j + 1, by simp, by omega, by rw [HE.out], HA2⟩
              case measure => simp [intOf]; omega
            · have HE : Side (best on' L' (j + 1) = (j : Int)) := ⟨h1⟩
              clear h1
              go_wp2
              go_roundw
              case rel => exact ⟨j + 1, by simp, by omega, by rw [HE.out], HA2⟩
              case measure => simp [intOf]; omega
        · have hj8i : ¬ (j : Int) < 8 := by omega
          obtain rfl : j = 8 := by omega
          obtain ⟨qq, hqq, hbq, hoq, hfirst⟩ : ∃ q : Nat, q < 8 ∧ best on' L' 8 = q ∧ on' q = true ∧ First 2 (alive L' 0 8 on') (item L' 0 q) := by
            rcases best_tops L' 0 8 on' with ⟨_, h2⟩ | h
            · have := alive_has L' 0 8 on' q hq8
              rw [h2, HQ.out] at this
              cases this
            · exact h
          rw [hbq]
          have hqc := HA.out.c qq hqq
          have CT := Top_st HA.out.st (by have := alive_len L' 0 8 on'; omega) (item L' 0 qq) true (.inr ⟨hfirst, rfl⟩)
          have hqq0 : (0 : Int) ≤ qq := by omega
          have hqq8 : (qq : Int) < 8 := by omega
          clear hbq hoq hfirst hj8i hj
          go_wp2_with fail
          refine CT.mono ?_
          rintro e w6 ⟨rfl, s6, hb6⟩
          have HA6 := Side.mk (HA.out.below hb6)
          clear s6 hb6 CT HA hqc
          go_upto_region 28 with (fail)
          obtain ⟨y, hy⟩ : ∃ y, y = w6.heap.size := ⟨_, rfl⟩
          obtain ⟨W7, hW7⟩ : ∃ W7, W7 = w6.alloc (.cells #[.int .i64 (L' qq), .int .i64 0, .int .i64 0, .int .i64 0] 32) := ⟨_, rfl⟩
          rw [show w6.alloc (.cells #[.int .i64 (item L' 0 qq).2.1, .int .i64 (item L' 0 qq).2.2.1, .int .i64 (item L' 0 qq).2.2.2.1, .int .i64 (item L' 0 qq).2.2.2.2] 32) = W7 from hW7.symm, ← hy, show (item L' 0 qq).1 = (qq : Int) from rfl]
          have hb7 : Below w6.heap.size w6 W7 := by rw [hW7]; exact (Below.refl _ _).alloc (Nat.le_refl _) _
          have HA7 := Side.mk (HA6.out.below hb7)
          have y0' : W7.cell? ⟨y, 0, none⟩ = some (.int .i64 (L' qq)) := by rw [hW7, hy]; exact (World.cell?_alloc_at _ _ _ _ rfl).trans rfl
          have hyl : y < W7.heap.size := by rw [hW7, hy]; simp
          have hqc := HA7.out.c qq hqq
          have hpl := HA7.out.at_.lt
          have CLn := fun w' (hb : Below W7.drew.heap.size W7.drew w') => Len_st (St.below' HA7.out.st (below_then (below_drew (Below.refl _ W7)) (Nat.le_refl _) hb)) nn HNN.out.symm
          clear hW7 hy hb7 HA6 hq8 hqi hq0
          refine start_ (n := 21) (S := fun w' => True) (ds := []) #[false, false, false, false, false, false, false, false, false, false, false, false, false, false, false, false, false, false, false, false, false] (by kernel_rfl) rfl rfl trivial (fun _ => ?_)
          refine inv_at (B := [0, 1, 3, 7, 7, 31, 63, 127, 255, 511, 255, 1279, 3327, 8191, 16383, 32767, 65535, 131071, 65535, 524287, 1048575]) [0, 1, 2, 3, 4, 5, 6, 7, 8, 9, 10, 11, 12, 13, 14, 15, 16, 17, 18, 19, 20] (fun a0_ b a w' => a = putSel a0_ b [(0, 96, .bool true), (1, 97, .bool false), (2, 98, .bool false), (3, 99, .int .i64 qq), (4, 100, .int .i64 qq), (5, 101, .bool false), (6, 102, .bool false), (7, 103, .bool false), (8, 104, .pointer (some ⟨y, 0, none⟩)), (9, 105, .int .i64 (L' qq)), (10, 106, .int .i64 qq), (11, 107, .pointer (some ⟨p, qq, none⟩)), (12, 108, .int .i64 (L' qq)), (13, 109, .bool false), (14, 110, .bool false), (15, 111, .bool false), (16, 112, .pointer (some ⟨gh, 0, none⟩)), (17, 113, .int .i64 nn), (18, 114, .int .i64 nn), (19, 115, .bool false), (20, 116, .bool false)] ∧ Below W7.drew.heap.size W7.drew w') rfl (by kernel_rfl) (by kernel_rfl) (by kernel_rfl) ?_ ?_ ?_
          · exact ⟨by simp only [putSel, Bool.false_eq_true, if_false], Below.refl _ _⟩
          · refine steps_cons (by rintro b a w' ⟨ha, HI⟩ hb hon hoff; refine ⟨_, rfl, fun K hK => ?_⟩; have e15 := poff ha (t := 15) rfl rfl; exact value_ (v := .bool true) (by rfl) rfl (by clear HI ha; go_simp) (hK.out _ _ ⟨upk ha 0 hb rfl rfl, HI⟩)) ?_
            refine steps_cons (by rintro b a w' ⟨ha, HI⟩ hb hon hoff; refine ⟨_, rfl, fun K hK => ?_⟩; have e96 := pon ha 0 (hon 0 rfl) rfl rfl rfl; exact value_ (v := .bool false) (by rfl) rfl (by clear HI ha; go_simp) (hK.out _ _ ⟨upk ha 1 hb rfl rfl, HI⟩)) ?_
            refine steps_cons (by rintro b a w' ⟨ha, HI⟩ hb hon hoff; refine ⟨_, rfl, fun K hK => ?_⟩; have e97 := pon ha 1 (hon 1 rfl) rfl rfl rfl; exact value_ (v := .bool false) (by rfl) rfl (by clear HI ha; go_simp) (hK.out _ _ ⟨upk ha 2 hb rfl rfl, HI⟩)) ?_
            refine steps_cons (by rintro b a w' ⟨ha, HI⟩ hb hon hoff; refine ⟨_, rfl, fun K hK => ?_⟩; have e13 := poff ha (t := 13) rfl rfl; have e98 := pon ha 2 (hon 2 rfl) rfl rfl rfl; exact value_ (v := .int .i64 qq) (wanted_on (t := 98) (u := false) rfl rfl rfl e98) rfl (by clear HI ha; go_simp) (hK.out _ _ ⟨upk ha 3 hb rfl rfl, HI⟩)) ?_
            refine steps_cons (by rintro b a w' ⟨ha, HI⟩ hb hon hoff; refine ⟨_, rfl, fun K hK => ?_⟩; have e11 := poff ha (t := 11) rfl rfl; have e98 := pon ha 2 (hon 2 rfl) rfl rfl rfl; exact value_ (v := .int .i64 qq) (wanted_on (t := 98) (u := false) rfl rfl rfl e98) rfl (by clear HI ha; go_simp) (hK.out _ _ ⟨upk ha 4 hb rfl rfl, HI⟩)) ?_
            refine steps_cons (by rintro b a w' ⟨ha, HI⟩ hb hon hoff; refine ⟨_, rfl, fun K hK => ?_⟩; have e99 := pon ha 3 (hon 3 rfl) rfl rfl rfl; have e100 := pon ha 4 (hon 4 rfl) rfl rfl rfl; have e98 := pon ha 2 (hon 2 rfl) rfl rfl rfl; exact value_ (v := .bool false) (wanted_on (t := 98) (u := false) rfl rfl rfl e98) rfl (by clear HI ha; go_simp) (hK.out _ _ ⟨upk ha 5 hb rfl rfl, HI⟩)) ?_
            refine steps_cons (by rintro b a w' ⟨ha, HI⟩ hb hon hoff; refine ⟨_, rfl, fun K hK => ?_⟩; have e98 := pon ha 2 (hon 2 rfl) rfl rfl rfl; have e101 := pon ha 5 (hon 5 rfl) rfl rfl rfl; exact value_ (v := .bool false) (by rfl) rfl (by clear HI ha; go_simp) (hK.out _ _ ⟨upk ha 6 hb rfl rfl, HI⟩)) ?_
            refine steps_cons (by rintro b a w' ⟨ha, HI⟩ hb hon hoff; refine ⟨_, rfl, fun K hK => ?_⟩; have e102 := pon ha 6 (hon 6 rfl) rfl rfl rfl; exact value_ (v := .bool false) (by rfl) rfl (by clear HI ha; go_simp) (hK.out _ _ ⟨upk ha 7 hb rfl rfl, HI⟩)) ?_
            refine steps_cons (by rintro b a w' ⟨ha, HI⟩ hb hon hoff; refine ⟨_, rfl, fun K hK => ?_⟩; have e14 := poff ha (t := 14) rfl rfl; have e103 := pon ha 7 (hon 7 rfl) rfl rfl rfl; exact value_ (v := .pointer (some ⟨y, 0, none⟩)) (wanted_on (t := 103) (u := false) rfl rfl rfl e103) rfl (by clear HI ha; go_simp) (hK.out _ _ ⟨upk ha 8 hb rfl rfl, HI⟩)) ?_
            refine steps_cons (by rintro b a w' ⟨ha, HI⟩ hb hon hoff; refine ⟨_, rfl, fun K hK => ?_⟩; have e104 := pon ha 8 (hon 8 rfl) rfl rfl rfl; have e103 := pon ha 7 (hon 7 rfl) rfl rfl rfl; have k0_ := bc HI hyl y0'; have kz_ := bz HI hyl; exact value_ (v := .int .i64 (L' qq)) (wanted_on (t := 103) (u := false) rfl rfl rfl e103) rfl (by clear HI ha; go_simp) (hK.out _ _ ⟨upk ha 9 hb rfl rfl, HI⟩)) ?_
            refine steps_cons (by rintro b a w' ⟨ha, HI⟩ hb hon hoff; refine ⟨_, rfl, fun K hK => ?_⟩; have e11 := poff ha (t := 11) rfl rfl; have e103 := pon ha 7 (hon 7 rfl) rfl rfl rfl; exact value_ (v := .int .i64 qq) (wanted_on (t := 103) (u := false) rfl rfl rfl e103) rfl (by clear HI ha; go_simp) (hK.out _ _ ⟨upk ha 10 hb rfl rfl, HI⟩)) ?_
            refine steps_cons (by rintro b a w' ⟨ha, HI⟩ hb hon hoff; refine ⟨_, rfl, fun K hK => ?_⟩; have e6 := poff ha (t := 6) rfl rfl; have e106 := pon ha 10 (hon 10 rfl) rfl rfl rfl; have e103 := pon ha 7 (hon 7 rfl) rfl rfl rfl; exact value_ (v := .pointer (some ⟨p, qq, none⟩)) (wanted_on (t := 103) (u := false) rfl rfl rfl e103) rfl (by clear HI ha; go_simp) (hK.out _ _ ⟨upk ha 11 hb rfl rfl, HI⟩)) ?_
            refine steps_cons (by rintro b a w' ⟨ha, HI⟩ hb hon hoff; refine ⟨_, rfl, fun K hK => ?_⟩; have e107 := pon ha 11 (hon 11 rfl) rfl rfl rfl; have e103 := pon ha 7 (hon 7 rfl) rfl rfl rfl; have k0_ := bc HI hpl hqc; have kz_ := bz HI hpl; exact value_ (v := .int .i64 (L' qq)) (wanted_on (t := 103) (u := false) rfl rfl rfl e103) rfl (by clear HI ha; go_simp) (hK.out _ _ ⟨upk ha 12 hb rfl rfl, HI⟩)) ?_
            refine steps_cons (by rintro b a w' ⟨ha, HI⟩ hb hon hoff; refine ⟨_, rfl, fun K hK => ?_⟩; have e105 := pon ha 9 (hon 9 rfl) rfl rfl rfl; have e108 := pon ha 12 (hon 12 rfl) rfl rfl rfl; have e103 := pon ha 7 (hon 7 rfl) rfl rfl rfl; exact value_ (v := .bool false) (wanted_on (t := 103) (u := false) rfl rfl rfl e103) rfl (by clear HI ha; go_simp) (hK.out _ _ ⟨upk ha 13 hb rfl rfl, HI⟩)) ?_
            refine steps_cons (by rintro b a w' ⟨ha, HI⟩ hb hon hoff; refine ⟨_, rfl, fun K hK => ?_⟩; have e103 := pon ha 7 (hon 7 rfl) rfl rfl rfl; have e109 := pon ha 13 (hon 13 rfl) rfl rfl rfl; exact value_ (v := .bool false) (by rfl) rfl (by clear HI ha; go_simp) (hK.out _ _ ⟨upk ha 14 hb rfl rfl, HI⟩)) ?_
            refine steps_cons (by rintro b a w' ⟨ha, HI⟩ hb hon hoff; refine ⟨_, rfl, fun K hK => ?_⟩; have e110 := pon ha 14 (hon 14 rfl) rfl rfl rfl; exact value_ (v := .bool false) (by rfl) rfl (by clear HI ha; go_simp) (hK.out _ _ ⟨upk ha 15 hb rfl rfl, HI⟩)) ?_
            refine steps_cons (by rintro b a w' ⟨ha, HI⟩ hb hon hoff; refine ⟨_, rfl, fun K hK => ?_⟩; have e5 := poff ha (t := 5) rfl rfl; have e111 := pon ha 15 (hon 15 rfl) rfl rfl rfl; exact value_ (v := .pointer (some ⟨gh, 0, none⟩)) (wanted_on (t := 111) (u := false) rfl rfl rfl e111) rfl (by clear HI ha; go_simp) (hK.out _ _ ⟨upk ha 16 hb rfl rfl, HI⟩)) ?_
            refine steps_cons (by rintro b a w' ⟨ha, HI⟩ hb hon hoff; refine ⟨_, rfl, fun K hK => ?_⟩; have e112 := pon ha 16 (hon 16 rfl) rfl rfl rfl; have e111 := pon ha 15 (hon 15 rfl) rfl rfl rfl; refine goes_ Try.func13 (by kernel_rfl) rfl #[.pointer (some ⟨gh, 0, none⟩)] (wanted_on (t := 111) (u := false) rfl rfl rfl e111) rfl rfl (by simp [Act.eval, e112, e111]) ((CLn _ HI).mono ?_); rintro e_ w'' ⟨rfl, rfl⟩; exact ⟨_, rfl, hK.out _ _ ⟨upk ha 17 hb rfl rfl, HI⟩⟩) ?_
            refine steps_cons (by rintro b a w' ⟨ha, HI⟩ hb hon hoff; refine ⟨_, rfl, fun K hK => ?_⟩; have e8 := poff ha (t := 8) rfl rfl; have e111 := pon ha 15 (hon 15 rfl) rfl rfl rfl; exact value_ (v := .int .i64 nn) (wanted_on (t := 111) (u := false) rfl rfl rfl e111) rfl (by clear HI ha; go_simp) (hK.out _ _ ⟨upk ha 18 hb rfl rfl, HI⟩)) ?_
            refine steps_cons (by rintro b a w' ⟨ha, HI⟩ hb hon hoff; refine ⟨_, rfl, fun K hK => ?_⟩; have e113 := pon ha 17 (hon 17 rfl) rfl rfl rfl; have e114 := pon ha 18 (hon 18 rfl) rfl rfl rfl; have e111 := pon ha 15 (hon 15 rfl) rfl rfl rfl; exact value_ (v := .bool false) (wanted_on (t := 111) (u := false) rfl rfl rfl e111) rfl (by clear HI ha; go_simp) (hK.out _ _ ⟨upk ha 19 hb rfl rfl, HI⟩)) ?_
            refine steps_cons (by rintro b a w' ⟨ha, HI⟩ hb hon hoff; refine ⟨_, rfl, fun K hK => ?_⟩; have e111 := pon ha 15 (hon 15 rfl) rfl rfl rfl; have e115 := pon ha 19 (hon 19 rfl) rfl rfl rfl; exact value_ (v := .bool false) (by rfl) rfl (by clear HI ha; go_simp) (hK.out _ _ ⟨upk ha 20 hb rfl rfl, HI⟩)) ?_
            exact steps_nil
          · rintro b a w' hall ⟨ha, HI⟩
            have hb0_ := hall 0 rfl; have hb1_ := hall 1 rfl; have hb2_ := hall 2 rfl; have hb3_ := hall 3 rfl; have hb4_ := hall 4 rfl; have hb5_ := hall 5 rfl; have hb6_ := hall 6 rfl; have hb7_ := hall 7 rfl
            have hb8_ := hall 8 rfl; have hb9_ := hall 9 rfl; have hb10_ := hall 10 rfl; have hb11_ := hall 11 rfl; have hb12_ := hall 12 rfl; have hb13_ := hall 13 rfl; have hb14_ := hall 14 rfl; have hb15_ := hall 15 rfl
            have hb16_ := hall 16 rfl; have hb17_ := hall 17 rfl; have hb18_ := hall 18 rfl; have hb19_ := hall 19 rfl; have hb20_ := hall 20 rfl
            subst ha
            simp only [putSel, hb0_, hb1_, hb2_, hb3_, hb4_, hb5_, hb6_, hb7_, hb8_, hb9_, hb10_, hb11_, hb12_, hb13_, hb14_, hb15_, hb16_, hb17_, hb18_, hb19_, hb20_, if_true, Act.put, List.setIfInBounds_toArray, List.set_cons_zero, List.set_cons_succ]
            have hB := (below_then (below_drew (Below.refl _ W7)) (Nat.le_refl _) HI : Below W7.heap.size W7 w')
            clear hall HI hb0_ hb1_ hb2_ hb3_ hb4_ hb5_ hb6_ hb7_ hb8_ hb9_ hb10_ hb11_ hb12_ hb13_ hb14_ hb15_ hb16_ hb17_ hb18_ hb19_ hb20_
            refine ‹∀ (a : Act) (w : World), Code.wp Try.prog _ _ a w → _› _ _ ?_
            have HA8 := Side.mk (HA7.out.below hB)
            have HNX : Side (Value.int .i64 (nn : Int) = .int .i64 ((alive L' 0 8 on').length : Nat)) := ⟨by rw [← HNN.out]⟩
            clear hB HA7 CLn y0' hyl hqc hpl
            go_wp2
            go_roundw
            case rel => exact ⟨i + 1, L', on', by simp, by omega, HNX.out, HA8⟩
            case measure => simp [intOf]; omega
    · have hii : ¬ (i : Int) < len := by omega
      go_wp2
      go_ret
      exact ⟨rfl, HA.out.st.below⟩
end Go.Proofs.Ytiebpmbongmgkaa.HpQ

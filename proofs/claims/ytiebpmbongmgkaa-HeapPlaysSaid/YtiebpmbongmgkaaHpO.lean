/- Package heap: the walk of HeapSorts. No condition. -/
import Derived.Test.YtiebpmbongmgkaaHpN
set_option linter.unusedVariables false
set_option linter.unusedSimpArgs false
namespace Go.Proofs.Ytiebpmbongmgkaa.HpO
open Go.RowKit Go.Proofs.Ytiebpmbongmgkaa.Kit Go.Proofs.Ytiebpmbongmgkaa.Kit2 Go.Proofs.Ytiebpmbongmgkaa.Kit3 Go.Proofs.Ytiebpmbongmgkaa.Kit4 HpPlain Go.Maps Go.Proofs.Ytiebpmbongmgkaa.HpA Go.Proofs.Ytiebpmbongmgkaa.HpB Go.Proofs.Ytiebpmbongmgkaa.HpE Go.Proofs.Ytiebpmbongmgkaa.HpG Go.Proofs.Ytiebpmbongmgkaa.HpI Go.Proofs.Ytiebpmbongmgkaa.HpK Go.Proofs.Ytiebpmbongmgkaa.HpL Go.Proofs.Ytiebpmbongmgkaa.HpN
open Go.Proofs.YtiebpmbongmgkaaW.PrintLast
/-- The item that is put of the row's rank i. -/
def X (V : Nat → Nat → Value) (i : Nat) : It := ((i : Int), intOf (V i 0), intOf (V i 1), intOf (V i 2), intOf (V i 3))
def items (V : Nat → Nat → Value) (n : Nat) : List It := (List.range n).map (X V)
theorem items_len (V : Nat → Nat → Value) (n : Nat) : (items V n).length = n := by simp [items]
theorem items_mem {V : Nat → Nat → Value} {n : Nat} {x : It} (h : x ∈ items V n) : ∃ j, j < n ∧ x = X V j := by
  obtain ⟨j, hj, rfl⟩ := List.mem_map.1 h
  exact ⟨j, List.mem_range.1 hj, rfl⟩
theorem items_put (V : Nat → Nat → Value) (n : Nat) : put (items V n) (X V n) = items V (n + 1) := by
  have hh : hasS (items V n) (X V n).1 = false := by
    cases h : hasS (items V n) (X V n).1
    · rfl
    · obtain ⟨x, hx, he⟩ := List.mem_map.1 (hasS_iff.1 h)
      obtain ⟨j, hj, rfl⟩ := items_mem hx
      simp [X] at he
      omega
  unfold put
  rw [if_neg (by rw [hh]; decide)]
  simp [items, List.range_succ]
abbrev RK : List CK := [.i .i64, .i .i64, .i .i64, .i .i64]
theorem rowR {W w : World} {a : Option Addr} {len : Nat} {V : Nat → Nat → Value} (h : InRow RK W a len V) (hb : Below W.heap.size W w) (i : Nat) (hi : i < len) :
    ∃ b off, a = some ⟨b, off, none⟩ ∧ b < W.heap.size ∧ b < w.heap.size ∧ w.cell? ⟨b, off + i * 4, none⟩ = some (.int .i64 (intOf (V i 0))) ∧ w.cell? ⟨b, off + i * 4 + 1, none⟩ = some (.int .i64 (intOf (V i 1))) ∧ w.cell? ⟨b, off + i * 4 + 2, none⟩ = some (.int .i64 (intOf (V i 2))) ∧ w.cell? ⟨b, off + i * 4 + 3, none⟩ = some (.int .i64 (intOf (V i 3))) := by
  have z0 := (h.int 0 .i64 rfl i hi).1
  have z1 := (h.int 1 .i64 rfl i hi).1
  have z2 := (h.int 2 .i64 rfl i hi).1
  have z3 := (h.int 3 .i64 rfl i hi).1
  obtain ⟨b, off, hp, hcs⟩ := h
  obtain ⟨rfl, hbl⟩ := hp (by omega)
  have c0 := (hcs i hi 0 _ rfl).1
  have c1 := (hcs i hi 1 _ rfl).1
  have c2 := (hcs i hi 2 _ rfl).1
  have c3 := (hcs i hi 3 _ rfl).1
  rw [z0] at c0
  rw [z1] at c1
  rw [z2] at c2
  rw [z3] at c3
  have hc := (bcell hb).1
  exact ⟨b, off, rfl, hbl, Nat.lt_of_lt_of_le hbl hb.size, (hc _ _ hbl).trans c0, (hc _ _ hbl).trans c1, (hc _ _ hbl).trans c2, (hc _ _ hbl).trans c3⟩
theorem St.first {W w : World} {Y : Nat → Prop} {gh : Nat} {kind : Int} {m : List It} (h : St W w Y gh kind m) (h0 : 0 < m.length) : ∃ x, First kind m x := by
  obtain ⟨v, bm, l, h1, h2, h3, h4⟩ := h.h
  exact ⟨_, (first_root h2 (by rw [h3.length_eq]; exact h0)).perm h3⟩
theorem drop_len {m : List It} {x : It} (hn : (slots m).Nodup) (hx : x ∈ m) : (drop m x.1).length + 1 = m.length := by
  obtain ⟨i, hi⟩ := List.getElem?_of_mem hx
  have hil := (List.getElem?_eq_some_iff.1 hi).1
  have := (drop_at hn hil).length_eq
  rw [at_of hi] at this
  rw [← this, List.length_take, sw_len]
  omega
theorem drop_sub {m : List It} {s : Int} {y : It} (h : y ∈ drop m s) : y ∈ m ∧ y.1 ≠ s := by
  have := List.mem_filter.1 h
  exact ⟨this.1, by simpa using this.2⟩
/-- What was first is ahead of what is left. -/
theorem first_lt {k : Int} {m : List It} {x : It} (h : First k m x) : ∀ y ∈ drop m x.1, lt k x y = true := by
  intro y hy
  obtain ⟨h1, h2⟩ := drop_sub hy
  cases hl : lt k x y
  · exact absurd (nlt_anti (h.2 y h1) hl) h2
  · rfl
/-- What stands between the rounds of the second loop. -/
structure Lo (W : World) (V : Nat → Nat → Value) (n : Nat) (k : Int) (gh p : Nat) (i : Nat) (w : World) (m : List It) (ls : It) : Prop where
  st : St W w (fun _ => False) gh k m
  len : m.length + i = n
  sub : ∀ x ∈ m, ∃ j, j < n ∧ x = X V j
  box : w.heap[p]? = some (.cells #[.int .i64 0, .int .i64 ls.1, .int .i64 ls.2.1, .int .i64 ls.2.2.1, .int .i64 ls.2.2.2.1, .int .i64 ls.2.2.2.2] 42 (0, 0))
  pb : W.heap.size ≤ p
  ord : (i = 0 ∧ ls.1 = -1) ∨ (0 ≤ ls.1 ∧ ∀ y ∈ m, lt k ls y = true)
theorem Lo.next {W w w' : World} {V : Nat → Nat → Value} {n : Nat} {k : Int} {gh p i : Nat} {m : List It} {ls x : It} {cur : Array Value} (h : Lo W V n k gh p i w m ls) (hx : First k m x) (hi : i < n) (hs : St W w' (fun _ => False) gh k (drop m x.1)) (hb : w'.heap[p]? = some (.cells cur 42 (0, 0))) (hc : cur.size = 6) (h0 : 0 ≤ x.1) :
    Lo W V n k gh p (i + 1) ((((((w'.setCell ⟨p, 0, none⟩ (.int .i64 0)).setCell ⟨p, 1, none⟩ (.int .i64 x.1)).setCell ⟨p, 2, none⟩ (.int .i64 x.2.1)).setCell ⟨p, 3, none⟩ (.int .i64 x.2.2.1)).setCell ⟨p, 4, none⟩ (.int .i64 x.2.2.2.1)).setCell ⟨p, 5, none⟩ (.int .i64 x.2.2.2.2)) (drop m x.1) x := by
  have e : ((((((w'.setCell ⟨p, 0, none⟩ (.int .i64 0)).setCell ⟨p, 1, none⟩ (.int .i64 x.1)).setCell ⟨p, 2, none⟩ (.int .i64 x.2.1)).setCell ⟨p, 3, none⟩ (.int .i64 x.2.2.1)).setCell ⟨p, 4, none⟩ (.int .i64 x.2.2.2.1)).setCell ⟨p, 5, none⟩ (.int .i64 x.2.2.2.2)) = w'.setCells p 0 [.int .i64 0, .int .i64 x.1, .int .i64 x.2.1, .int .i64 x.2.2.1, .int .i64 x.2.2.2.1, .int .i64 x.2.2.2.2] := rfl
  rw [e]
  have hch := chg_cells w' p 0 [.int .i64 0, .int .i64 x.1, .int .i64 x.2.1, .int .i64 x.2.2.1, .int .i64 x.2.2.2.1, .int .i64 x.2.2.2.2]
  have hp := (Array.getElem?_eq_some_iff.1 hb).1
  refine ⟨hs.chg hch (by rintro q rfl; exact h.pb) (by
    rintro q o ho rfl
    rw [hb] at ho
    exact .inr ⟨_, _, (Option.some.inj ho).symm, by decide, by decide⟩) (by rintro q rfl; exact hp), ?_, fun y hy => h.sub y (drop_sub hy).1, ?_, h.pb, .inr ⟨h0, first_lt hx⟩⟩
  · have := drop_len h.st.nd hx.1
    have := h.len
    omega
  · obtain ⟨cur', g1, g2, g3⟩ := Go.Proofs.YtiebpmbongmgkaaW.PrintWords.setCells_row (e := 42) [.int .i64 0, .int .i64 x.1, .int .i64 x.2.1, .int .i64 x.2.2.1, .int .i64 x.2.2.2.1, .int .i64 x.2.2.2.2] 0 w' _ hb (by simp; omega)
    rw [g1]
    have : cur' = #[.int .i64 0, .int .i64 x.1, .int .i64 x.2.1, .int .i64 x.2.2.1, .int .i64 x.2.2.2.1, .int .i64 x.2.2.2.2] := by
      apply Array.ext'
      rw [g3, List.take_zero, List.nil_append, List.drop_eq_nil_of_le (by rw [Array.length_toList]; simp; omega)]
      rfl
    rw [this]
set_option maxHeartbeats 8000000 in
set_option maxRecDepth 100000 in
theorem walk (kb : Bool) (a : Option Addr) (len cap : Nat) (V : Nat → Nat → Value) (w : World) (hrow : InRow RK w a len V) (hlen : len ≤ maxLen) :
    Calls Try.prog 5 #[.bool kb, .slice a len cap] w fun r w' => r = .returned (.bool true) ∧ Below w.heap.size w w' := by
  have HROW := Side.mk hrow
  have hl : (len : Int) ≤ 9223372036854775807 := by unfold maxLen at hlen; omega
  clear hrow hlen
  by_cases hbig : 300 < len
  · have hb3 : (300 : Int) < len := by omega
    clear hbig
    go_enter Try.func5, Try.ntmps5
    go_wp2_with fail
    refine (awake_at _).mono ?_
    rintro e w1 ⟨rfl, hb⟩
    have HB := Side.mk hb
    clear hb
    go_wp2
    go_ret
    exact ⟨rfl, HB.out⟩
  have hb3 : ¬ (300 : Int) < len := by omega
  obtain ⟨k, hk⟩ : ∃ k : Int, k = if kb = true then 2 else 1 := ⟨_, rfl⟩
  have HK := Side.mk hk
  clear hk
  go_enter Try.func5, Try.ntmps5
  go_wp2_with fail
  refine (awake_at _).mono ?_
  rintro e wa ⟨rfl, hb⟩
  have HB := Side.mk hb
  clear hb
  go_upto_region 6 with (fail)
  go_cut [22] (fun v wc => v = .bool kb ∧ wc = wa)
  case first =>
    go_wp2
    go_meet
    case rel => exact ⟨rfl, rfl⟩
  case rest =>
    obtain ⟨rfl, rfl⟩ := hcut
    go_step
    go_cut [5] (fun v we => v = .int .i64 k ∧ we = wc)
    case first =>
      have HK2 := HK.out
      clear HK HROW
      cases kb
      · obtain rfl : k = 1 := HK2
        go_wp2
        go_meet
        case rel => exact ⟨rfl, rfl⟩
      · obtain rfl : k = 2 := HK2
        go_wp2
        go_meet
        case rel => exact ⟨rfl, rfl⟩
    case rest =>
    obtain ⟨rfl, rfl⟩ := hcut
    go_step
    go_wp2_with fail
    refine (New_at _ k).mono ?_
    rintro e w1 ⟨rfl, rfl⟩
    have S0 := Side.mk (St.start HB.out k)
    generalize wc.heap.size + 1 = gh at *
    generalize (wc.alloc (.map #[] 0)).alloc (.cells #[.int .i64 k, .slice none 0 0, .map (some wc.heap.size)] 53) = w1 at *
    clear HB
    go_wp2_with fail
    go_loopw [7] (fun v7 wr => ∃ i : Nat, v7 = .int .i64 (i : Int) ∧ i ≤ len ∧ Side (St w wr (fun _ => False) gh k (items V i))) (fun v7 _ => (len - intOf v7).toNat)
    case atStart => exact ⟨0, rfl, Nat.zero_le _, S0⟩
    case round =>
      clear S0
      obtain ⟨i, rfl, hi, S⟩ := hrel
      have hi0 : (0 : Int) ≤ i := by omega
      by_cases hlt : i < len
      · have hii : (i : Int) < len := by omega
        have hi1 : (i : Int) + 1 ≤ 9223372036854775807 := by omega
        obtain ⟨b, off, rfl, hbw, hbl, c0, c1, c2, c3⟩ := rowR HROW.out S.out.below i hlt
        go_wp2_with fail
        refine (MadeS _ _ _ _ _).out.mono ?_
        rintro e w2 ⟨rfl, hb⟩
        have S2 := Side.mk (S.out.below' hb)
        clear hb c0 c1 c2 c3 S
        go_wp2_with fail
        refine (Put_st S2.out (by rw [items_len]; omega) (X V i) ⟨by simp [X], by simp only [X]; omega⟩ (items V (i + 1)) (items_put V i)).mono ?_
        rintro e w3 ⟨rfl, s3, _⟩
        have S3 := Side.mk s3
        clear s3 S2
        go_wp2
        go_roundw
        case rel => exact ⟨i + 1, by simp, by omega, S3⟩
        case measure => simp [intOf]; omega
      · have hii : ¬ (i : Int) < len := by omega
        obtain rfl : i = len := by omega
        clear hlt hi
        go_wp2_with fail
        obtain ⟨p, hp⟩ : ∃ p, p = wr.heap.size := ⟨_, rfl⟩
        obtain ⟨W1, hW1⟩ : ∃ W1, W1 = wr.alloc (.cells #[.int .i64 0, .int .i64 (-1), .int .i64 0, .int .i64 0, .int .i64 0, .int .i64 0] 42) := ⟨_, rfl⟩
        have L0 : Side (Lo w V i k gh p 0 W1 (items V i) (-1, 0, 0, 0, 0)) := ⟨by
          rw [hW1]
          exact ⟨S.out.below' ((Below.refl _ _).alloc (Nat.le_refl _) _), by rw [items_len]; rfl, fun x hx => items_mem hx, by rw [hp]; exact heap_alloc_new wr _, by rw [hp]; exact S.out.below.size, .inl ⟨rfl, rfl⟩⟩⟩
        rw [← hW1, ← hp]
        clear hp hW1 S
        rename_i wr0
        go_loopw [9] (fun v9 wq => ∃ (j : Nat) (m : List It) (ls : It), v9 = .int .i64 (j : Int) ∧ j ≤ i ∧ Side (Lo w V i k gh p j wq m ls)) (fun v9 _ => (i - intOf v9).toNat)
        case atStart => exact ⟨0, _, _, rfl, Nat.zero_le _, L0⟩
        case round =>
          clear L0
          obtain ⟨j, m, ls, rfl, hj, HL⟩ := hrel
          obtain ⟨wq, hwq⟩ : ∃ wq : World, wq = wr := ⟨_, rfl⟩
          rw [← hwq] at HL ⊢
          clear hwq
          have hj0 : (0 : Int) ≤ j := by omega
          have hml : m.length ≤ 300 := by have := HL.out.len; omega
          by_cases hlt : j < i
          · have hjj : (j : Int) < i := by omega
            have hj1 : (j : Int) + 1 ≤ 9223372036854775807 := by omega
            obtain ⟨x, hx⟩ := St.first HL.out.st (by have := HL.out.len; omega)
            obtain ⟨q, hq, he⟩ := HL.out.sub x hx.1
            have HF := Side.mk hx
            have HE := Side.mk he
            have CP := Pop_st HL.out.st (by omega) x true (.inr ⟨hx, rfl⟩) (drop m x.1) rfl
            clear hx he
            obtain ⟨x0, x1, x2, x3, x4⟩ := x
            have e0 : x0 = (q : Int) := congrArg (·.1) HE.out
            have e1 : intOf (V q 0) = x1 := (congrArg (·.2.1) HE.out).symm
            have e2 : intOf (V q 1) = x2 := (congrArg (·.2.2.1) HE.out).symm
            have e3 : intOf (V q 2) = x3 := (congrArg (·.2.2.2.1) HE.out).symm
            have e4 : intOf (V q 3) = x4 := (congrArg (·.2.2.2.2) HE.out).symm
            subst e0
            have HEE := Side.mk (And.intro e1 (And.intro e2 (And.intro e3 e4)))
            clear e1 e2 e3 e4
            go_wp2_with fail
            refine CP.mono ?_
            rintro e w2 ⟨rfl, s2, f2⟩
            have S2 := Side.mk s2
            have HBX : Side (w2.heap[p]? = some (.cells #[.int .i64 0, .int .i64 ls.1, .int .i64 ls.2.1, .int .i64 ls.2.2.1, .int .i64 ls.2.2.2.1, .int .i64 ls.2.2.2.2] 42 (0, 0))) := ⟨f2.block p _ HL.out.box (.inr ⟨_, _, rfl, by decide, by decide⟩)⟩
            clear s2 f2 CP
            go_upto_region 21 with (fail)
            obtain ⟨r, hr⟩ : ∃ r, r = w2.heap.size := ⟨_, rfl⟩
            obtain ⟨W3, hW3⟩ : ∃ W3, W3 = w2.alloc (.cells #[.int .i64 x1, .int .i64 x2, .int .i64 x3, .int .i64 x4] 32) := ⟨_, rfl⟩
            rw [← hW3, ← hr]
            have hb3' : Below w2.heap.size w2 W3 := by rw [hW3]; exact (Below.refl _ _).alloc (Nat.le_refl _) _
            have S3 := Side.mk (S2.out.below' hb3')
            have r0 : W3.cell? ⟨r, 0, none⟩ = some (.int .i64 x1) := by rw [hW3, hr]; exact (World.cell?_alloc_at _ _ _ _ rfl).trans rfl
            have r1 : W3.cell? ⟨r, 1, none⟩ = some (.int .i64 x2) := by rw [hW3, hr]; exact (World.cell?_alloc_at _ _ _ _ rfl).trans rfl
            have r2 : W3.cell? ⟨r, 2, none⟩ = some (.int .i64 x3) := by rw [hW3, hr]; exact (World.cell?_alloc_at _ _ _ _ rfl).trans rfl
            have r3 : W3.cell? ⟨r, 3, none⟩ = some (.int .i64 x4) := by rw [hW3, hr]; exact (World.cell?_alloc_at _ _ _ _ rfl).trans rfl
            have hrl : r < W3.heap.size := by rw [hW3, hr]; simp
            have HBX3 : Side (W3.heap[p]? = _) := ⟨(hb3'.block p (Array.getElem?_eq_some_iff.1 HBX.out).1).trans HBX.out⟩
            obtain ⟨gb, off, rfl, hbw, hbl, c0, c1, c2, c3⟩ := rowR HROW.out S3.out.below q hq
            obtain ⟨e1, e2, e3, e4⟩ := HEE.out
            rw [e1] at c0
            rw [e2] at c1
            rw [e3] at c2
            rw [e4] at c3
            have hqq : (q : Int) < i := by omega
            have hq0 : (0 : Int) ≤ q := by omega
            have hqn : ¬ (i : Int) ≤ q := by omega
            clear hr hW3 hb3' S2 HBX e1 e2 e3 e4
            refine start_ (n := 21) (S := fun w' => True) (ds := []) #[false, false, false, false, false, false, false, false, false, false, false, false, false, false, false, false, false, false, false, false, false] (by kernel_rfl) rfl rfl trivial (fun _ => ?_)
            refine inv_at (B := [0, 1, 3, 7, 15, 31, 63, 127, 127, 383, 1023, 2047, 4095, 8191, 8191, 8191, 57343, 122879, 253951, 524287, 1048575]) [0, 1, 2, 3, 4, 5, 6, 7, 8, 9, 10, 11, 12, 13, 14, 15, 16, 17, 18, 19, 20] (fun a0_ b a w' => a = putSel a0_ b [(0, 55, .bool true), (1, 56, .bool false), (2, 57, .bool false), (3, 58, .int .i64 q), (4, 59, .bool false), (5, 60, .bool false), (6, 61, .bool false), (7, 62, .int .i64 q), (8, 63, .slice (some ⟨gb, off, none⟩) i cap), (9, 64, .int .i64 i), (10, 65, .bool false), (11, 66, .bool false), (12, 67, .bool false), (13, 68, .agg #[.int .i64 x1, .int .i64 x2, .int .i64 x3, .int .i64 x4]), (14, 69, .slice (some ⟨gb, off, none⟩) i cap), (15, 70, .int .i64 q), (16, 71, .pointer (some ⟨gb, off + q * 4, none⟩)), (17, 72, .agg #[.int .i64 x1, .int .i64 x2, .int .i64 x3, .int .i64 x4]), (18, 73, .agg #[.int .i64 x1, .int .i64 x2, .int .i64 x3, .int .i64 x4]), (19, 74, .bool false), (20, 75, .bool false)] ∧ Below W3.drew.heap.size W3.drew w') rfl (by kernel_rfl) (by kernel_rfl) (by kernel_rfl) ?_ ?_ ?_
            · exact ⟨by simp only [putSel, Bool.false_eq_true, if_false], Below.refl _ _⟩
            · refine steps_cons (by rintro b a w' ⟨ha, HI⟩ hb hon hoff; refine ⟨_, rfl, fun K hK => ?_⟩; have e12 := poff ha (t := 12) rfl rfl; exact value_ (v := .bool true) (by rfl) rfl (by clear HI ha; go_simp) (hK.out _ _ ⟨upk ha 0 hb rfl rfl, HI⟩)) ?_
              refine steps_cons (by rintro b a w' ⟨ha, HI⟩ hb hon hoff; refine ⟨_, rfl, fun K hK => ?_⟩; have e55 := pon ha 0 (hon 0 rfl) rfl rfl rfl; exact value_ (v := .bool false) (by rfl) rfl (by clear HI ha; go_simp) (hK.out _ _ ⟨upk ha 1 hb rfl rfl, HI⟩)) ?_
              refine steps_cons (by rintro b a w' ⟨ha, HI⟩ hb hon hoff; refine ⟨_, rfl, fun K hK => ?_⟩; have e56 := pon ha 1 (hon 1 rfl) rfl rfl rfl; exact value_ (v := .bool false) (by rfl) rfl (by clear HI ha; go_simp) (hK.out _ _ ⟨upk ha 2 hb rfl rfl, HI⟩)) ?_
              refine steps_cons (by rintro b a w' ⟨ha, HI⟩ hb hon hoff; refine ⟨_, rfl, fun K hK => ?_⟩; have e10 := poff ha (t := 10) rfl rfl; have e57 := pon ha 2 (hon 2 rfl) rfl rfl rfl; exact value_ (v := .int .i64 q) (wanted_on (t := 57) (u := false) rfl rfl rfl e57) rfl (by clear HI ha; go_simp) (hK.out _ _ ⟨upk ha 3 hb rfl rfl, HI⟩)) ?_
              refine steps_cons (by rintro b a w' ⟨ha, HI⟩ hb hon hoff; refine ⟨_, rfl, fun K hK => ?_⟩; have e58 := pon ha 3 (hon 3 rfl) rfl rfl rfl; have e57 := pon ha 2 (hon 2 rfl) rfl rfl rfl; exact value_ (v := .bool false) (wanted_on (t := 57) (u := false) rfl rfl rfl e57) rfl (by clear HI ha; go_simp) (hK.out _ _ ⟨upk ha 4 hb rfl rfl, HI⟩)) ?_
              refine steps_cons (by rintro b a w' ⟨ha, HI⟩ hb hon hoff; refine ⟨_, rfl, fun K hK => ?_⟩; have e57 := pon ha 2 (hon 2 rfl) rfl rfl rfl; have e59 := pon ha 4 (hon 4 rfl) rfl rfl rfl; exact value_ (v := .bool false) (by rfl) rfl (by clear HI ha; go_simp) (hK.out _ _ ⟨upk ha 5 hb rfl rfl, HI⟩)) ?_
              refine steps_cons (by rintro b a w' ⟨ha, HI⟩ hb hon hoff; refine ⟨_, rfl, fun K hK => ?_⟩; have e60 := pon ha 5 (hon 5 rfl) rfl rfl rfl; exact value_ (v := .bool false) (by rfl) rfl (by clear HI ha; go_simp) (hK.out _ _ ⟨upk ha 6 hb rfl rfl, HI⟩)) ?_
              refine steps_cons (by rintro b a w' ⟨ha, HI⟩ hb hon hoff; refine ⟨_, rfl, fun K hK => ?_⟩; have e10 := poff ha (t := 10) rfl rfl; have e61 := pon ha 6 (hon 6 rfl) rfl rfl rfl; exact value_ (v := .int .i64 q) (wanted_on (t := 61) (u := false) rfl rfl rfl e61) rfl (by clear HI ha; go_simp) (hK.out _ _ ⟨upk ha 7 hb rfl rfl, HI⟩)) ?_
              refine steps_cons (by rintro b a w' ⟨ha, HI⟩ hb hon hoff; refine ⟨_, rfl, fun K hK => ?_⟩; have e1 := poff ha (t := 1) rfl rfl; have e61 := pon ha 6 (hon 6 rfl) rfl rfl rfl; exact value_ (v := .slice (some ⟨gb, off, none⟩) i cap) (wanted_on (t := 61) (u := false) rfl rfl rfl e61) rfl (by clear HI ha; go_simp) (hK.out _ _ ⟨upk ha 8 hb rfl rfl, HI⟩)) ?_
              refine steps_cons (by rintro b a w' ⟨ha, HI⟩ hb hon hoff; refine ⟨_, rfl, fun K hK => ?_⟩; have e63 := pon ha 8 (hon 8 rfl) rfl rfl rfl; have e61 := pon ha 6 (hon 6 rfl) rfl rfl rfl; exact value_ (v := .int .i64 i) (wanted_on (t := 61) (u := false) rfl rfl rfl e61) rfl (by clear HI ha; go_simp) (hK.out _ _ ⟨upk ha 9 hb rfl rfl, HI⟩)) ?_
              refine steps_cons (by rintro b a w' ⟨ha, HI⟩ hb hon hoff; refine ⟨_, rfl, fun K hK => ?_⟩; have e62 := pon ha 7 (hon 7 rfl) rfl rfl rfl; have e64 := pon ha 9 (hon 9 rfl) rfl rfl rfl; have e61 := pon ha 6 (hon 6 rfl) rfl rfl rfl; exact value_ (v := .bool false) (wanted_on (t := 61) (u := false) rfl rfl rfl e61) rfl (by clear HI ha; go_simp) (hK.out _ _ ⟨upk ha 10 hb rfl rfl, HI⟩)) ?_
              refine steps_cons (by rintro b a w' ⟨ha, HI⟩ hb hon hoff; refine ⟨_, rfl, fun K hK => ?_⟩; have e61 := pon ha 6 (hon 6 rfl) rfl rfl rfl; have e65 := pon ha 10 (hon 10 rfl) rfl rfl rfl; exact value_ (v := .bool false) (by rfl) rfl (by clear HI ha; go_simp) (hK.out _ _ ⟨upk ha 11 hb rfl rfl, HI⟩)) ?_
              refine steps_cons (by rintro b a w' ⟨ha, HI⟩ hb hon hoff; refine ⟨_, rfl, fun K hK => ?_⟩; have e66 := pon ha 11 (hon 11 rfl) rfl rfl rfl; exact value_ (v := .bool false) (by rfl) rfl (by clear HI ha; go_simp) (hK.out _ _ ⟨upk ha 12 hb rfl rfl, HI⟩)) ?_
              refine steps_cons (by rintro b a w' ⟨ha, HI⟩ hb hon hoff; refine ⟨_, rfl, fun K hK => ?_⟩; have e11 := poff ha (t := 11) rfl rfl; have e67 := pon ha 12 (hon 12 rfl) rfl rfl rfl; have k0_ := bc HI hrl r0; have k1_ := bc HI hrl r1; have k2_ := bc HI hrl r2; have k3_ := bc HI hrl r3; have kz_ := bz HI hrl; exact value_ (v := .agg #[.int .i64 x1, .int .i64 x2, .int .i64 x3, .int .i64 x4]) (wanted_on (t := 67) (u := false) rfl rfl rfl e67) rfl (by clear HI ha; go_simp) (hK.out _ _ ⟨upk ha 13 hb rfl rfl, HI⟩)) ?_
              refine steps_cons (by rintro b a w' ⟨ha, HI⟩ hb hon hoff; refine ⟨_, rfl, fun K hK => ?_⟩; have e1 := poff ha (t := 1) rfl rfl; have e67 := pon ha 12 (hon 12 rfl) rfl rfl rfl; exact value_ (v := .slice (some ⟨gb, off, none⟩) i cap) (wanted_on (t := 67) (u := false) rfl rfl rfl e67) rfl (by clear HI ha; go_simp) (hK.out _ _ ⟨upk ha 14 hb rfl rfl, HI⟩)) ?_
              refine steps_cons (by rintro b a w' ⟨ha, HI⟩ hb hon hoff; refine ⟨_, rfl, fun K hK => ?_⟩; have e10 := poff ha (t := 10) rfl rfl; have e67 := pon ha 12 (hon 12 rfl) rfl rfl rfl; exact value_ (v := .int .i64 q) (wanted_on (t := 67) (u := false) rfl rfl rfl e67) rfl (by clear HI ha; go_simp) (hK.out _ _ ⟨upk ha 15 hb rfl rfl, HI⟩)) ?_
              refine steps_cons (by rintro b a w' ⟨ha, HI⟩ hb hon hoff; refine ⟨_, rfl, fun K hK => ?_⟩; have e69 := pon ha 14 (hon 14 rfl) rfl rfl rfl; have e70 := pon ha 15 (hon 15 rfl) rfl rfl rfl; have e67 := pon ha 12 (hon 12 rfl) rfl rfl rfl; exact value_ (v := .pointer (some ⟨gb, off + q * 4, none⟩)) (wanted_on (t := 67) (u := false) rfl rfl rfl e67) rfl (by clear HI ha; go_simp) (hK.out _ _ ⟨upk ha 16 hb rfl rfl, HI⟩)) ?_
              refine steps_cons (by rintro b a w' ⟨ha, HI⟩ hb hon hoff; refine ⟨_, rfl, fun K hK => ?_⟩; have e71 := pon ha 16 (hon 16 rfl) rfl rfl rfl; have e67 := pon ha 12 (hon 12 rfl) rfl rfl rfl; have k0_ := bc HI hbl c0; have k1_ := bc HI hbl c1; have k2_ := bc HI hbl c2; have k3_ := bc HI hbl c3; have kz_ := bz HI hbl; exact value_ (v := .agg #[.int .i64 x1, .int .i64 x2, .int .i64 x3, .int .i64 x4]) (wanted_on (t := 67) (u := false) rfl rfl rfl e67) rfl (by clear HI ha; go_simp) (hK.out _ _ ⟨upk ha 17 hb rfl rfl, HI⟩)) ?_
              refine steps_cons (by rintro b a w' ⟨ha, HI⟩ hb hon hoff; refine ⟨_, rfl, fun K hK => ?_⟩; have e72 := pon ha 17 (hon 17 rfl) rfl rfl rfl; have e67 := pon ha 12 (hon 12 rfl) rfl rfl rfl; refine goes_ Try.func11 (by kernel_rfl) rfl #[.agg #[.int .i64 x1, .int .i64 x2, .int .i64 x3, .int .i64 x4]] (wanted_on (t := 67) (u := false) rfl rfl rfl e67) rfl rfl (by simp [Act.eval, e72, e67]) ((MadeS x1 x2 x3 x4 _).out.mono ?_); rintro e_ w'' ⟨rfl, hbc⟩; exact ⟨_, rfl, hK.out _ _ ⟨upk ha 18 hb rfl rfl, below_then HI HI.size hbc⟩⟩) ?_
              refine steps_cons (by rintro b a w' ⟨ha, HI⟩ hb hon hoff; refine ⟨_, rfl, fun K hK => ?_⟩; have e68 := pon ha 13 (hon 13 rfl) rfl rfl rfl; have e73 := pon ha 18 (hon 18 rfl) rfl rfl rfl; have e67 := pon ha 12 (hon 12 rfl) rfl rfl rfl; exact value_ (v := .bool false) (wanted_on (t := 67) (u := false) rfl rfl rfl e67) rfl (by clear HI ha; go_simp) (hK.out _ _ ⟨upk ha 19 hb rfl rfl, HI⟩)) ?_
              refine steps_cons (by rintro b a w' ⟨ha, HI⟩ hb hon hoff; refine ⟨_, rfl, fun K hK => ?_⟩; have e67 := pon ha 12 (hon 12 rfl) rfl rfl rfl; have e74 := pon ha 19 (hon 19 rfl) rfl rfl rfl; exact value_ (v := .bool false) (by rfl) rfl (by clear HI ha; go_simp) (hK.out _ _ ⟨upk ha 20 hb rfl rfl, HI⟩)) ?_
              exact steps_nil
            · rintro b a w' hall ⟨ha, HI⟩
              have hb0_ := hall 0 rfl; have hb1_ := hall 1 rfl; have hb2_ := hall 2 rfl; have hb3_ := hall 3 rfl; have hb4_ := hall 4 rfl; have hb5_ := hall 5 rfl; have hb6_ := hall 6 rfl; have hb7_ := hall 7 rfl
              have hb8_ := hall 8 rfl; have hb9_ := hall 9 rfl; have hb10_ := hall 10 rfl; have hb11_ := hall 11 rfl; have hb12_ := hall 12 rfl; have hb13_ := hall 13 rfl; have hb14_ := hall 14 rfl; have hb15_ := hall 15 rfl
              have hb16_ := hall 16 rfl; have hb17_ := hall 17 rfl; have hb18_ := hall 18 rfl; have hb19_ := hall 19 rfl; have hb20_ := hall 20 rfl
              subst ha
              simp only [putSel, hb0_, hb1_, hb2_, hb3_, hb4_, hb5_, hb6_, hb7_, hb8_, hb9_, hb10_, hb11_, hb12_, hb13_, hb14_, hb15_, hb16_, hb17_, hb18_, hb19_, hb20_, if_true, Act.put, List.setIfInBounds_toArray, List.set_cons_zero, List.set_cons_succ]
              have hB := (below_then (below_drew (Below.refl _ W3)) (Nat.le_refl _) HI : Below W3.heap.size W3 w')
              clear hall HI hb0_ hb1_ hb2_ hb3_ hb4_ hb5_ hb6_ hb7_ hb8_ hb9_ hb10_ hb11_ hb12_ hb13_ hb14_ hb15_ hb16_ hb17_ hb18_ hb19_ hb20_
              refine ‹∀ (a : Act) (w : World), Code.wp Try.prog _ _ a w → _› _ _ ?_
              have S4 := Side.mk (S3.out.below' hB)
              have HBX4 : Side (w'.heap[p]? = _) := ⟨(hB.block p (Array.getElem?_eq_some_iff.1 HBX3.out).1).trans HBX3.out⟩
              clear hB S3 HBX3 r0 r1 r2 r3 hrl c0 c1 c2 c3 hbl
              obtain ⟨b', off', hab, hbw', hbl, c0, c1, c2, c3⟩ := rowR HROW.out S4.out.below q hq
              obtain ⟨rfl, rfl⟩ : gb = b' ∧ off = off' := by simpa using hab
              obtain ⟨e1, e2, e3, e4⟩ := HEE.out
              rw [e1] at c0
              rw [e2] at c1
              rw [e3] at c2
              rw [e4] at c3
              clear e1 e2 e3 e4 hab
              go_upto_region 24 with (fail)
              obtain ⟨y, hy⟩ : ∃ y, y = w'.heap.size := ⟨_, rfl⟩
              obtain ⟨W5, hW5⟩ : ∃ W5, W5 = w'.alloc (.cells #[.int .i64 0, .int .i64 (q : Int), .int .i64 x1, .int .i64 x2, .int .i64 x3, .int .i64 x4] 42) := ⟨_, rfl⟩
              rw [← hW5, ← hy]
              have hb5 : Below w'.heap.size w' W5 := by rw [hW5]; exact (Below.refl _ _).alloc (Nat.le_refl _) _
              have S5 := Side.mk (S4.out.below' hb5)
              have hbp : W5.heap[p]? = some (.cells #[.int .i64 0, .int .i64 ls.1, .int .i64 ls.2.1, .int .i64 ls.2.2.1, .int .i64 ls.2.2.2.1, .int .i64 ls.2.2.2.2] 42 (0, 0)) := (hb5.block p (Array.getElem?_eq_some_iff.1 HBX4.out).1).trans HBX4.out
              have hby : W5.heap[y]? = some (.cells #[.int .i64 0, .int .i64 (q : Int), .int .i64 x1, .int .i64 x2, .int .i64 x3, .int .i64 x4] 42 (0, 0)) := by rw [hW5, hy]; exact heap_alloc_new w' _
              have HYP : Side (p ≠ y) := ⟨by have := (Array.getElem?_eq_some_iff.1 HBX4.out).1; omega⟩
              have HBP := Side.mk hbp
              have HBY := Side.mk hby
              clear hW5 hy hb5 S4 HBX4 c0 c1 c2 c3 hbl hbp hby
              go_cut [91] (fun v wc => v = .bool false ∧ Side (Below W5.heap.size W5 wc))
              case first =>
                have d0 : W5.cell? ⟨p, 0, none⟩ = _ := cell_of_row W5 p 0 _ _ (0, 0) HBP.out
                have d1 : W5.cell? ⟨p, 1, none⟩ = some (.int .i64 ls.1) := cell_of_row W5 p 1 _ _ (0, 0) HBP.out
                have d2 : W5.cell? ⟨p, 2, none⟩ = some (.int .i64 ls.2.1) := cell_of_row W5 p 2 _ _ (0, 0) HBP.out
                have d3 : W5.cell? ⟨p, 3, none⟩ = some (.int .i64 ls.2.2.1) := cell_of_row W5 p 3 _ _ (0, 0) HBP.out
                have d4 : W5.cell? ⟨p, 4, none⟩ = some (.int .i64 ls.2.2.2.1) := cell_of_row W5 p 4 _ _ (0, 0) HBP.out
                have d5 : W5.cell? ⟨p, 5, none⟩ = some (.int .i64 ls.2.2.2.2) := cell_of_row W5 p 5 _ _ (0, 0) HBP.out
                have d0' : W5.cell? ⟨p, 0, none⟩ = some (.int .i64 0) := d0
                have g0 : W5.cell? ⟨y, 0, none⟩ = some (.int .i64 0) := cell_of_row W5 y 0 _ _ (0, 0) HBY.out
                have g1 : W5.cell? ⟨y, 1, none⟩ = some (.int .i64 q) := cell_of_row W5 y 1 _ _ (0, 0) HBY.out
                have g2 : W5.cell? ⟨y, 2, none⟩ = some (.int .i64 x1) := cell_of_row W5 y 2 _ _ (0, 0) HBY.out
                have g3 : W5.cell? ⟨y, 3, none⟩ = some (.int .i64 x2) := cell_of_row W5 y 3 _ _ (0, 0) HBY.out
                have g4 : W5.cell? ⟨y, 4, none⟩ = some (.int .i64 x3) := cell_of_row W5 y 4 _ _ (0, 0) HBY.out
                have g5 : W5.cell? ⟨y, 5, none⟩ = some (.int .i64 x4) := cell_of_row W5 y 5 _ _ (0, 0) HBY.out
                clear d0
                rcases HL.out.ord with ⟨-, h1⟩ | ⟨h1, h2⟩
                · have hng : decide ((0 : Int) ≤ ls.1) = false := decide_eq_false (by omega)
                  clear h1
                  go_wp2
                  go_meet
                  case rel => exact ⟨rfl, ⟨Below.refl _ _⟩⟩
                · have CL := Side.mk (lawless_at k 0 0 ls ((q : Int), x1, x2, x3, x4) W5)
                  rw [h2 _ HF.out.1] at CL
                  clear h2
                  go_wp2_with fail
                  refine CL.out.mono ?_
                  rintro e w6 ⟨rfl, hb⟩
                  have HB6 := Side.mk hb
                  clear hb d0' d1 d2 d3 d4 d5 g0 g1 g2 g3 g4 g5 CL
                  go_wp2
                  go_meet
                  case rel => exact ⟨rfl, HB6⟩
              case rest =>
                obtain ⟨rfl, HB6⟩ := hcut
                have S6 := Side.mk (S5.out.below' HB6.out)
                have hbp : wc.heap[p]? = _ := (HB6.out.block p (Array.getElem?_eq_some_iff.1 HBP.out).1).trans HBP.out
                have hby : wc.heap[y]? = _ := (HB6.out.block y (Array.getElem?_eq_some_iff.1 HBY.out).1).trans HBY.out
                have HBP6 := Side.mk hbp
                have g0 : wc.cell? ⟨y, 0, none⟩ = some (.int .i64 0) := cell_of_row wc y 0 _ _ (0, 0) hby
                have g1 : wc.cell? ⟨y, 1, none⟩ = some (.int .i64 q) := cell_of_row wc y 1 _ _ (0, 0) hby
                have g2 : wc.cell? ⟨y, 2, none⟩ = some (.int .i64 x1) := cell_of_row wc y 2 _ _ (0, 0) hby
                have g3 : wc.cell? ⟨y, 3, none⟩ = some (.int .i64 x2) := cell_of_row wc y 3 _ _ (0, 0) hby
                have g4 : wc.cell? ⟨y, 4, none⟩ = some (.int .i64 x3) := cell_of_row wc y 4 _ _ (0, 0) hby
                have g5 : wc.cell? ⟨y, 5, none⟩ = some (.int .i64 x4) := cell_of_row wc y 5 _ _ (0, 0) hby
                have d0 : wc.cell? ⟨p, 0, none⟩ = some (.int .i64 0) := cell_of_row wc p 0 _ _ (0, 0) hbp
                have d1 : wc.cell? ⟨p, 1, none⟩ = some (.int .i64 ls.1) := cell_of_row wc p 1 _ _ (0, 0) hbp
                have d2 : wc.cell? ⟨p, 2, none⟩ = some (.int .i64 ls.2.1) := cell_of_row wc p 2 _ _ (0, 0) hbp
                have d3 : wc.cell? ⟨p, 3, none⟩ = some (.int .i64 ls.2.2.1) := cell_of_row wc p 3 _ _ (0, 0) hbp
                have d4 : wc.cell? ⟨p, 4, none⟩ = some (.int .i64 ls.2.2.2.1) := cell_of_row wc p 4 _ _ (0, 0) hbp
                have d5 : wc.cell? ⟨p, 5, none⟩ = some (.int .i64 ls.2.2.2.2) := cell_of_row wc p 5 _ _ (0, 0) hbp
                have fz : ∀ o, wc.frozen? ⟨p, o, none⟩ = false := fun o => Go.Proofs.YtiebpmbongmgkaaW.PrintWords.blk_frozen hbp o
                have HN : Side (Lo w V i k gh p (j + 1) ((((((wc.setCell ⟨p, 0, none⟩ (.int .i64 0)).setCell ⟨p, 1, none⟩ (.int .i64 (q : Int))).setCell ⟨p, 2, none⟩ (.int .i64 x1)).setCell ⟨p, 3, none⟩ (.int .i64 x2)).setCell ⟨p, 4, none⟩ (.int .i64 x3)).setCell ⟨p, 5, none⟩ (.int .i64 x4)) (drop m (q : Int)) ((q : Int), x1, x2, x3, x4)) := ⟨Lo.next (x := ((q : Int), x1, x2, x3, x4)) HL.out HF.out hlt S6.out hbp rfl (by simp)⟩
                clear hbp hby HBP HBY S5 HB6 HL
                go_step
                go_wp2
                go_roundw
                case rel => exact ⟨j + 1, _, _, rfl, by omega, HN⟩
                case measure => simp [intOf]; omega
          · have hjj : ¬ (j : Int) < i := by omega
            have hm0 : m = [] := List.eq_nil_of_length_eq_zero (by have := HL.out.len; omega)
            subst hm0
            have CP := Pop_st HL.out.st (by simp) HpPlain.z false (.inl ⟨rfl, rfl, rfl⟩) [] rfl
            go_wp2_with fail
            refine CP.mono ?_
            rintro e w2 ⟨rfl, s2, f2⟩
            have S2 := Side.mk s2
            clear s2 f2 CP
            go_wp2_with fail
            refine (Len_st (S2.out.below' (by (repeat (with_reducible first | exact Below.refl _ _ | apply below_drewN | apply below_drew | apply below_alloc)))) 0 rfl).mono ?_
            rintro e w3 ⟨rfl, rfl⟩
            go_wp2
            go_ret
            exact ⟨rfl, (S2.out.below' (by (repeat (with_reducible first | exact Below.refl _ _ | apply below_drewN | apply below_drew | apply below_alloc)))).below⟩
end Go.Proofs.Ytiebpmbongmgkaa.HpO

/- Package ledger, fifth text: what its maps tell after a weight is given or taken back. No condition. -/
import Derived.Test.YtfgmenndmcjggaaLeD
set_option linter.unusedVariables false
set_option linter.unusedSimpArgs false
namespace Go.Proofs.Ytfgmenndmcjggaa.LeE
open Go.RowKit Go.Proofs.Ytfgmenndmcjggaa.Kit Go.Proofs.Ytfgmenndmcjggaa.Kit3 Go.Proofs.Ytfgmenndmcjggaa.LeP Go.Maps Go.Proofs.Ytfgmenndmcjggaa.LeA
theorem Ix.add {ms : List Wt} {Dl Dm : DD} (h : Ix ms Dl Dm) {i e p : Int} (hi : LeP.has ms i = false) (hwi : (kv i).wf = true) (hwp : (kv p).wf = true) (c : Int) (hc : c = (cnt ms p : Int) + 1) :
    Ix (ms ++ [(i, e, p)]) (Dl.put (kv i) (.agg [li e, li p])) (Dm.put (kv p) (li c)) := by
  have ml := h.tl.isMap
  have mm := h.tm.isMap
  refine ⟨h.tl.put (kv_key _) _, h.tm.put (kv_key _) _, fun s hs => ?_, fun m hm z => ?_, ?_, fun q hq => ?_, fun q hq => ?_⟩
  · rw [has_snoc]
    by_cases he : s = i
    · subst he; rw [has_put_same ml (kv_key _)]; simp
    · rw [has_put_other (kv_ne he), h.hasl s hs]
      have : (i == s) = false := by simpa using fun e => he e.symm
      rw [this, Bool.or_false]
  · rcases List.mem_append.1 hm with hm | hm
    · have hne : m.1 ≠ i := fun e => by
        rw [Bool.eq_false_iff] at hi
        exact hi (has_iff.2 ⟨m, hm, e⟩)
      rw [atKey_put_other (kv_ne hne), h.atl m hm]
    · simp at hm
      subst hm
      rw [atKey_put_same ml (kv_key _)]
  · rw [size_put h.tl, h.hasl i hwi, hi, h.sizel]
    simp
  · rw [cnt_snoc]
    by_cases he : q = p
    · subst he; rw [has_put_same mm (kv_key _)]; simp
    · rw [has_put_other (kv_ne he), h.hasm q hq, if_neg (fun e => he e.symm), Nat.add_zero]
  · rw [cnt_snoc]
    by_cases he : q = p
    · subst he; rw [atKey_put_same mm (kv_key _), hc]; simp
    · rw [atKey_put_other (kv_ne he), h.atm q hq, if_neg (fun e => he e.symm), Nat.add_zero]
/-- One taken back: its entry goes; its period is counted once less. -/
theorem Ix.dropl {ms : List Wt} {Dl Dm : DD} (h : Ix ms Dl Dm) (hn : (ms.map (·.1)).Nodup) {m : Wt} (hm : m ∈ ms) (hwi : (kv m.1).wf = true) :
    Tidy (Dl.del (kv m.1)) ∧ (∀ s : Int, (kv s).wf = true → Maps.has (Dl.del (kv m.1)) (kv s) = LeP.has (drp ms m.1) s) ∧ (∀ x ∈ drp ms m.1, ∀ z, (Dl.del (kv m.1)).atKey (kv x.1) z = .agg [li x.2.1, li x.2.2]) ∧ Maps.size (Dl.del (kv m.1)) = (drp ms m.1).length := by
  refine ⟨h.tl.del _, fun s hs => ?_, fun x hx z => ?_, ?_⟩
  · rw [drp_has]
    by_cases he : s = m.1
    · subst he; rw [has_del_same]; simp
    · rw [has_del_other (kv_ne he), h.hasl s hs]
      have : (s != m.1) = true := by simpa using he
      rw [this, Bool.and_true]
  · obtain ⟨h1, h2⟩ := drp_mem.1 hx
    rw [atKey_del_other (kv_ne h2), h.atl x h1]
  · have h1 := size_del h.tl (k := kv m.1)
    rw [h.hasl _ hwi, has_iff.2 ⟨m, hm, rfl⟩, h.sizel, (drp_perm hn hm).length_eq] at h1
    simp at h1
    exact h1
theorem Ix.keep {ms : List Wt} {Dl Dm : DD} (h : Ix ms Dl Dm) (hn : (ms.map (·.1)).Nodup) {m : Wt} (hm : m ∈ ms) (hwi : (kv m.1).wf = true) (c : Int) (hc : c = (cnt ms m.2.2 : Int) - 1) (hc0 : c ≠ 0) :
    Ix (drp ms m.1) (Dl.del (kv m.1)) (Dm.put (kv m.2.2) (li c)) := by
  obtain ⟨h1, h2, h3, h4⟩ := LeE.Ix.dropl h hn hm hwi
  have mm := h.tm.isMap
  have hp := drp_perm hn hm
  have hcp : ∀ q, cnt ms q = cnt (drp ms m.1) q + if m.2.2 = q then 1 else 0 := fun q => by rw [cnt_perm hp q, cnt_cons]
  refine ⟨h1, h.tm.put (kv_key _) _, h2, h3, h4, fun q hq => ?_, fun q hq => ?_⟩
  · have := hcp q
    by_cases he : q = m.2.2
    · subst he
      rw [if_pos rfl] at this
      rw [has_put_same mm (kv_key _)]
      have : 0 < cnt (drp ms m.1) m.2.2 := by omega
      simp [this]
    · rw [has_put_other (kv_ne he), h.hasm q hq, this, if_neg (fun e => he e.symm), Nat.add_zero]
  · have := hcp q
    by_cases he : q = m.2.2
    · subst he
      rw [if_pos rfl] at this
      rw [atKey_put_same mm (kv_key _), hc, this]
      simp
    · rw [atKey_put_other (kv_ne he), h.atm q hq, this, if_neg (fun e => he e.symm), Nat.add_zero]
theorem Ix.lose {ms : List Wt} {Dl Dm : DD} (h : Ix ms Dl Dm) (hn : (ms.map (·.1)).Nodup) {m : Wt} (hm : m ∈ ms) (hwi : (kv m.1).wf = true) (c : Int) (hc : c = (cnt ms m.2.2 : Int) - 1) (hc0 : c = 0) :
    Ix (drp ms m.1) (Dl.del (kv m.1)) ((Dm.put (kv m.2.2) (li c)).del (kv m.2.2)) := by
  obtain ⟨h1, h2, h3, h4⟩ := LeE.Ix.dropl h hn hm hwi
  have mm := h.tm.isMap
  have hp := drp_perm hn hm
  have hcp : ∀ q, cnt ms q = cnt (drp ms m.1) q + if m.2.2 = q then 1 else 0 := fun q => by rw [cnt_perm hp q, cnt_cons]
  refine ⟨h1, (h.tm.put (kv_key _) _).del _, h2, h3, h4, fun q hq => ?_, fun q hq => ?_⟩
  · have := hcp q
    by_cases he : q = m.2.2
    · subst he
      rw [if_pos rfl] at this
      rw [has_del_same]
      have : cnt (drp ms m.1) m.2.2 = 0 := by omega
      simp [this]
    · rw [has_del_other (kv_ne he), has_put_other (kv_ne he), h.hasm q hq, this, if_neg (fun e => he e.symm), Nat.add_zero]
  · have := hcp q
    by_cases he : q = m.2.2
    · subst he
      rw [if_pos rfl] at this
      rw [atKey_del_same, show cnt (drp ms m.1) m.2.2 = 0 by omega]
      rfl
    · rw [atKey_del_other (kv_ne he), atKey_put_other (kv_ne he), h.atm q hq, this, if_neg (fun e => he e.symm), Nat.add_zero]
theorem Ix.nil : Ix [] (.map []) (.map []) :=
  ⟨tidy_empty, tidy_empty, fun _ _ => rfl, by simp, rfl, fun _ _ => rfl, fun _ _ => rfl⟩
/-- The look-ups. -/
theorem look_l {w : World} {B gh bl bm n : Nat} {k : Int} {s : Int × Int} {Dl Dm : DD} {ms : List Wt} (h : Lg w B gh bl bm n k s Dl Dm) (hx : Ix ms Dl Dm) (i : Int) (hi : (kv i).wf = true) :
    ∃ a b : Int, (Instr.lookup 51 (.map (some bl)) (.int .i64 i) true).run Try.prog w = .ok (.tuple #[.agg #[.int .i64 a, .int .i64 b], .bool (LeP.has ms i)]) w ∧ ∀ m ∈ ms, m.1 = i → a = m.2.1 ∧ b = m.2.2 := by
  obtain ⟨u, ps, hrun, hu⟩ := h.ml.look_ok keyed Try.underlying51 (zeroW w) (pairR_at 0 0) (hkey hi)
  obtain ⟨a, b, rfl, hz⟩ := pairR_inv hu
  rw [hx.hasl i hi] at hrun
  refine ⟨a, b, hrun, fun m hm he => ?_⟩
  have h1 := congrArg Prod.fst hz
  simp only at h1
  rw [← he, hx.atl m hm] at h1
  simp at h1
  exact ⟨h1.1.symm, h1.2.symm⟩
theorem look_m {w : World} {B gh bl bm n : Nat} {k : Int} {s : Int × Int} {Dl Dm : DD} (h : Lg w B gh bl bm n k s Dl Dm) (q c : Int) (hq : (kv q).wf = true) (hc : Dm.atKey (kv q) (li 0) = li c) :
    (Instr.lookup 52 (.map (some bm)) (.int .i64 q) false).run Try.prog w = .ok (.int .i64 c) w := by
  obtain ⟨d, hrun, hat, _⟩ := h.mm.lookup_int keyed Try.underlying52 Try.underlying3 (zeroE w) (hkey hq)
  rw [hc] at hat
  simp at hat
  rw [hrun, hat]
end Go.Proofs.Ytfgmenndmcjggaa.LeE

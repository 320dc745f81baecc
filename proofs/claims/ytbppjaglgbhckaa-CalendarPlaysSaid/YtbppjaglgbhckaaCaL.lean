/- Package calendar: slices.Insert where there is room; the three arms joined. No condition. -/
import Derived.Test.YtbppjaglgbhckaaCaK
set_option linter.unusedVariables false
set_option linter.unusedSimpArgs false
namespace Go.Proofs.Ytbppjaglgbhckaa.CaL
open Go.RowKit Go.Shelf Go.Lib Go.Proofs.Ytbppjaglgbhckaa.Kit Go.Proofs.Ytbppjaglgbhckaa.CaA Go.Proofs.Ytbppjaglgbhckaa.CaB Go.Proofs.Ytbppjaglgbhckaa.CaC Go.Proofs.Ytbppjaglgbhckaa.CaD Go.Proofs.Ytbppjaglgbhckaa.CaF Go.Proofs.Ytbppjaglgbhckaa.CaJ Go.Proofs.Ytbppjaglgbhckaa.CaK
open Go.Proofs.YtbppjaglgbhckaaW.PrintWords (setCells_row setCells_far setCells_same)
set_option maxHeartbeats 4000000 in
set_option maxRecDepth 100000 in
theorem shift_at (w : World) (B g n cap : Nat) (xs : List It) (hxl : xs.length = n) (i : Nat) (x : It) (gx : Nat) (h : Row w B 44 (.slice (some ⟨g, 0, none⟩) n cap) xs) (hl : n ≤ 1000) (hi : i < n) (hc : n + 1 ≤ cap) (hx : w.heap[gx]? = some (.cells #[.int .i64 x.1, .int .i64 x.2] 44 (0, 0))) (hne : gx ≠ g) (hB : B ≤ w.heap.size) :
    Calls Try.prog 16 #[.slice (some ⟨g, 0, none⟩) n cap, .int .i64 i, .slice (some ⟨gx, 0, none⟩) 1 1] w fun r w' => ∃ v', r = .returned v' ∧ Ins w B (.slice (some ⟨g, 0, none⟩) n cap) xs i x v' w' := by
  obtain ⟨-, hn, hBg, hgl, hcm, cur, hg, hcs, hrd⟩ := info_row h
  have hl1 : (n : Int) ≤ 1000 := by omega
  have hi1 : (i : Int) < n := by omega
  have hi0 : (0 : Int) ≤ i := by omega
  have hi2 : ¬ ((i : Int) = n) := by omega
  have hi3 : (i : Int) ≤ n := by omega
  have hi4 : ¬ (cap = i) := by omega
  have hi5 : ¬ (cap = i + 1) := by omega
  have hc1 : (n : Int) + 1 ≤ cap := by omega
  have hc2 : ¬ ((cap : Int) < (n : Int) + 1) := by omega
  have hc3 : (n : Int) ≤ cap := by omega
  have hi6 : (i : Int) ≤ (n : Int) + 1 := by omega
  have hi7 : (i : Int) + 1 ≤ (n : Int) + 1 := by omega
  have hgx : gx < w.heap.size := (Array.getElem?_eq_some_iff.1 hx).1
  have hdl : (xs.drop i).length = n - i := by rw [List.length_drop]; omega
  have HOV : Side (∀ la ca lb cb, (callFunc 22 #[.slice (some ⟨gx, 0, none⟩) la ca, .slice (some ⟨g, (i + 1) * 2, none⟩) lb cb]).run Try.prog w = .ok (.value (.bool false)) w) := ⟨fun la ca lb cb => by
    rw [run_callFunc_extern Try.func22 (by kernel_rfl) (by kernel_rfl) (by kernel_rfl) (e := Extern.SlicesOverlaps.overlaps #[40, 40] #[4]) (by kernel_rfl),
      Go.Lib.run_overlaps_apart w 40 4 44 Try.underlying40 2 (fun w => by obtain ⟨i, hi, hz, hs, hb⟩ := info_it; simp [sizeOf, typeInfo, hi, hs]) ⟨gx, 0, none⟩ ⟨g, (i + 1) * 2, none⟩ la ca lb cb hne 44 44 2 (cap * 2) (by simp [World.shape?, hx]) (by simp [World.shape?, hg, hcs]) (by omega) (by simp [World.frozen?, hx]) (by simp [World.frozen?, hx])]
    rfl⟩
  have C2 : Side (∀ ty dc sc, (Builtin.copy_ #[40, 40] ty #[.slice (some ⟨g, (i + 1) * 2, none⟩) (n - i) dc, .slice (some ⟨g, i * 2, none⟩) (n + 1 - i) sc]).run Try.prog w.drew = .ok (goInt (xs.drop i).length) (w.drew.setCells g ((i + 1) * 2) (flat (xs.drop i)))) := ⟨fun ty dc sc =>
    run_copy_it w.drew ty g ((i + 1) * 2) (n - i) dc ⟨g, i * 2, none⟩ (n + 1 - i) sc (xs.drop i) cur _ hg (by rw [hdl]; simp only [Nat.min_def]; split <;> omega) (by rw [hdl]; omega) (fun j y hy => by
      rw [List.getElem?_drop] at hy
      have h3 := hrd (i + j) y hy
      rw [Nat.add_mul] at h3
      rw [Addr.add_lit, Addr.add_lit]
      simpa [Nat.add_assoc] using h3)⟩
  have RS := Row.shift (Row.same (w' := w.drew) h rfl) i x (by omega) hc
  have X2 := chg_set w.drew g ((i + 1) * 2) (flat (xs.drop i))
  obtain ⟨cur2, hg2, hcs2, -⟩ := setCells_row (flat (xs.drop i)) ((i + 1) * 2) w.drew cur hg (by rw [flat_len, hdl, hcs]; omega)
  have hfar : (w.drew.setCells g ((i + 1) * 2) (flat (xs.drop i))).heap[gx]? = _ := (setCells_far (flat (xs.drop i)) ((i + 1) * 2) gx hne).trans hx
  obtain ⟨w2, hw2⟩ : ∃ w2, w2 = w.drew.setCells g ((i + 1) * 2) (flat (xs.drop i)) := ⟨_, rfl⟩
  rw [← hw2] at RS X2 hg2 hfar C2
  have C1 : Side (∀ ty dc, (Builtin.copy_ #[40, 40] ty #[.slice (some ⟨g, i * 2, none⟩) (n + 1 - i) dc, .slice (some ⟨gx, 0, none⟩) 1 1]).run Try.prog w2 = .ok (goInt 1) (w2.setCells g (i * 2) (flat [x]))) := ⟨fun ty dc =>
    run_copy_it w2 ty g (i * 2) (n + 1 - i) dc ⟨gx, 0, none⟩ 1 1 [x] cur2 _ hg2 (by simp only [Nat.min_def, List.length_cons, List.length_nil]; split <;> omega) (by simp only [List.length_cons, List.length_nil]; omega) (cells1 hfar)⟩
  have HFIN : Side (Ins w B (.slice (some ⟨g, 0, none⟩) n cap) xs i x (.slice (some ⟨g, 0, none⟩) (n + 1) cap) (w2.setCells g (i * 2) (flat [x]))) := ⟨RS, by
    have X0 : Chg w w.drew (fun k => some k = (Value.slice (some ⟨g, 0, none⟩) n cap).ownBlock) := ⟨rfl, rfl, rfl, Nat.le_refl _, fun _ _ _ => rfl⟩
    have X1 : Chg w w2 (fun k => some k = (Value.slice (some ⟨g, 0, none⟩) n cap).ownBlock) := X0.trans X2 (fun k hk he => by rw [he]; rfl)
    exact X1.trans (chg_set w2 g (i * 2) (flat [x])) (fun k hk he => by rw [he]; rfl), .inl rfl⟩
  clear h hgx hx hg hrd hcs RS X2 hg2 hfar hw2 hcs2 hdl hn hBg hgl hcm hne hB hi hc hxl
  go_enter Try.func16, Try.ntmps16
  go_wp2_with (simp only [HOV.out])
  have mixed : Try.prog.follows Departure.mixedOrders = true := by kernel_rfl
  have hw1 : IntKind.i64.wrap ((i : Int) + 1) = (i : Int) + 1 := by rw [IntKind.wrap_i64]; omega
  have hb1 : (0 : Int) ≤ (i : Int) + 1 := by omega
  have htn : ((i : Int) + 1).toNat = i + 1 := by omega
  have C3 := C2.out
  go_region_law_o (refine step_copy_runI rfl _ _ 40 40 rfl _ _ (by simp [Act.eval, Act.put]) (by simp [Act.eval, Act.put]) (C3 _ _ _) ?_)
  clear htn hb1 hw1
  go_wp2_with (refine wpList_run rfl _ _ (exec_copy rfl rfl rfl (C1.out _ _)) ?_)
  go_ret
  exact ⟨_, rfl, HFIN.out⟩
/-- slices.Insert(s, i, x). -/
theorem Insert_at (w : World) (B : Nat) (v : Value) (xs : List It) (x : It) (i : Nat) (gx : Nat) (h : Row w B 44 v xs) (hl : xs.length ≤ 1000) (hi : i ≤ xs.length) (hx : w.heap[gx]? = some (.cells #[.int .i64 x.1, .int .i64 x.2] 44 (0, 0))) (hne : v.ownBlock ≠ some gx) (hB : B ≤ w.heap.size) :
    Calls Try.prog 16 #[v, .int .i64 i, .slice (some ⟨gx, 0, none⟩) 1 1] w fun r w' => ∃ v', r = .returned v' ∧ Ins w B v xs i x v' w' := by
  by_cases he : i = xs.length
  · subst he
    exact end_at w B v xs x gx h hl hx hB
  · rcases h.read with ⟨rfl, rfl⟩ | ⟨g, cap, rfl, _, _, hn, _⟩
    · simp at hi; simp at he; omega
    · by_cases hc : cap < xs.length + 1
      · exact grow_at w B g xs.length cap xs rfl i x gx h hl (by omega) hc hx hB
      · exact shift_at w B g xs.length cap xs rfl i x gx h hl (by omega) (by omega) hx (fun e => hne (by rw [e]; rfl)) hB
end Go.Proofs.Ytbppjaglgbhckaa.CaL

/- Package heap, fifth text: the map of places and the list; settle. No condition. -/
import Derived.Test.YtiebpmbongmgkaaHpD
set_option linter.unusedVariables false
set_option linter.unusedSimpArgs false
namespace Go.Proofs.Ytiebpmbongmgkaa.HpE
open Go.RowKit Go.Proofs.Ytiebpmbongmgkaa.Kit Go.Proofs.Ytiebpmbongmgkaa.Kit3 Go.Proofs.Ytiebpmbongmgkaa.Kit4 HpPlain Go.Maps Go.Proofs.Ytiebpmbongmgkaa.HpA Go.Proofs.Ytiebpmbongmgkaa.HpB Go.Proofs.Ytiebpmbongmgkaa.HpC Go.Proofs.Ytiebpmbongmgkaa.HpD
open Go.Proofs.YtiebpmbongmgkaaW.PrintLast
theorem kv_key (s : Int) : WideAt.IsKeyLit (kv s) := trivial
theorem kv_ne {s t : Int} (h : s ≠ t) : kv s ≠ kv t := fun e => h (by injection e)
/-- What is stored in a map of places. -/
theorem Idx.put {l l' : List It} {D : DD} (h : Idx l D) (i : Nat) (x : It) (hi : i < l'.length) (hx : at_ l' i = x) (hn' : (slots l').Nodup) (hhas : ∀ s, hasS l' s = (hasS l s || s == x.1)) (hsz : l'.length = if hasS l x.1 = true then l.length else l.length + 1) (hw : (kv x.1).wf = true)
    (hat : ∀ j, j < l'.length → j ≠ i → ∃ j', j' < l.length ∧ at_ l j' = at_ l' j ∧ j' = j) : Idx l' (D.put (kv x.1) (.lit (.int .i64 i))) := by
  have hm := h.tidy.isMap
  refine ⟨h.tidy.put (kv_key _) _, fun s hs => ?_, fun j hj z => ?_, ?_⟩
  · by_cases he : s = x.1
    · subst he
      rw [has_put_same hm (kv_key _), hhas]; simp
    · rw [has_put_other (kv_ne he), h.has s hs, hhas]
      have : (s == x.1) = false := by simpa using he
      rw [this, Bool.or_false]
  · by_cases he : j = i
    · subst he
      rw [hx, atKey_put_same hm (kv_key _)]
    · obtain ⟨j', h1, h2, rfl⟩ := hat j hj he
      have hne : (at_ l' j').1 ≠ x.1 := fun e => he (slot_inj hn' hj hi (by rw [hx]; exact e))
      rw [atKey_put_other (kv_ne hne), ← h2]
      exact h.at_ j' h1 z
  · rw [size_put h.tidy, h.has _ hw, h.size, hsz]
theorem Idx.swap {l : List It} {D : DD} (h : Idx l D) (hn : (slots l).Nodup) (hw : ∀ x ∈ l, (kv x.1).wf = true) (i k : Nat) (hi : i < l.length) (hk : k < l.length) :
    Idx (sw l i k) ((D.put (kv (at_ l k).1) (.lit (.int .i64 i))).put (kv (at_ l i).1) (.lit (.int .i64 k))) := by
  have hm := h.tidy.isMap
  have hp := sw_perm l i k hi hk
  have hx : hasS l (at_ l k).1 = true := hasS_iff.2 (List.mem_map.2 ⟨_, at_mem hk, rfl⟩)
  have hy : hasS l (at_ l i).1 = true := hasS_iff.2 (List.mem_map.2 ⟨_, at_mem hi, rfl⟩)
  have hwx := hw _ (at_mem hk)
  have hwy := hw _ (at_mem hi)
  have hm1 := hm.put (kv (at_ l k).1) (.lit (.int .i64 i))
  refine ⟨(h.tidy.put (kv_key _) _).put (kv_key _) _, fun s hs => ?_, fun j hj z => ?_, ?_⟩
  · rw [hasS_perm hp]
    by_cases h1 : s = (at_ l i).1
    · subst h1
      rw [has_put_same hm1 (kv_key _), hy]
    · rw [has_put_other (kv_ne h1)]
      by_cases h2 : s = (at_ l k).1
      · subst h2
        rw [has_put_same hm (kv_key _), hx]
      · rw [has_put_other (kv_ne h2), h.has s hs]
  · rw [sw_len] at hj
    rw [at_sw l i k hi hk]
    unfold swf
    by_cases h1 : j = k
    · subst h1
      rw [if_pos rfl, atKey_put_same hm1 (kv_key _)]
    · rw [if_neg h1]
      by_cases h2 : j = i
      · subst h2
        have hne : (at_ l k).1 ≠ (at_ l j).1 := fun e => h1 (slot_inj hn hj hk e.symm)
        rw [if_pos rfl, atKey_put_other (kv_ne hne), atKey_put_same hm (kv_key _)]
      · rw [if_neg h2]
        have n1 : (at_ l j).1 ≠ (at_ l i).1 := fun e => h2 (slot_inj hn hj hi e)
        have n2 : (at_ l j).1 ≠ (at_ l k).1 := fun e => h1 (slot_inj hn hj hk e)
        rw [atKey_put_other (kv_ne n1), atKey_put_other (kv_ne n2)]
        exact h.at_ j hj z
  · have t1 := h.tidy.put (kv_key (at_ l k).1) (.lit (.int .i64 i))
    have hy2 : Maps.has (D.put (kv (at_ l k).1) (.lit (.int .i64 i))) (kv (at_ l i).1) = true := by
      by_cases e : (at_ l i).1 = (at_ l k).1
      · rw [e, has_put_same hm (kv_key _)]
      · rw [has_put_other (kv_ne e), h.has _ hwy, hy]
    rw [size_put t1, hy2, if_pos rfl, size_put h.tidy, h.has _ hwx, hx, if_pos rfl, h.size, sw_len]
/-- A heap: its memory, and its map of places. -/
structure HS (w : World) (B gh : Nat) (kind : Int) (v : Value) (bm : Nat) (l : List It) : Prop where
  hp : ∃ D : DD, Hp w B gh kind v bm l.length l D ∧ Idx l D
  nd : (slots l).Nodup
  sl : ∀ x ∈ l, 0 ≤ x.1 ∧ x.1 < 65536
theorem HS.wf {w : World} {B gh bm : Nat} {kind : Int} {v : Value} {l : List It} (h : HS w B gh kind v bm l) : ∀ x ∈ l, (kv x.1).wf = true := fun x hx => by
  have := h.sl x hx
  exact wf_of (by omega) (by omega)
theorem HS.below {w w' : World} {B gh bm : Nat} {kind : Int} {v : Value} {l : List It} (h : HS w B gh kind v bm l) (hb : Below w.heap.size w w') : HS w' B gh kind v bm l := by
  obtain ⟨D, h1, h2⟩ := h.hp
  exact ⟨⟨D, h1.below hb, h2⟩, h.nd, h.sl⟩
theorem HS.row {w : World} {B gh bm : Nat} {kind : Int} {v : Value} {l : List It} (h : HS w B gh kind v bm l) : Row w B v l := let ⟨_, h1, _⟩ := h.hp; h1.row
theorem HS.c0 {w : World} {B gh bm : Nat} {kind : Int} {v : Value} {l : List It} (h : HS w B gh kind v bm l) : w.cell? ⟨gh, 0, none⟩ = some (.int .i64 kind) := let ⟨_, h1, _⟩ := h.hp; h1.c0
theorem HS.c1 {w : World} {B gh bm : Nat} {kind : Int} {v : Value} {l : List It} (h : HS w B gh kind v bm l) : w.cell? ⟨gh, 1, none⟩ = some v := let ⟨_, h1, _⟩ := h.hp; h1.c1
theorem HS.c2 {w : World} {B gh bm : Nat} {kind : Int} {v : Value} {l : List It} (h : HS w B gh kind v bm l) : w.cell? ⟨gh, 2, none⟩ = some (.map (some bm)) := let ⟨_, h1, _⟩ := h.hp; h1.c2
theorem HS.lt {w : World} {B gh bm : Nat} {kind : Int} {v : Value} {l : List It} (h : HS w B gh kind v bm l) : gh < w.heap.size := let ⟨_, h1, _⟩ := h.hp; h1.lt
theorem HS.item {w : World} {B gh g cap bm m : Nat} {kind : Int} {l : List It} (h : HS w B gh kind (.slice (some ⟨g, 0, none⟩) m cap) bm l) (i : Nat) (hi : i < l.length) (r : Nat) (v : Value) (hr : (cl (at_ l i))[r]? = some v) : w.cell? ⟨g, i * 5 + r, none⟩ = some v := let ⟨_, h1, _⟩ := h.hp; Hp.item h1 i hi r v hr
theorem swap_at (w : World) (B gh g cap bm : Nat) (kind : Int) (l : List It) (h : HS w B gh kind (.slice (some ⟨g, 0, none⟩) l.length cap) bm l) (i k : Nat) (hi : i < l.length) (hk : k < l.length) (hl : l.length ≤ 100000) :
    Calls Try.prog 20 #[.pointer (some ⟨gh, 0, none⟩), .int .i64 i, .int .i64 k] w fun r w' => r = .returned (.tuple #[]) ∧ HS w' B gh kind (.slice (some ⟨g, 0, none⟩) l.length cap) bm (sw l i k) ∧ Chg w w' (Foot gh bm (.slice (some ⟨g, 0, none⟩) l.length cap)) := by
  obtain ⟨D, h1, h2⟩ := h.hp
  refine (swap_core w B gh g cap bm l.length kind l D h1 (by omega) i k hi hk (by omega) _ _ rfl rfl (h.wf _ (at_mem hi)) (h.wf _ (at_mem hk))).mono ?_
  rintro r w' ⟨rfl, h3, h4⟩
  have hp := sw_perm l i k hi hk
  have hI := Idx.swap h2 h.nd h.wf i k hi hk
  refine ⟨rfl, ⟨⟨_, ⟨h3.box, h3.row, ?_, h3.bh, h3.bb⟩, hI⟩, slots_nodup hp h.nd, fun x hx => h.sl x (hp.mem_iff.1 hx)⟩, h4⟩
  have := map_tight h3.map
  rw [hI.size] at this
  exact this
end Go.Proofs.Ytiebpmbongmgkaa.HpE

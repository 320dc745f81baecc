/- Package pick, second text: the set of ids seen; what stands between the rounds of Best. No condition. -/
import Derived.Test.YticcgmlgiijjnaaPkA
import Derived.Test.YticcgmlgiijjnaaHpK
import Derived.Test.YticcgmlgiijjnaaKit5
import Derived.Carry
set_option linter.unusedVariables false
set_option linter.unusedSimpArgs false
namespace Go.Proofs.Yticcgmlgiijjnaa.PkB
open Go.RowKit Go.Proofs.Yticcgmlgiijjnaa.Kit Go.Proofs.Yticcgmlgiijjnaa.Kit3 Go.Proofs.Yticcgmlgiijjnaa.Kit4 Go.Proofs.Yticcgmlgiijjnaa.Kit5 HpPlain Go.Maps EvPlain Go.Proofs.Yticcgmlgiijjnaa.HpA Go.Proofs.Yticcgmlgiijjnaa.HpB Go.Proofs.Yticcgmlgiijjnaa.HpE Go.Proofs.Yticcgmlgiijjnaa.HpK Go.Proofs.Yticcgmlgiijjnaa.Win Go.Proofs.Yticcgmlgiijjnaa.Rank Go.Proofs.Yticcgmlgiijjnaa.Cmp Go.Proofs.Yticcgmlgiijjnaa.PkPlain Go.Proofs.Yticcgmlgiijjnaa.PkA
theorem zeroB (w : World) : (zeroValue 4).run Try.prog w = .ok (.bool false) w := by kernel_rfl
theorem plainElem_bool_inv {e : TypeId} (he : Try.prog.underlying e = some .bool) {v : Value} {z : DD × List MemPlace} (h : plainElem Try.prog e v = some z) : ∃ x, v = .bool x ∧ z.1 = .lit (.bool x) := by
  unfold plainElem at h
  rw [he] at h
  cases v <;> simp at h
  exact ⟨_, rfl, by rw [← h]⟩
/-- The set of ids that were seen. -/
structure Seen (w : World) (bm n : Nat) (S : Int → Bool) : Prop where
  h : ∃ D : DD, w.ownsMap Try.prog 3 (plainElem Try.prog 4) bm n D ∧ Tidy D ∧ ∀ s : Int, (kv s).wf = true → (S s = true → ∀ z, D.atKey (kv s) z = .lit (.bool true)) ∧ (S s = false → ∀ z, D.atKey (kv s) z = z)
theorem Seen.made (w : World) : Seen (w.alloc (.map #[] 0)) w.heap.size 0 (fun _ => false) :=
  ⟨.map [], World.ownsMap_made w _ _ _, tidy_empty, fun s _ => ⟨(fun h => by cases h), fun _ z => rfl⟩⟩
theorem Seen.lt {w : World} {bm n : Nat} {S : Int → Bool} (h : Seen w bm n S) : bm < w.heap.size := by
  obtain ⟨D, h1, _⟩ := h.h
  exact h1.lt
theorem Seen.move {w w' : World} {bm n : Nat} {S : Int → Bool} (h : Seen w bm n S) (he : w'.heap[bm]? = w.heap[bm]?) : Seen w' bm n S := by
  obtain ⟨D, ⟨es, clock, h1, r⟩, h2⟩ := h.h
  exact ⟨D, ⟨es, clock, he.trans h1, r⟩, h2⟩
theorem Seen.below {w w' : World} {bm n : Nat} {S : Int → Bool} (h : Seen w bm n S) (hb : Below w.heap.size w w') : Seen w' bm n S := h.move (hb.block bm h.lt)
theorem Seen.look {w : World} {bm n : Nat} {S : Int → Bool} (h : Seen w bm n S) (s : Int) (hs : (kv s).wf = true) (b : Bool) (hb : S s = b) : (Instr.lookup 56 (.map (some bm)) (.int .i64 s) false).run Try.prog w = .ok (.bool b) w := by
  subst hb
  obtain ⟨D, h1, _, h2⟩ := h.h
  have hkey : keyOf Try.prog 3 (.int .i64 s) = some (kv s) := keyOf_int_mk Try.underlying3 hs
  obtain ⟨u, ps, hrun, hu⟩ := h1.lookup keyed Try.underlying56 (zeroB w) (plainElem_bool Try.underlying4 false) hkey
  obtain ⟨x, rfl, hx⟩ := plainElem_bool_inv Try.underlying4 hu
  rw [hrun]
  cases hS : S s
  · rw [(h2 s hs).2 hS] at hx
    simp at hx
    rw [hx]
  · rw [(h2 s hs).1 hS] at hx
    simp at hx
    rw [← hx]
theorem Seen.put {w' : World} {bm n : Nat} {S : Int → Bool} {D : DD} {s : Int} (hs : (kv s).wf = true) (ht : Tidy D) (h2 : ∀ s : Int, (kv s).wf = true → (S s = true → ∀ z, D.atKey (kv s) z = .lit (.bool true)) ∧ (S s = false → ∀ z, D.atKey (kv s) z = z))
    (h : w'.ownsMap Try.prog 3 (plainElem Try.prog 4) bm n (D.put (kv s) (.lit (.bool true)))) : Seen w' bm n (fun x => S x || x == s) := by
  refine ⟨_, h, h.tidy keyed, fun x hx => ?_⟩
  by_cases e : x = s
  · subst e
    refine ⟨fun _ z => atKey_put_same ht.isMap (kv_key _) _ _, fun h => ?_⟩
    simp at h
  · rw [show (S x || x == s) = S x by simp [e]]
    refine ⟨fun h z => ?_, fun h z => ?_⟩
    · rw [atKey_put_other (kv_ne e)]; exact (h2 x hx).1 h z
    · rw [atKey_put_other (kv_ne e)]; exact (h2 x hx).2 h z
theorem Seen.upd {w : World} {bm n : Nat} {S : Int → Bool} (h : Seen w bm n S) (hn : n ≤ 1000000) (s : Int) (hs : (kv s).wf = true) : ∃ w', (Instr.mapUpdate 56 (.map (some bm)) (.int .i64 s) (.bool true)).run Try.prog w = .ok () w' ∧ Seen w' bm (n + 1) (fun x => S x || x == s) ∧ Chg w w' (fun k => k = bm) := by
  obtain ⟨D, h1, h2, h3⟩ := h.h
  have hkey : keyOf Try.prog 3 (.int .i64 s) = some (kv s) := keyOf_int_mk Try.underlying3 hs
  obtain ⟨w', hrun, hown, hgr⟩ := h1.update keyed Try.underlying56 (by unfold maxLen; omega) hkey (plainElem_bool Try.underlying4 true)
  exact ⟨w', hrun, Seen.put hs h2 h3 hown, ⟨hgr.os, hgr.tape, hgr.output, hgr.size, fun k hk hn => hgr.block k hk (fun e => hn (Option.some.inj e))⟩⟩
/-! ### rows -/
def tcl (t : Tk) : List Value := [.int .i64 t.id, .int .i64 t.e, .int .i64 t.p, .bool t.s, .bool t.l, .bool t.wt, .bool t.a, .int .i64 t.r, .int .i64 t.g, .bool t.d, .int .i64 t.c]
theorem E11 : El 11 tcl := ⟨by decide, fun _ => rfl, fun x v hv => by simp [tcl] at hv; rcases hv with rfl | rfl | rfl | rfl | rfl | rfl | rfl | rfl | rfl | rfl | rfl <;> rfl⟩
def icl (x : Int) : List Value := [.int .i64 x]
theorem E1 : El 1 icl := ⟨by decide, fun _ => rfl, fun x v hv => by simp [icl] at hv; rw [hv]; rfl⟩
theorem infoI : (Try.prog.info? 3).map (fun i => (i.zero, i.size, i.bytes)) = some (some (.int .i64 0), 1, 8) := by kernel_rfl
def at_ (ts : List Tk) (i : Nat) : Tk := ts.getD i ⟨0, 0, 0, false, false, false, false, 0, 0, false, 0⟩
theorem at_lt {ts : List Tk} {i : Nat} (h : i < ts.length) : ts[i]? = some (at_ ts i) := by
  unfold at_
  rw [List.getD_eq_getElem?_getD, List.getElem?_eq_getElem h]; rfl
def TRow (w : World) (B : Nat) (v : Value) (ts : List Tk) : Prop := GRow 27 11 tcl w B v ts
def IRow (w : World) (B : Nat) (v : Value) (xs : List Int) : Prop := GRow 3 1 icl w B v xs
theorem GRow.fr {α : Type} {T k : Nat} {c : α → List Value} {X : Nat → Prop} {w w' : World} {B : Nat} {v : Value} {xs : List α} (h : GRow T k c w B v xs) (hf : Fr X w w') (h1 : T ≠ 71) (h2 : T ≠ 68) : GRow T k c w' B v xs := by
  refine h.move fun j hj => ?_
  obtain ⟨cur, h3⟩ := h.cells j hj
  rw [h3]
  exact hf.block j _ h3 (.inr ⟨_, _, rfl, h1, h2⟩)
theorem Val.fr {X : Nat → Prop} {w w' : World} {T p : Nat} {c : List Value} (h : Val w T p c) (hf : Fr X w w') (h1 : T ≠ 71) (h2 : T ≠ 68) : Val w' T p c := by
  obtain ⟨cs, h3, h4⟩ := h
  exact ⟨cs, h3, hf.block p _ h4 (.inr ⟨_, _, rfl, h1, h2⟩)⟩
theorem St.perm {W w : World} {Y : Nat → Prop} {gh : Nat} {kind : Int} {m m' : List It} (h : St W w Y gh kind m) (hp : m.Perm m') : St W w Y gh kind m' := by
  obtain ⟨v, bm, l, h1, h2, h3, h4⟩ := h.h
  exact ⟨h.below, h.xlt, v, bm, l, h1, h2, h3.trans hp, h4⟩
theorem St.sub {W w : World} {X Y : Nat → Prop} {gh : Nat} {kind : Int} {m : List It} (h : St W w X gh kind m) (hy : ∀ k, Y k → X k) : St W w Y gh kind m := by
  obtain ⟨v, bm, l, h1, h2, h3, h4⟩ := h.h
  exact ⟨h.below, fun k hk => h.xlt k (hy k hk), v, bm, l, h1, h2, h3, fun k hk hY => h4 k hk (hy k hY)⟩
/-- Where a task of a row lies. -/
theorem TRow.get {w : World} {B n cap : Nat} {a : Option Addr} {ts : List Tk} (h : TRow w B (.slice a n cap) ts) (j : Nat) (hj : j < ts.length) :
    ∃ g, a = some ⟨g, 0, none⟩ ∧ g < w.heap.size ∧ n = ts.length ∧ ∀ r u, (tcl (at_ ts j))[r]? = some u → w.cell? ⟨g, j * 11 + r, none⟩ = some u := by
  obtain ⟨g, rfl, _, hg, hn, _, hc⟩ := GRow.get E11 h (by rintro rfl; simp at hj)
  exact ⟨g, rfl, hg, hn, hc j _ (at_lt hj)⟩
/-- What was seen ahead of a place. -/
def sn (ts : List Tk) (i : Nat) (s : Int) : Bool := (List.range i).any fun j => (at_ ts j).id == s
theorem sn_zero (ts : List Tk) : sn ts 0 = fun _ => false := rfl
theorem sn_succ (ts : List Tk) (i : Nat) : sn ts (i + 1) = fun x => sn ts i x || x == (at_ ts i).id := by
  funext x
  unfold sn
  rw [List.range_succ, List.any_append]
  simp
  rw [Bool.eq_iff_iff]
  simp [eq_comm (a := x)]
theorem sn_fresh (ts : List Tk) (i : Nat) : fresh (at_ ts) i = !(sn ts i (at_ ts i).id) := rfl
/-- Between the rounds of the first loop. -/
structure La (W : World) (gh bm : Nat) (ts : List Tk) (c : Int) (y : Bool) (i : Nat) (w : World) : Prop where
  st : St W w (fun k => k = bm) gh 1 (alv (at_ ts) i (on0 (at_ ts) c y))
  seen : Seen w bm i (sn ts i)
  bb : W.heap.size ≤ bm
/-- Between the rounds of the second loop. -/
structure Lb (W : World) (gh : Nat) (ts : List Tk) (on : Nat → Bool) (v : Value) (xs : List Int) (w : World) : Prop where
  st : St W w (fun _ => False) gh 1 (alv (at_ ts) ts.length on)
  row : IRow w W.heap.size v xs
theorem La.below {W w w' : World} {gh bm i : Nat} {ts : List Tk} {c : Int} {y : Bool} (h : La W gh bm ts c y i w) (hb : Below w.heap.size w w') : La W gh bm ts c y i w' := ⟨h.st.below' hb, h.seen.below hb, h.bb⟩
theorem Lb.below {W w w' : World} {gh : Nat} {ts : List Tk} {on : Nat → Bool} {v : Value} {xs : List Int} (h : Lb W gh ts on v xs w) (hb : Below w.heap.size w w') : Lb W gh ts on v xs w' := ⟨h.st.below' hb, GRow.below h.row hb⟩
/-- Within a round, behind the test: the heap is one further, the set not yet. -/
structure Lm (W : World) (gh bm p : Nat) (ts : List Tk) (c : Int) (y : Bool) (i : Nat) (w : World) : Prop where
  st : St W w (fun k => k = bm) gh 1 (alv (at_ ts) (i + 1) (on0 (at_ ts) c y))
  seen : Seen w bm i (sn ts i)
  bb : W.heap.size ≤ bm
  vl : Val w 27 p (tcl (at_ ts i))
theorem Lm.next {W w : World} {gh bm p i : Nat} {ts : List Tk} {c : Int} {y : Bool} (h : Lm W gh bm p ts c y i w) (hi : i ≤ 1000) (hs : (kv (at_ ts i).id).wf = true) : ∃ w', (Instr.mapUpdate 56 (.map (some bm)) (.int .i64 (at_ ts i).id) (.bool true)).run Try.prog w = .ok () w' ∧ La W gh bm ts c y (i + 1) w' := by
  obtain ⟨w', h1, h2, h3⟩ := h.seen.upd (by omega) _ hs
  refine ⟨w', h1, ?_, ?_, h.bb⟩
  · exact h.st.chg h3 (fun k hk => by rw [hk]; exact h.bb) (fun k o _ hk => .inl hk) (fun k hk => by rw [hk]; exact h.seen.lt)
  · rw [sn_succ]; exact h2
/-- One id more. -/
theorem Lb.app {W w w' : World} {gh : Nat} {ts : List Tk} {on : Nat → Bool} {v v' : Value} {xs ys : List Int} (hs : St W w (fun _ => False) gh 1 (alv (at_ ts) ts.length on)) (hr : IRow w W.heap.size v xs) (hr' : IRow w' W.heap.size v' ys) (hg : w.grownBy w' v.ownBlock) : Lb W gh ts on v' ys w' := by
  refine ⟨hs.chg (HpA.Chg.of_grown hg) (fun k hk => GRow.base hr k hk.symm) (fun k o ho hk => ?_) (fun k hk => GRow.lt hr k hk.symm), hr'⟩
  obtain ⟨cur, h1⟩ := GRow.cells hr k hk.symm
  rw [h1] at ho
  exact .inr ⟨_, _, (Option.some.inj ho).symm, by decide, by decide⟩
end Go.Proofs.Yticcgmlgiijjnaa.PkB

/- Package heap, seventh text: what an operation leaves; the look-up; the append; Put. No condition. -/
import Derived.Test.YtiebpmbongmgkaaHpF
import Derived.Lib.SliceRun
set_option linter.unusedVariables false
set_option linter.unusedSimpArgs false
namespace Go.Proofs.Ytiebpmbongmgkaa.HpG
open Go.RowKit Go.Proofs.Ytiebpmbongmgkaa.Kit Go.Proofs.Ytiebpmbongmgkaa.Kit3 Go.Proofs.Ytiebpmbongmgkaa.Kit4 HpPlain Go.Maps Go.Proofs.Ytiebpmbongmgkaa.HpA Go.Proofs.Ytiebpmbongmgkaa.HpB Go.Proofs.Ytiebpmbongmgkaa.HpC Go.Proofs.Ytiebpmbongmgkaa.HpD Go.Proofs.Ytiebpmbongmgkaa.HpE Go.Proofs.Ytiebpmbongmgkaa.HpF
open Go.Proofs.YtiebpmbongmgkaaW.PrintLast
/-- What an operation leaves: a heap of what is told. -/
def Got (w w' : World) (B gh : Nat) (kind : Int) (v : Value) (bm : Nat) (m : List It) : Prop :=
  ∃ v' l', HS w' B gh kind v' bm l' ∧ Ordered kind (at_ l') l'.length ∧ l'.Perm m ∧ Chg w w' (Foot gh bm v) ∧ (v'.ownBlock = v.ownBlock ∨ ∃ k, v'.ownBlock = some k ∧ w.heap.size ≤ k)
theorem Got.same {w w' : World} {B gh bm : Nat} {kind : Int} {v : Value} {l m : List It} (h : HS w B gh kind v bm l) (ho : Ordered kind (at_ l) l.length) (hp : l.Perm m) (hb : Below w.heap.size w w') : Got w w' B gh kind v bm m :=
  ⟨v, l, h.below hb, ho, hp, Chg.of_below hb, .inl rfl⟩
theorem HS.look {w : World} {B gh bm : Nat} {kind : Int} {v : Value} {l : List It} (h : HS w B gh kind v bm l) (s : Int) (hs : (kv s).wf = true) :
    ∃ c : Int, (Instr.lookup 50 (.map (some bm)) (.int .i64 s) true).run Try.prog w = .ok (.tuple #[.int .i64 c, .bool (hasS l s)]) w ∧ (hasS l s = true → ∃ i : Nat, i < l.length ∧ c = i ∧ (at_ l i).1 = s) := by
  obtain ⟨D, h1, h2⟩ := h.hp
  have hkey : keyOf Try.prog 3 (.int .i64 s) = some (kv s) := keyOf_int_mk Try.underlying3 hs
  obtain ⟨u, ps, hrun, hu⟩ := h1.map.look_ok keyed Try.underlying50 (zeroE w) (plainElem_int Try.underlying3 (by decide)) hkey
  obtain ⟨c, rfl, hc, _⟩ := plainElem_int_inv Try.underlying3 hu
  rw [h2.has s hs] at hrun
  refine ⟨c, hrun, fun hh => ?_⟩
  obtain ⟨x, hx, he⟩ := List.mem_map.1 (hasS_iff.1 hh)
  obtain ⟨i, hi⟩ := List.getElem?_of_mem hx
  have hil := (List.getElem?_eq_some_iff.1 hi).1
  have ha := at_of hi
  have := h2.at_ i hil (.lit (.int .i64 0))
  rw [ha, he] at this
  have hc1 := congrArg Prod.fst hc
  rw [this] at hc1
  simp at hc1
  exact ⟨i, hil, hc1.symm, by rw [ha]; exact he⟩
theorem run_app {w : World} {B : Nat} {v : Value} {xs : List It} (ty : TypeId) (h : Row w B v xs) (ad : Addr) (c : Nat) (x : It) (hy : ∀ (r : Nat) (u : Value), (cl x)[r]? = some u → w.cell? (ad.add r) = some u) (hl : xs.length ≤ 1000000) (hB : B ≤ w.heap.size) :
    ∃ v' w', (Builtin.append_ #[51, 51] ty #[v, .slice (some ad) 1 c]).run Try.prog w = .ok v' w' ∧ Row w' B v' (xs ++ [x]) ∧ w.grownBy w' v.ownBlock ∧ (v'.ownBlock = v.ownBlock ∨ v'.ownBlock = some w.heap.size) := by
  obtain ⟨i, hi, hz, hs, hb⟩ := info_it
  obtain ⟨v', w', h1, h2, h3, h4, h5⟩ := run_append_own_at (P := Try.prog) w B 51 ty 56 i _ 5 40 Try.underlying51 hi hz hs hb rfl (by decide) v xs.length (flat xs) h ad 1 c (flat [x]) rfl
    (by intro j u hj; exact hy j u (by simpa [flat] using hj)) (fun u hu => flat_one [x] u hu) (by simp only [maxLen]; omega) (by omega) hB
  refine ⟨v', w', h1, ?_, h3, h5⟩
  unfold Row
  rw [List.length_append, flat_app]
  exact h2
theorem wpList_app {ops : Array Oper} {rest : List Oper} {o : Oper} {a : Act} {Q : Exit → Act → World → Prop} {w : World} (hgd : o.guard = none) (s x : Operand)
    (ho : o.op = .call { callee := .builtin .append, args := #[s, x], argTypes := #[51, 51] }) (B : Nat) (v : Value) (xs : List It) (hs : a.eval s = v) (h : Row w B v xs)
    (ad : Addr) (c : Nat) (y : It) (hx : a.eval x = .slice (some ad) 1 c) (hy : ∀ (r : Nat) (u : Value), (cl y)[r]? = some u → w.cell? (ad.add r) = some u) (hl : xs.length ≤ 1000000) (hB : B ≤ w.heap.size)
    (K : ∀ v' w', Row w' B v' (xs ++ [y]) → w.grownBy w' v.ownBlock → (v'.ownBlock = v.ownBlock ∨ v'.ownBlock = some w.heap.size) → wpList Try.prog ops Q rest (a.put o.dst v') w') :
    wpList Try.prog ops Q (o :: rest) a w := by
  refine wpList_plain hgd fun K' hK => ?_
  obtain ⟨v', w', h1, h2, h3, h5⟩ := run_app o.type h ad c y hy hl hB
  unfold Oper.wp execOp
  simp only [ho, resolve, invoke, builtin, Sem.run_bind, Sem.run_pure, Result.andThen_ok, List.map_toArray, List.map_cons, List.map_nil, hs, hx, h1]
  exact hK _ _ (K v' w' h2 h3 h5)
/-- The rank of an item. -/
abbrev rv (x : It) : Value := .agg #[.int .i64 x.2.1, .int .i64 x.2.2.1, .int .i64 x.2.2.2.1, .int .i64 x.2.2.2.2]
set_option maxHeartbeats 4000000 in
set_option maxRecDepth 100000 in
theorem Put_bad (w : World) (B gh bm : Nat) (kind : Int) (v : Value) (l : List It) (h : HS w B gh kind v bm l) (ho : Ordered kind (at_ l) l.length) (x : It) (hx : x.1 < 0 ∨ 65536 ≤ x.1) :
    Calls Try.prog 10 #[.pointer (some ⟨gh, 0, none⟩), .int .i64 x.1, rv x] w fun r w' => r = .returned (.int .i64 2) ∧ Got w w' B gh kind v bm l := by
  obtain ⟨x0, x1, x2, x3, x4⟩ := x
  have HH := Side.mk h
  have HO := Side.mk ho
  clear h ho
  by_cases h1 : x0 < 0
  · clear hx
    go_enter Try.func10, Try.ntmps10
    go_wp2
    go_ret
    exact ⟨rfl, Got.same HH.out HO.out (List.Perm.refl _) (by (repeat (with_reducible first | exact Below.refl _ _ | apply below_drewN | apply below_drew | apply below_alloc)))⟩
  · have h2 : 65536 ≤ x0 := by have : x0 < 0 ∨ 65536 ≤ x0 := hx; omega
    clear hx
    go_enter Try.func10, Try.ntmps10
    go_wp2
    go_ret
    exact ⟨rfl, Got.same HH.out HO.out (List.Perm.refl _) (by (repeat (with_reducible first | exact Below.refl _ _ | apply below_drewN | apply below_drew | apply below_alloc)))⟩
/-- The new item stands, not yet at its place. -/
theorem put_hs {w : World} {B gh bm k : Nat} {kind : Int} {v : Value} {l l' : List It} {D : DD} {x : It} (hI : Idx l D) (hnd : (slots l).Nodup) (hsl : ∀ y ∈ l, 0 ≤ y.1 ∧ y.1 < 65536) (hx : 0 ≤ x.1 ∧ x.1 < 65536) (i : Nat) (hi : i < l'.length) (hxi : at_ l' i = x) (hp : l'.Perm (put l x))
    (hat : ∀ j, j < l'.length → j ≠ i → j < l.length ∧ at_ l j = at_ l' j) (h : Hp w B gh kind v bm k l' (D.put (kv x.1) (.lit (.int .i64 i)))) : HS w B gh kind v bm l' := by
  have hn' : (slots l').Nodup := slots_nodup hp (nodup_put hnd x)
  have hw : (kv x.1).wf = true := wf_of (by omega) (by omega)
  have hhas : ∀ s, hasS l' s = (hasS l s || s == x.1) := by
    intro s
    rw [hasS_perm hp]
    unfold put
    split
    · rename_i hh
      rw [Bool.eq_iff_iff, hasS_iff]
      have := slots_put hh
      unfold put at this
      rw [if_pos hh] at this
      rw [this, Bool.or_eq_true, hasS_iff]
      constructor
      · exact fun h => .inl h
      · rintro (h | h)
        · exact h
        · rw [beq_iff_eq] at h; rw [h]; exact hasS_iff.1 hh
    · unfold hasS
      rw [List.any_append]
      simp [Bool.beq_comm, eq_comm]
  have hsz : l'.length = if hasS l x.1 = true then l.length else l.length + 1 := by
    rw [hp.length_eq]
    unfold put
    split <;> simp
  have hI' : Idx l' (D.put (kv x.1) (.lit (.int .i64 i))) := Idx.put hI i x hi hxi hn' hhas hsz hw (fun j hj hji => ⟨j, (hat j hj hji).1, (hat j hj hji).2, rfl⟩)
  refine ⟨⟨_, ⟨h.box, h.row, ?_, h.bh, h.bb⟩, hI'⟩, hn', fun y hy => ?_⟩
  · have := map_tight h.map
    rw [hI'.size] at this
    exact this
  · have hy' := hp.mem_iff.1 hy
    unfold put at hy'
    split at hy'
    · obtain ⟨u, hu, rfl⟩ := List.mem_map.1 hy'
      split
      · exact hx
      · exact hsl u hu
    · rcases List.mem_append.1 hy' with h | h
      · exact hsl y h
      · simp at h; rw [h]; exact hx
end Go.Proofs.Ytiebpmbongmgkaa.HpG

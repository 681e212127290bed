/- The symbolic executor: stores and new rows. -/
import Derived.Test.YtjcomklheilfjaaSxD2
import Derived.Maps.AppendAt
set_option linter.unusedVariables false
set_option linter.unusedSimpArgs false
namespace Go.Sx
open Go.RowKit

variable {env : Env} {ph : Ph} {P : Program}

theorem setBlk_has {st : St} {b : Blk} : (setBlk st b).has = st.has := rfl

theorem setCells_sat {w0 w w' : World} {st st' : St} {a : Act} {b : Blk} {cs : List Leaf} {dst : Option Tmp} {evs : List Ev} (h : Sat w0 env ph st a w) (hs : setCells st b cs dst = some (evs, st')) (hb : b ∈ st.blks)
    (hg : w.grownBy w' (some (ph.r b.id))) (hw : w'.heap[ph.r b.id]? = some (.cells (cs.map (Leaf.den env ph)).toArray b.ty (0, 0))) :
    evs = [] ∧ Step w0 env env ph ph st st' (a.put dst undef) w w' (some (ph.r b.id)) := by
  unfold setCells at hs
  split at hs
  · rename_i hcs
    simp only [Option.some.injEq, Prod.mk.injEq] at hs
    obtain ⟨rfl, rfl⟩ := hs
    have hB := (h.mem.blk b hb).1
    have mem_set : ∀ y ∈ (setBlk st { b with cells := cs }).blks, (y = { b with cells := cs }) ∨ (y ∈ st.blks ∧ y.id ≠ b.id) := by
      intro y hy
      simp only [setBlk, List.mem_map] at hy
      obtain ⟨x, hx, rfl⟩ := hy
      split
      · exact .inl rfl
      · rename_i hne; exact .inr ⟨hx, hne⟩
    refine ⟨rfl, ⟨?_, ?_, h.below.grown hg h.below.size (fun k hk => by cases hk; exact hB), by rw [act_put_defers]; exact h.defers, ?_⟩, agree_refl, hg, fun k hk => by rw [has_put]; exact hk⟩
    · exact put_ok (st := setBlk st { b with cells := cs }) h.tmps noSlot_den.symm
    · rw [put_blks, put_rows]
      refine ⟨fun y hy => ?_, fun y hy y' hy' hne => ?_, fun r hr h1 => ?_, fun y hy r hr h1 => ?_, h.mem.rr⟩
      · rcases mem_set y hy with rfl | ⟨hy, hne⟩
        · exact ⟨hB, hw⟩
        · exact (h.mem.blk y hy).grown hg (fun e => by
            simp only [Option.some.injEq] at e
            exact h.mem.bb y hy b hb hne e)
      · rcases mem_set y hy with rfl | ⟨hy, hne1⟩ <;> rcases mem_set y' hy' with rfl | ⟨hy', hne2⟩
        · exact absurd rfl hne
        · exact h.mem.bb b hb y' hy' hne
        · exact h.mem.bb y hy b hb hne
        · exact h.mem.bb y hy y' hy' hne
      · exact (h.mem.row r hr h1).grown hg (fun k hk e => by
          simp only [Option.some.injEq] at e
          subst e
          exact h.mem.br b hb r hr h1 hk)
      · rcases mem_set y hy with rfl | ⟨hy, _⟩
        · exact h.mem.br b hb r hr h1
        · exact h.mem.br y hy r hr h1
    · refine ⟨put_known (st := setBlk st { b with cells := cs }) h.names.tmps noSlot_all, ?_, ?_⟩
      · rw [put_blks, has_put]
        intro y hy
        rcases mem_set y hy with rfl | ⟨hy, _⟩
        · have := h.names.blks b hb
          simp only [Blk.all, Bool.and_eq_true] at this ⊢
          exact ⟨this.1, hcs⟩
        · exact h.names.blks y hy
      · rw [put_rows, has_put]; exact h.names.rows
  · cases hs

/-! ### A cell of a row -/
theorem setPad_getD (r : List Int) (j j' : Nat) (x : Int) : (setPad r j x).getD j' 0 = if j' = j then x else r.getD j' 0 := by
  unfold setPad
  split
  · rename_i h
    by_cases e : j' = j
    · subst e; simp [List.getD, h]
    · have e' : j ≠ j' := fun h => e h.symm
      simp [List.getD, List.getElem?_set, e, e']
  · rename_i h
    by_cases e : j' = j
    · subst e
      simp only [if_true, List.getD]
      rw [List.getElem?_append_right (by omega), List.getElem?_append_right (by simp)]
      simp
    · simp only [e, if_false, List.getD]
      by_cases h1 : j' < r.length
      · rw [List.getElem?_append_left h1]
      · rw [List.getElem?_append_right (by omega)]
        by_cases h2 : j' < j
        · rw [List.getElem?_append_left (by simp; omega)]
          simp [List.getElem?_replicate, List.getElem?_eq_none (Nat.le_of_not_lt h1)]
          split <;> rfl
        · rw [List.getElem?_append_right (by simp; omega)]
          rw [List.getElem?_eq_none (by simp; omega), List.getElem?_eq_none (Nat.le_of_not_lt h1)]

theorem rowCells_setPad (ks : List CK) : ∀ (j0 j : Nat) (r : List Int) (x : Int) (k : CK), ks[j]? = some k → rowCells ks j0 (setPad r (j0 + j) x) = (rowCells ks j0 r).set j (k.val x) := by
  intro j0 j r x k hk
  apply List.ext_getElem?
  intro j'
  rw [rowCells_get, List.getElem?_set, rowCells_length]
  have hj : j < ks.length := (List.getElem?_eq_some_iff.1 hk).1
  by_cases e : j = j'
  · subst e
    rw [hk]
    simp only [Option.map_some, setPad_getD, if_true, hj]
  · simp only [e, if_false]
    rw [rowCells_get]
    cases h : ks[j']? with
    | none => rfl
    | some k' =>
      simp only [Option.map_some, setPad_getD]
      rw [if_neg (by omega)]

theorem flatRows_setAt (ks : List CK) : ∀ (xs : List (List Int)) (i j : Nat) (x : Int) (k : CK), i < xs.length → ks[j]? = some k →
    flatRows ks (setAt xs (i : Int) j x) = (flatRows ks xs).set (i * ks.length + j) (k.val x) := by
  intro xs
  induction xs with
  | nil => intro i j x k hi; simp at hi
  | cons r rs ih =>
    intro i j x k hi hk
    have hj : j < ks.length := (List.getElem?_eq_some_iff.1 hk).1
    cases i with
    | zero =>
      simp only [setAt, Int.toNat_natCast, List.modify_zero_cons, flatRows, Nat.zero_mul, Nat.zero_add]
      have := rowCells_setPad ks 0 j r x k hk
      rw [Nat.zero_add] at this
      rw [this, List.set_append_left _ _ (by rw [rowCells_length]; exact hj)]
    | succ i =>
      have ih' := ih i j x k (by simpa using hi) hk
      simp only [setAt, Int.toNat_natCast] at ih' ⊢
      simp only [List.modify_succ_cons, flatRows, ih']
      have e : (i + 1) * ks.length + j = (rowCells ks 0 r).length + (i * ks.length + j) := by rw [rowCells_length, Nat.add_mul]; omega
      rw [e, List.set_append_right _ _ (by omega)]
      simp

theorem setAt_length (xs : List (List Int)) (i : Int) (j : Nat) (x : Int) : (setAt xs i j x).length = xs.length := by simp [setAt]

/-! ### New rows -/
/-- A new row in the place of those of 'st.rows' that are not in 'rows'. Its slice: v. -/
theorem newRow_sat {w0 w w' : World} {st : St} {a : Act} {key : Nat} {e : TypeId} {ks : List CK} {xs : List (List Int)} {rows : List Row} {dst : Option Tmp} {sl : Option Addr × Nat × Nat} {row : Option Nat} {G : BE}
    (h : Sat w0 env ph st a w) (hGa : G.all st.has = true) (hGt : G.den env = true) (hfree : st.free key 1 = true) (hks : 0 < ks.length) (hsub : ∀ r ∈ rows, r ∈ st.rows) (hg : w.grownBy w' row) (hrow : ∀ k, row = some k → w0.heap.size ≤ k)
    (hblk : ∀ b ∈ st.blks, row ≠ some (ph.r b.id)) (hrows : ∀ r ∈ rows, r.g.den env = true → ∀ k, r.foot env ph = some k → row ≠ some k)
    (hown : w'.ownsRow w0.heap.size e ks.length (.slice sl.1 sl.2.1 sl.2.2) xs.length (flatRows ks xs)) (hnew : (Value.slice sl.1 sl.2.1 sl.2.2).ownBlock = row ∨ (Value.slice sl.1 sl.2.1 sl.2.2).ownBlock = some w.heap.size ∨ (Value.slice sl.1 sl.2.1 sl.2.2).ownBlock = none) :
    Step w0 env (env.set key (.l xs)) ph (ph.setV key sl) st ({ st.claim key 1 with rows := insRow ⟨key, e, ks, key, true, G⟩ rows }.put dst ⟨G, .v (.one (.s key))⟩)
      (a.put dst (.slice sl.1 sl.2.1 sl.2.2)) w w' row := by
  have hkey : st.has key = false := free_not_has hfree (Nat.le_refl _) (by omega)
  have hne : ∀ k, st.has k = true → k ≠ key := fun k hk e => by rw [e, hkey] at hk; cases hk
  have hag : Agree st.has env (env.set key (.l xs)) ph (ph.setV key sl) := ⟨fun k hk => by simp [Env.set, hne k hk], fun _ _ => rfl, fun k hk => by simp [Ph.setV, hne k hk]⟩
  have hs' := h.congr hag
  have hmono : ∀ k, st.has k = true → (st.claim key 1).has k = true := fun k hk => has_mono hk
  have hrid : ∀ r ∈ st.rows, r.id ≠ key := fun r hr => by
    have := h.names.rows r hr
    simp only [Row.all, Bool.and_eq_true] at this
    exact hne _ this.1
  have hrid' : ∀ r ∈ rows, r.id ≠ key := fun r hr => hrid r (hsub r hr)
  have hfoot : ∀ r ∈ st.rows, r.foot (env.set key (.l xs)) (ph.setV key sl) = r.foot env ph := fun r hr => by
    have := h.names.rows r hr
    simp only [Row.all, Bool.and_eq_true] at this
    unfold Row.foot
    simp only [Ph.val, Ph.setV, hne _ this.1, if_false, Env.set, hne _ this.2.1]
  have hgden : ∀ r ∈ st.rows, r.g.den (env.set key (.l xs)) = r.g.den env := fun r hr => by
    have := h.names.rows r hr
    simp only [Row.all, Bool.and_eq_true] at this
    exact (BE.den_congr hag.e this.2.2).symm
  have hval : (ph.setV key sl).val key = .slice sl.1 sl.2.1 sl.2.2 := by simp [Ph.val, Ph.setV]
  -- the new row's block is nobody else's
  have hfree' : ∀ k, (Value.slice sl.1 sl.2.1 sl.2.2).ownBlock = some k → (∀ b ∈ st.blks, ph.r b.id ≠ k) ∧ (∀ r ∈ rows, r.g.den env = true → r.foot env ph ≠ some k) := by
    intro k hk
    rcases hnew with e | e | e
    · rw [hk] at e
      exact ⟨fun b hb he => hblk b hb (by rw [← e, he]), fun r hr h1 hf => hrows r hr h1 k hf e.symm⟩
    · rw [hk] at e
      simp only [Option.some.injEq] at e
      refine ⟨fun b hb he => ?_, fun r hr h1 hf => ?_⟩
      · have := (h.mem.blk b hb).lt; omega
      · have := (h.mem.row r (hsub r hr) h1).foot_lt hf; omega
    · rw [hk] at e; cases e
  refine ⟨⟨?_, ?_, h.below.grown hg h.below.size hrow, by rw [act_put_defers]; exact h.defers, ?_⟩, hag, hg, fun k hk => by rw [has_put]; exact hmono k hk⟩
  · refine put_ok (st := { st.claim key 1 with rows := insRow ⟨key, e, ks, key, true, G⟩ rows }) hs'.tmps ?_
    have hGt' : G.den (env.set key (.l xs)) = true := by rw [← BE.den_congr hag.e hGa]; exact hGt
    simp [Slot.den, hGt', SV.den, V1.den, Leaf.den, hval]
  · rw [put_blks, put_rows]
    refine ⟨fun b hb => (hs'.mem.blk b hb).grown hg (fun e => hblk b hb e.symm), hs'.mem.bb, fun r hr h1 => ?_, fun b hb r hr h1 => ?_, fun r hr r' hr' hid ho h1 h2 => ?_⟩
    · rcases mem_insRow.1 hr with rfl | hr
      · refine ⟨hks, ?_⟩
        simp only [if_true, hval, Env.set, DV.list]
        exact hown
      · have hr0 := hsub r hr
        rw [hgden r hr0] at h1
        exact (hs'.mem.row r hr0 (by rw [hgden r hr0]; exact h1)).grown hg (fun k hk e => by
          rw [hfoot r hr0] at hk
          exact hrows r hr h1 k hk e.symm)
    · rcases mem_insRow.1 hr with rfl | hr
      · intro hk
        simp only [Row.foot, Bool.true_or, if_true, hval] at hk
        exact (hfree' _ hk).1 b hb rfl
      · exact hs'.mem.br b hb r (hsub r hr) h1
    · rcases mem_insRow.1 hr with rfl | hr <;> rcases mem_insRow.1 hr' with rfl | hr'
      · exact absurd rfl hid
      · intro k hk hk'
        simp only [Row.foot, Bool.true_or, if_true, hval] at hk
        rw [hfoot r' (hsub r' hr')] at hk'
        rw [hgden r' (hsub r' hr')] at h2
        exact (hfree' k hk).2 r' hr' h2 hk'
      · intro k hk hk'
        simp only [Row.foot, Bool.true_or, if_true, hval] at hk'
        rw [hfoot r (hsub r hr)] at hk
        rw [hgden r (hsub r hr)] at h1
        exact (hfree' k hk').2 r hr h1 hk
      · exact hs'.mem.rr r (hsub r hr) r' (hsub r' hr') hid ho h1 h2
  · refine ⟨?_, ?_, ?_⟩
    · refine put_known (st := { st.claim key 1 with rows := insRow ⟨key, e, ks, key, true, G⟩ rows }) (fun t s ht => Slot.all_mono hmono (h.names.tmps t s ht)) ?_
      simp only [Slot.all, SV.all, V1.all, Leaf.all, Bool.and_eq_true]
      have : (st.claim key 1).has key = true := has_new (Nat.le_refl _) (by omega)
      exact ⟨BE.all_mono hmono hGa, this⟩
    · rw [put_blks, has_put]
      exact fun b hb => Blk.all_mono hmono (h.names.blks b hb)
    · rw [put_rows, has_put]
      intro r hr
      rcases mem_insRow.1 hr with rfl | hr
      · simp only [Row.all, Bool.and_eq_true]
        have : (st.claim key 1).has key = true := has_new (Nat.le_refl _) (by omega)
        exact ⟨this, this, BE.all_mono hmono hGa⟩
      · exact Row.all_mono hmono (h.names.rows r (hsub r hr))

/-- A row that is not made. -/
theorem norow_sat {w0 w : World} {st : St} {a : Act} {key : Nat} {e : TypeId} {ks : List CK} {xs : List (List Int)} {dst : Option Tmp} {G : BE}
    (h : Sat w0 env ph st a w) (hGa : G.all st.has = true) (hGf : G.den env = false) (hfree : st.free key 1 = true) :
    Step w0 env (env.set key (.l xs)) ph ph st ({ st.claim key 1 with rows := insRow ⟨key, e, ks, key, true, G⟩ st.rows }.put dst ⟨G, .v (.one (.s key))⟩) (a.put dst undef) w w none := by
  have hkey : st.has key = false := free_not_has hfree (Nat.le_refl _) (by omega)
  have hne : ∀ k, st.has k = true → k ≠ key := fun k hk e => by rw [e, hkey] at hk; cases hk
  have hag : Agree st.has env (env.set key (.l xs)) ph ph := ⟨fun k hk => by simp [Env.set, hne k hk], fun _ _ => rfl, fun k hk => rfl⟩
  have hs' := h.congr hag
  have hmono : ∀ k, st.has k = true → (st.claim key 1).has k = true := fun k hk => has_mono hk
  have hG' : G.den (env.set key (.l xs)) = false := by rw [← BE.den_congr hag.e hGa]; exact hGf
  have hnew : (st.claim key 1).has key = true := has_new (Nat.le_refl _) (by omega)
  refine ⟨⟨?_, ?_, h.below, by rw [act_put_defers]; exact h.defers, ?_⟩, hag, grownBy_refl w, fun k hk => by rw [has_put]; exact hmono k hk⟩
  · refine put_ok (st := { st.claim key 1 with rows := insRow ⟨key, e, ks, key, true, G⟩ st.rows }) hs'.tmps ?_
    simp only [Slot.den, hG']
    rfl
  · rw [put_blks, put_rows]
    have hk := hs'.mem
    have ho : ∀ r ∈ insRow ⟨key, e, ks, key, true, G⟩ st.rows, r.g.den (env.set key (.l xs)) = true → r ∈ st.rows := fun r hr h1 => by
      rcases mem_insRow.1 hr with rfl | hr
      · rw [hG'] at h1; cases h1
      · exact hr
    exact ⟨hk.blk, hk.bb, fun r hr h1 => hk.row r (ho r hr h1) h1, fun b hb r hr h1 => hk.br b hb r (ho r hr h1) h1, fun r hr r' hr' hne hw h1 h2 => hk.rr r (ho r hr h1) r' (ho r' hr' h2) hne hw h1 h2⟩
  · refine ⟨?_, ?_, ?_⟩
    · refine put_known (st := { st.claim key 1 with rows := insRow ⟨key, e, ks, key, true, G⟩ st.rows }) (fun t s ht => Slot.all_mono hmono (h.names.tmps t s ht)) ?_
      simp only [Slot.all, SV.all, V1.all, Leaf.all, Bool.and_eq_true]
      exact ⟨BE.all_mono hmono hGa, hnew⟩
    · rw [put_blks, has_put]
      exact fun b hb => Blk.all_mono hmono (h.names.blks b hb)
    · rw [put_rows, has_put]
      intro r hr
      rcases mem_insRow.1 hr with rfl | hr
      · simp only [Row.all, Bool.and_eq_true]
        exact ⟨hnew, hnew, BE.all_mono hmono hGa⟩
      · exact Row.all_mono hmono (h.names.rows r hr)

end Go.Sx

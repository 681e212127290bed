/- The symbolic executor: what changes in memory. -/
import Derived.Test.YtjcomklheilfjaaSxC5
set_option linter.unusedVariables false
set_option linter.unusedSimpArgs false
namespace Go.Sx
open Go.RowKit

variable {env : Env} {ph : Ph} {P : Program}

/-! ### A world that has grown, one block of it changed at the most -/
theorem Reads.grown {w w' : World} {v : Value} {n : Nat} {cells : List Value} {row : Option Nat} (h : Reads w v n cells) (hg : w.grownBy w' row) (hne : cells ≠ [] → ∀ k, v.ownBlock = some k → some k ≠ row) : Reads w' v n cells := by
  obtain ⟨base, cap, rfl, hn, h0, hc⟩ := h
  refine ⟨base, cap, rfl, hn, h0, fun j u hj => ?_⟩
  obtain ⟨a, rfl, ha⟩ := hc j u hj
  refine ⟨a, rfl, ?_⟩
  have hblk : (a.add j).block = a.block := by unfold Addr.add; split <;> rfl
  exact hg.cell ha (by rw [hblk]; exact hne (by intro e; rw [e] at hj; simp at hj) _ (by simp [Value.ownBlock]))

theorem ownsRow_grown {w w' : World} {B : Nat} {e : TypeId} {sz : Nat} {v : Value} {n : Nat} {xs : List Value} {row : Option Nat} (h : w.ownsRow B e sz v n xs) (hg : w.grownBy w' row) (hne : ∀ k, v.ownBlock = some k → some k ≠ row) : w'.ownsRow B e sz v n xs :=
  h.kept hg (by
    cases hv : v.ownBlock with
    | none => exact .inl rfl
    | some k => exact .inr (hne k hv))

theorem RowOk.grown {B : Nat} {r : Row} {w w' : World} {row : Option Nat} (h : RowOk B env ph r w) (hg : w.grownBy w' row) (hne : ∀ k, r.foot env ph = some k → some k ≠ row) : RowOk B env ph r w' := by
  obtain ⟨h0, h⟩ := h
  refine ⟨h0, ?_⟩
  split at h
  · rename_i ho; rw [if_pos ho]; exact ownsRow_grown h hg (fun k hk => hne k (by simp [Row.foot, ho, hk]))
  · rename_i ho; rw [if_neg ho]; exact h.grown hg (fun hc k hk => hne k (by
      have : (env r.lv).list.length ≠ 0 := fun e => hc (List.eq_nil_of_length_eq_zero (by rw [flatRows_length, e, Nat.zero_mul]))
      simp [Row.foot, this, hk]))

theorem BlkOk.lt {B : Nat} {b : Blk} {w : World} (h : BlkOk B env ph b w) : ph.r b.id < w.heap.size := (Array.getElem?_eq_some_iff.1 h.2).1

theorem BlkOk.grown {B : Nat} {b : Blk} {w w' : World} {row : Option Nat} (h : BlkOk B env ph b w) (hg : w.grownBy w' row) (hne : some (ph.r b.id) ≠ row) : BlkOk B env ph b w' :=
  ⟨h.1, by rw [hg.block _ h.lt hne]; exact h.2⟩

/-- Nothing that the state names has changed. -/
theorem MemOk.grown {B : Nat} {blks : List Blk} {rows : List Row} {w w' : World} (h : MemOk B env ph blks rows w) (hg : w.grownBy w' none) : MemOk B env ph blks rows w' :=
  ⟨fun b hb => (h.blk b hb).grown hg (by simp), h.bb, fun r hr h1 => (h.row r hr h1).grown hg (by simp), h.br, h.rr⟩

theorem grownBy_refl (w : World) : w.grownBy w none := ⟨rfl, rfl, rfl, Nat.le_refl _, fun _ _ _ => rfl⟩
theorem grownBy_of_below {w w' : World} (h : Below w.heap.size w w') : w.grownBy w' none := ⟨h.os, h.tape, h.output, h.size, fun k hk _ => h.block k hk⟩
theorem grownBy_trans {a b c : World} {row : Option Nat} (h : a.grownBy b row) (k : b.grownBy c row) : a.grownBy c row :=
  ⟨k.os.trans h.os, k.tape.trans h.tape, k.output.trans h.output, Nat.le_trans h.size k.size, fun i hi hne => (k.block i (Nat.lt_of_lt_of_le hi h.size) hne).trans (h.block i hi hne)⟩
theorem grownBy_wide {a b : World} {row : Option Nat} (h : a.grownBy b none) : a.grownBy b row := ⟨h.os, h.tape, h.output, h.size, fun i hi _ => h.block i hi (by simp)⟩

/-! ### Names -/
theorem insDom_any {q : Nat × Nat → Bool} {d : Nat × Nat} : ∀ {l : List (Nat × Nat)}, (insDom d l).any q = (q d || l.any q) := by
  intro l
  induction l with
  | nil => simp [insDom]
  | cons x l ih =>
    simp only [insDom]
    split
    · simp
    · simp only [List.any_cons, ih]
      cases q x <;> cases q d <;> simp

theorem has_claim {st : St} {a n k : Nat} : (st.claim a n).has k = (st.has k || (decide (a ≤ k) && decide (k < a + n))) := by
  show (decide (k < st.next) || (insDom (a, a + n) st.dom).any _) = _
  rw [insDom_any]
  show (decide (k < st.next) || (_ || _)) = ((decide (k < st.next) || _) || _)
  rw [Bool.or_assoc, Bool.or_comm (decide (a ≤ k) && decide (k < a + n))]

theorem has_mono {st : St} {a n k : Nat} (h : st.has k = true) : (st.claim a n).has k = true := by rw [has_claim, h]; rfl
theorem has_new {st : St} {a n k : Nat} (h1 : a ≤ k) (h2 : k < a + n) : (st.claim a n).has k = true := by rw [has_claim]; simp [h1, h2]

theorem free_not_has {st : St} {a n k : Nat} (h : st.free a n = true) (h1 : a ≤ k) (h2 : k < a + n) : st.has k = false := by
  simp only [St.free, Bool.and_eq_true, decide_eq_true_eq, List.all_eq_true, Bool.or_eq_true] at h
  simp only [St.has, Bool.or_eq_false_iff, decide_eq_false_iff_not, List.any_eq_false, Bool.and_eq_true, decide_eq_true_eq, not_and]
  refine ⟨by omega, fun d hd h3 => ?_⟩
  have := h.2 d hd
  omega

theorem IE.all_mono {p q : Nat → Bool} (h : ∀ k, p k = true → q k = true) : ∀ {e : IE}, e.all p = true → e.all q = true := by
  intro e
  induction e with
  | v k => simp only [IE.all]; exact h k
  | c n => simp [IE.all]
  | len k => simp only [IE.all]; exact h k
  | get k i j ih => simp only [IE.all, Bool.and_eq_true]; exact fun ha => ⟨h k ha.1, ih ha.2⟩
  | ifeq i n a b ih1 ih2 ih3 => simp only [IE.all, Bool.and_eq_true]; exact fun ha => ⟨ih1 ha.1, ih2 ha.2.1, ih3 ha.2.2⟩
  | ediv a n ih => simp only [IE.all]; exact ih
  | emod a n ih => simp only [IE.all]; exact ih
  | wrap k a ih => simp only [IE.all]; exact ih
  | bits op k a b ih1 ih2 => simp only [IE.all, Bool.and_eq_true]; exact fun ha => ⟨ih1 ha.1, ih2 ha.2⟩
  | _ a b ih1 ih2 => simp only [IE.all, Bool.and_eq_true]; exact fun ha => ⟨ih1 ha.1, ih2 ha.2⟩
theorem BE.all_mono {p q : Nat → Bool} (h : ∀ k, p k = true → q k = true) : ∀ {e : BE}, e.all p = true → e.all q = true := by
  intro e
  induction e with
  | v k => simp only [BE.all]; exact h k
  | c n => simp [BE.all]
  | not a ih => simp only [BE.all]; exact ih
  | ne0 a => simp only [BE.all]; exact IE.all_mono h
  | and a b ih1 ih2 => simp only [BE.all, Bool.and_eq_true]; exact fun ha => ⟨ih1 ha.1, ih2 ha.2⟩
  | or a b ih1 ih2 => simp only [BE.all, Bool.and_eq_true]; exact fun ha => ⟨ih1 ha.1, ih2 ha.2⟩
  | iff a b ih1 ih2 => simp only [BE.all, Bool.and_eq_true]; exact fun ha => ⟨ih1 ha.1, ih2 ha.2⟩
  | _ a b => simp only [BE.all, Bool.and_eq_true]; exact fun ha => ⟨IE.all_mono h ha.1, IE.all_mono h ha.2⟩
theorem Leaf.all_mono {p q : Nat → Bool} (h : ∀ k, p k = true → q k = true) {l : Leaf} (ha : l.all p = true) : l.all q = true := by
  cases l <;> simp only [Leaf.all, Bool.and_eq_true] at ha ⊢
  · exact IE.all_mono h ha
  · exact BE.all_mono h ha
  · exact h _ ha
  · exact ⟨h _ ha.1, IE.all_mono h ha.2⟩
  · exact ⟨h _ ha.1, IE.all_mono h ha.2⟩
  · exact h _ ha
  · simp only [List.all_eq_true] at ha ⊢
    exact fun c hc => h _ (ha c hc)
theorem leavesAll_mono {p q : Nat → Bool} (h : ∀ k, p k = true → q k = true) : ∀ {ls : List Leaf}, leavesAll p ls = true → leavesAll q ls = true := by
  intro ls
  induction ls with
  | nil => intro _; rfl
  | cons l ls ih => simp only [leavesAll, Bool.and_eq_true]; exact fun ha => ⟨Leaf.all_mono h ha.1, ih ha.2⟩
theorem V1.all_mono {p q : Nat → Bool} (h : ∀ k, p k = true → q k = true) {v : V1} (ha : v.all p = true) : v.all q = true := by
  cases v with
  | one l => exact Leaf.all_mono h ha
  | agg ls => exact leavesAll_mono h ha
theorem v1sAll_mono {p q : Nat → Bool} (h : ∀ k, p k = true → q k = true) : ∀ {ls : List V1}, v1sAll p ls = true → v1sAll q ls = true := by
  intro ls
  induction ls with
  | nil => intro _; rfl
  | cons l ls ih => simp only [v1sAll, Bool.and_eq_true]; exact fun ha => ⟨V1.all_mono h ha.1, ih ha.2⟩
theorem Slot.all_mono {p q : Nat → Bool} (h : ∀ k, p k = true → q k = true) {s : Slot} (ha : s.all p = true) : s.all q = true := by
  simp only [Slot.all, Bool.and_eq_true] at ha ⊢
  refine ⟨BE.all_mono h ha.1, ?_⟩
  cases hs : s.sv with
  | v x => rw [hs] at ha; exact V1.all_mono h ha.2
  | tup xs => rw [hs] at ha; exact v1sAll_mono h ha.2
theorem Blk.all_mono {p q : Nat → Bool} (h : ∀ k, p k = true → q k = true) {b : Blk} (ha : b.all p = true) : b.all q = true := by
  simp only [Blk.all, Bool.and_eq_true] at ha ⊢
  exact ⟨h _ ha.1, leavesAll_mono h ha.2⟩
theorem Row.all_mono {p q : Nat → Bool} (h : ∀ k, p k = true → q k = true) {r : Row} (ha : r.all p = true) : r.all q = true := by
  simp only [Row.all, Bool.and_eq_true] at ha ⊢
  exact ⟨h _ ha.1, h _ ha.2.1, BE.all_mono h ha.2.2⟩

/-! ### Writing a slot -/
theorem has_put {st : St} {dst : Option Tmp} {s : Slot} : (st.put dst s).has = st.has := by
  cases dst <;> rfl
theorem put_blks {st : St} {dst : Option Tmp} {s : Slot} : (st.put dst s).blks = st.blks := by cases dst <;> rfl
theorem put_rows {st : St} {dst : Option Tmp} {s : Slot} : (st.put dst s).rows = st.rows := by cases dst <;> rfl

theorem TmpsOk.put {ts : List (Option Slot)} {tmps : Array Value} (h : TmpsOk env ph ts tmps) (d : Nat) (s : Slot) : TmpsOk env ph (ts.set d (some s)) (tmps.setIfInBounds d (s.den env ph)) := by
  refine ⟨by simpa using h.1, fun t s' ht => ?_⟩
  rw [List.getElem?_set] at ht
  rw [Array.getElem?_setIfInBounds]
  by_cases hd : d = t
  · subst hd
    simp only [if_true] at ht ⊢
    split at ht
    · rename_i hlt
      simp only [Option.some.injEq] at ht
      subst ht
      rw [if_pos (by rw [← h.1]; exact hlt)]
    · cases ht
  · simp only [hd, if_false] at ht ⊢
    exact h.2 t s' ht

theorem put_ok {st : St} {a : Act} {dst : Option Tmp} {s : Slot} {v : Value} (h : TmpsOk env ph st.tmps a.tmps) (hv : v = s.den env ph) : TmpsOk env ph (st.put dst s).tmps (a.put dst v).tmps := by
  subst hv
  cases dst with
  | none => exact h
  | some d => exact h.put d s

theorem put_known {st : St} {dst : Option Tmp} {s : Slot} (h : ∀ (t : Nat) (s : Slot), st.tmps[t]? = some (some s) → s.all st.has = true) (hs : s.all st.has = true) :
    ∀ (t : Nat) (s' : Slot), (st.put dst s).tmps[t]? = some (some s') → s'.all (st.put dst s).has = true := by
  intro t s' ht
  rw [has_put]
  cases dst with
  | none => exact h t s' ht
  | some d =>
    simp only [St.put] at ht
    rw [List.getElem?_set] at ht
    split at ht
    · split at ht
      · simp only [Option.some.injEq] at ht; subst ht; exact hs
      · cases ht
    · exact h t s' ht

theorem act_put_defers {a : Act} {dst : Option Tmp} {v : Value} : (a.put dst v).defers = a.defers := by cases dst <;> rfl

/-- A quiet operation's slot is written. -/
theorem Sat.put {w0 w : World} {st : St} {a : Act} {dst : Option Tmp} {s : Slot} {v : Value} (h : Sat w0 env ph st a w) (hs : s.all st.has = true) (hv : v = s.den env ph) : Sat w0 env ph (st.put dst s) (a.put dst v) w :=
  ⟨put_ok h.tmps hv, by rw [put_blks, put_rows]; exact h.mem, h.below, by rw [act_put_defers]; exact h.defers,
    ⟨put_known h.names.tmps hs, by rw [put_blks, has_put]; exact h.names.blks, by rw [put_rows, has_put]; exact h.names.rows⟩⟩

theorem noSlot_den : noSlot.den env ph = undef := rfl
theorem noSlot_all {p : Nat → Bool} : noSlot.all p = true := rfl

end Go.Sx

/- The symbolic executor: states and worlds. -/
import Derived.Test.YtjcomklheilfjaaSxA
set_option linter.unusedVariables false
namespace Go.Sx
open Go.RowKit

/-! ### Rows of numbers and bools, as cells -/
def CK.val : CK → Int → Value
  | .i k, n => .int k n
  | .b, n => .bool (decide (n ≠ 0))

def rowCells : List CK → Nat → List Int → List Value
  | [], _, _ => []
  | k :: ks, j, r => k.val (r.getD j 0) :: rowCells ks (j + 1) r

def flatRows (ks : List CK) : List (List Int) → List Value
  | [] => []
  | r :: rs => rowCells ks 0 r ++ flatRows ks rs

theorem rowCells_length (ks : List CK) : ∀ j r, (rowCells ks j r).length = ks.length := by
  induction ks with
  | nil => intro j r; rfl
  | cons k ks ih => intro j r; simp [rowCells, ih]

theorem rowCells_get (ks : List CK) : ∀ (j0 : Nat) (r : List Int) (j : Nat), (rowCells ks j0 r)[j]? = (ks[j]?).map fun k => k.val (r.getD (j0 + j) 0) := by
  induction ks with
  | nil => intro j0 r j; simp [rowCells]
  | cons k ks ih =>
    intro j0 r j
    cases j with
    | zero => simp [rowCells]
    | succ j =>
      simp only [rowCells, List.getElem?_cons_succ, ih]
      rw [show j0 + 1 + j = j0 + (j + 1) by omega]

theorem flatRows_length (ks : List CK) (xs : List (List Int)) : (flatRows ks xs).length = xs.length * ks.length := by
  induction xs with
  | nil => simp [flatRows]
  | cons r rs ih => simp [flatRows, rowCells_length, ih, Nat.add_mul, Nat.add_comm]

theorem flatRows_append (ks : List CK) (xs ys : List (List Int)) : flatRows ks (xs ++ ys) = flatRows ks xs ++ flatRows ks ys := by
  induction xs with
  | nil => rfl
  | cons r rs ih => simp [flatRows, ih]

theorem flatRows_get (ks : List CK) : ∀ (xs : List (List Int)) (i j : Nat), i < xs.length → j < ks.length →
    (flatRows ks xs)[i * ks.length + j]? = (ks[j]?).map fun k => k.val ((xs.getD i []).getD j 0) := by
  intro xs
  induction xs with
  | nil => intro i j hi; simp at hi
  | cons r rs ih =>
    intro i j hi hj
    cases i with
    | zero =>
      simp only [flatRows, Nat.zero_mul, Nat.zero_add]
      rw [List.getElem?_append_left (by rw [rowCells_length]; exact hj), rowCells_get]
      simp
    | succ i =>
      simp only [flatRows]
      rw [List.getElem?_append_right (by rw [rowCells_length, Nat.add_mul]; omega), rowCells_length]
      have e : (i + 1) * ks.length + j - ks.length = i * ks.length + j := by rw [Nat.add_mul]; omega
      rw [e, ih i j (by simpa using hi) hj]
      simp

theorem CK.val_oneCell (k : CK) (n : Int) : (k.val n).oneCell' = true := by cases k <;> rfl
theorem flatRows_oneCell (ks : List CK) (xs : List (List Int)) : ∀ u ∈ flatRows ks xs, u.oneCell' = true := by
  have hrow : ∀ (ks : List CK) j r, ∀ u ∈ rowCells ks j r, u.oneCell' = true := by
    intro ks
    induction ks with
    | nil => intro j r u hu; simp [rowCells] at hu
    | cons k ks ih =>
      intro j r u hu
      simp only [rowCells, List.mem_cons] at hu
      rcases hu with rfl | hu
      · exact CK.val_oneCell _ _
      · exact ih _ _ u hu
  induction xs with
  | nil => intro u hu; simp [flatRows] at hu
  | cons r rs ih =>
    intro u hu
    simp only [flatRows, List.mem_append] at hu
    rcases hu with hu | hu
    · exact hrow _ _ _ u hu
    · exact ih u hu

/-- A slice that reads as these cells. -/
def Reads (w : World) (v : Value) (n : Nat) (cells : List Value) : Prop :=
  ∃ base cap, v = .slice base n cap ∧ n ≤ maxLen ∧ (base = none → n = 0 ∧ cap = 0) ∧ ∀ j u, cells[j]? = some u → ∃ a, base = some a ∧ w.cell? (a.add j) = some u

theorem reads_of_owns {w : World} {B : Nat} {e : TypeId} {sz : Nat} {v : Value} {n : Nat} {xs : List Value} (h : w.ownsRow B e sz v n xs) : Reads w v n xs := by
  have h' := h
  obtain ⟨hl, ⟨rfl, rfl⟩ | ⟨g, cap, cur, rfl, hg, hh, hn, hc, hs, ht⟩⟩ := h
  · refine ⟨none, 0, rfl, Nat.zero_le _, fun _ => ⟨rfl, rfl⟩, fun j u hj => ?_⟩
    rw [Nat.zero_mul] at hl
    rw [List.eq_nil_of_length_eq_zero hl] at hj
    simp at hj
  · refine ⟨some ⟨g, 0, none⟩, cap, rfl, Nat.le_trans hn hc, fun h => by simp at h, fun j u hj => ⟨_, rfl, ?_⟩⟩
    exact h'.cells (by simp [Value.ownBlock]) j u hj

/-! ### A row, a block, in a world -/
def RowOk (B : Nat) (env : Env) (ph : Ph) (r : Row) (w : World) : Prop :=
  0 < r.ks.length ∧
  (if r.own then w.ownsRow B r.e r.ks.length (ph.val r.id) (env r.lv).list.length (flatRows r.ks (env r.lv).list)
   else Reads w (ph.val r.id) (env r.lv).list.length (flatRows r.ks (env r.lv).list))

theorem RowOk.reads {B : Nat} {env : Env} {ph : Ph} {r : Row} {w : World} (h : RowOk B env ph r w) :
    Reads w (ph.val r.id) (env r.lv).list.length (flatRows r.ks (env r.lv).list) := by
  obtain ⟨_, h⟩ := h
  split at h
  · exact reads_of_owns h
  · exact h

/-- The block that a row's cells lie in, if it has any. -/
def Row.foot (env : Env) (ph : Ph) (r : Row) : Option Nat := if r.own || decide ((env r.lv).list.length ≠ 0) then (ph.val r.id).ownBlock else none

theorem RowOk.foot_lt {B : Nat} {env : Env} {ph : Ph} {r : Row} {w : World} (h : RowOk B env ph r w) {k : Nat} (hk : r.foot env ph = some k) : k < w.heap.size := by
  obtain ⟨h0, h⟩ := h
  unfold Row.foot at hk
  split at hk
  · rename_i hc
    split at h
    · exact (h.lt k hk).2
    · rename_i ho
      have hne : (env r.lv).list.length ≠ 0 := by simpa [ho] using hc
      obtain ⟨base, cap, hv, _, _, hcs⟩ := h
      have hl := flatRows_length r.ks (env r.lv).list
      have hpos : 0 < (flatRows r.ks (env r.lv).list).length := by rw [hl]; exact Nat.mul_pos (by omega) h0
      obtain ⟨a, rfl, ha⟩ := hcs 0 _ (List.getElem?_eq_getElem hpos)
      rw [hv] at hk
      simp only [Value.ownBlock, Option.some.injEq] at hk
      have := World.block_lt_of_cell? w (a.add 0) ha
      rw [Addr.add_zero'] at this
      omega
  · cases hk

def BlkOk (B : Nat) (env : Env) (ph : Ph) (b : Blk) (w : World) : Prop :=
  B ≤ ph.r b.id ∧ w.heap[ph.r b.id]? = some (.cells (b.cells.map (Leaf.den env ph)).toArray b.ty (0, 0))

structure MemOk (B : Nat) (env : Env) (ph : Ph) (blks : List Blk) (rows : List Row) (w : World) : Prop where
  blk : ∀ b ∈ blks, BlkOk B env ph b w
  bb : ∀ b ∈ blks, ∀ b' ∈ blks, b.id ≠ b'.id → ph.r b.id ≠ ph.r b'.id
  row : ∀ r ∈ rows, r.g.den env = true → RowOk B env ph r w
  br : ∀ b ∈ blks, ∀ r ∈ rows, r.g.den env = true → r.foot env ph ≠ some (ph.r b.id)
  rr : ∀ r ∈ rows, ∀ r' ∈ rows, r.id ≠ r'.id → r.own = true → r.g.den env = true → r'.g.den env = true → ∀ k, r.foot env ph = some k → r'.foot env ph ≠ some k

def TmpsOk (env : Env) (ph : Ph) (ts : List (Option Slot)) (tmps : Array Value) : Prop :=
  ts.length = tmps.size ∧ ∀ (t : Nat) (s : Slot), ts[t]? = some (some s) → tmps[t]? = some (s.den env ph)

/-- Every name in a state has been given. -/
structure Scoped (st : St) : Prop where
  tmps : ∀ (t : Nat) (s : Slot), st.tmps[t]? = some (some s) → s.all st.has = true
  blks : ∀ b ∈ st.blks, b.all st.has = true
  rows : ∀ r ∈ st.rows, r.all st.has = true

structure Sat (w0 : World) (env : Env) (ph : Ph) (st : St) (a : Act) (w : World) : Prop where
  tmps : TmpsOk env ph st.tmps a.tmps
  mem : MemOk w0.heap.size env ph st.blks st.rows w
  below : Below w0.heap.size w0 w
  defers : a.defers = []
  names : Scoped st

/-- The very same under other names for what has not been given yet. -/
theorem MemOk.congr {B : Nat} {p : Nat → Bool} {env env' : Env} {ph ph' : Ph} (hg : Agree p env env' ph ph') {blks : List Blk} {rows : List Row} {w : World}
    (hb : ∀ b ∈ blks, b.all p = true) (hr : ∀ r ∈ rows, r.all p = true) (h : MemOk B env ph blks rows w) : MemOk B env' ph' blks rows w := by
  have eb : ∀ b ∈ blks, ph.r b.id = ph'.r b.id ∧ b.cells.map (Leaf.den env ph) = b.cells.map (Leaf.den env' ph') := fun b hm => by
    have := hb b hm
    simp only [Blk.all, Bool.and_eq_true] at this
    exact ⟨hg.r _ this.1, leaves_congr hg this.2⟩
  have er : ∀ r ∈ rows, ph.val r.id = ph'.val r.id ∧ env r.lv = env' r.lv ∧ r.g.den env = r.g.den env' := fun r hm => by
    have := hr r hm
    simp only [Row.all, Bool.and_eq_true] at this
    exact ⟨by simp only [Ph.val, hg.v _ this.1], hg.e _ this.2.1, BE.den_congr hg.e this.2.2⟩
  refine ⟨fun b hm => ?_, fun b hm b' hm' hne => ?_, fun r hm h1 => ?_, fun b hm r hm' h1 => ?_, fun r hm r' hm' hne ho h1 h2 => ?_⟩
  · have := h.blk b hm
    unfold BlkOk at *
    rw [← (eb b hm).1, ← (eb b hm).2]
    exact this
  · rw [← (eb b hm).1, ← (eb b' hm').1]; exact h.bb b hm b' hm' hne
  · obtain ⟨e1, e2, e3⟩ := er r hm
    have := h.row r hm (by rw [e3]; exact h1)
    unfold RowOk at *
    rw [← e1, ← e2]
    exact this
  · obtain ⟨e1, e2, e3⟩ := er r hm'
    have := h.br b hm r hm' (by rw [e3]; exact h1)
    unfold Row.foot at *
    rw [← e1, ← e2, ← (eb b hm).1]
    exact this
  · obtain ⟨e1, e2, e3⟩ := er r hm
    obtain ⟨f1, f2, f3⟩ := er r' hm'
    have hf : r.foot env' ph' = r.foot env ph := by unfold Row.foot; rw [e1, e2]
    have hf' : r'.foot env' ph' = r'.foot env ph := by unfold Row.foot; rw [f1, f2]
    rw [hf, hf']
    exact h.rr r hm r' hm' hne ho (by rw [e3]; exact h1) (by rw [f3]; exact h2)

theorem Sat.congr {w0 : World} {env env' : Env} {ph ph' : Ph} {st : St} {a : Act} {w : World} (h : Sat w0 env ph st a w) (hg : Agree st.has env env' ph ph') : Sat w0 env' ph' st a w := by
  refine ⟨⟨h.tmps.1, fun t s ht => ?_⟩, h.mem.congr hg h.names.blks h.names.rows, h.below, h.defers, h.names⟩
  rw [← Slot.den_congr hg (h.names.tmps t s ht)]
  exact h.tmps.2 t s ht

/-- Every block that a state names is there. -/
theorem MemOk.lt_blk {B : Nat} {env : Env} {ph : Ph} {blks : List Blk} {rows : List Row} {w : World} (h : MemOk B env ph blks rows w) {b : Blk} (hm : b ∈ blks) : ph.r b.id < w.heap.size := by
  have := (h.blk b hm).2
  exact (Array.getElem?_eq_some_iff.1 this).1

end Go.Sx

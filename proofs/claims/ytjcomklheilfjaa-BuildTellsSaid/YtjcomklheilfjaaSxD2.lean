/- The symbolic executor: allocations, stores, new rows. -/
import Derived.Test.YtjcomklheilfjaaSxD1
set_option linter.unusedVariables false
set_option linter.unusedSimpArgs false
namespace Go.Sx
open Go.RowKit

variable {env : Env} {ph : Ph} {P : Program}

/-! ### Stores into an own block -/
theorem run_storeCells (g : Nat) (ty : TypeId) (off : Nat) : ∀ (vs : List Value) (i : Nat) (cur : List Value) (w : World), w.heap[g]? = some (.cells cur.toArray ty (0, 0)) → off + i + vs.length ≤ cur.length → (∀ v ∈ vs, v.oneCell' = true) →
    ∃ w', (storeCells ⟨g, off, none⟩ vs i).run P w = .ok () w' ∧ w.grownBy w' (some g) ∧ w'.heap[g]? = some (.cells ((vs.zipIdx i).foldl (fun cs (x : Value × Nat) => cs.set (off + x.2) x.1) cur).toArray ty (0, 0)) := by
  intro vs
  induction vs with
  | nil => intro i cur w hg _ _; exact ⟨w, rfl, grownBy_wide (grownBy_refl w), hg⟩
  | cons v vs ih =>
    intro i cur w hg hl h1
    simp only [List.length_cons] at hl
    have hlt : off + i < cur.length := by omega
    have hcell : w.cell? ⟨g, off + i, none⟩ = some cur[off + i] := by
      rw [cell_of_row w g _ _ _ _ hg]
      simp [hlt]
    have hfz := frozen_of_row w g (off + i) cur.toArray ty hg
    have hst : (store ((⟨g, off, none⟩ : Addr).add i) v).run P w = .ok () (w.setCell ⟨g, off + i, none⟩ v) := by
      rw [add_at, run_store P w _ v _ (h1 v (List.mem_cons_self ..))]
      simp [stored, hcell, hfz]
    have hg' : (w.setCell ⟨g, off + i, none⟩ v).heap[g]? = some (.cells (cur.set (off + i) v).toArray ty (0, 0)) := by
      have := heap_setCell_same w g (off + i) cur.toArray ty v hg
      rw [this]
      simp
    obtain ⟨w', hr, hgr, hh⟩ := ih (i + 1) (cur.set (off + i) v) (w.setCell ⟨g, off + i, none⟩ v) hg' (by simp; omega) (fun u hu => h1 u (List.mem_cons_of_mem _ hu))
    refine ⟨w', ?_, ?_, ?_⟩
    · simp only [storeCells, Sem.run_bind, hst, Result.andThen_ok, hr]
    · have h1' : w.grownBy (w.setCell ⟨g, off + i, none⟩ v) (some g) := ⟨rfl, rfl, rfl, by simp, fun k _ hk => heap_setCell_other w ⟨g, off + i, none⟩ k v (fun e => hk (by rw [e]))⟩
      exact grownBy_trans h1' hgr
    · simpa [List.zipIdx_cons] using hh

/-- A store's run, up to the block. -/
theorem run_storeAt {t : TypeId} {g off : Nat} {ty : TypeId} {v : V1} {cs : List Leaf} {w : World} (hs : v.leaves.length = P.cellsOf t) (hpos : 0 < P.cellsOf t) (hg : w.heap[g]? = some (.cells (cs.map (Leaf.den env ph)).toArray ty (0, 0)))
    (hl : off + v.leaves.length ≤ cs.length) :
    ∃ w', (Instr.storeAt t (.pointer (some ⟨g, off, none⟩)) (v.den env ph)).run P w = .ok () w' ∧ w.grownBy w' (some g) ∧ w'.heap[g]? = some (.cells ((putCells cs off v.leaves).map (Leaf.den env ph)).toArray ty (0, 0)) := by
  obtain ⟨w', hr, hgr, hh⟩ := run_storeCells (P := P) g ty off (v.leaves.map (Leaf.den env ph)) 0 (cs.map (Leaf.den env ph)) w hg (by simpa using hl) (fun u hu => by
    obtain ⟨l, _, rfl⟩ := List.mem_map.1 hu
    exact Leaf.den_oneCell l)
  refine ⟨w', ?_, hgr, by rw [hh, putCells_map]⟩
  simp only [Instr.storeAt, Instr.sureAddr, Sem.run_bind, Sem.run_pure, Result.andThen_ok, storeVar, run_sizeOf' hpos, V1.den_cells]
  rw [if_neg (by simp [hs])]
  simpa using hr

/-! ### Membership -/
theorem mem_insBlk {b x : Blk} : ∀ {l : List Blk}, b ∈ insBlk x l ↔ b = x ∨ b ∈ l := by
  intro l
  induction l with
  | nil => simp [insBlk]
  | cons y l ih =>
    simp only [insBlk]
    split
    · simp
    · simp only [List.mem_cons, ih]
      constructor
      · rintro (h | h | h) <;> simp [h]
      · rintro (h | h | h) <;> simp [h]
theorem mem_insRow {b x : Row} : ∀ {l : List Row}, b ∈ insRow x l ↔ b = x ∨ b ∈ l := by
  intro l
  induction l with
  | nil => simp [insRow]
  | cons y l ih =>
    simp only [insRow]
    split
    · simp
    · simp only [List.mem_cons, ih]
      constructor
      · rintro (h | h | h) <;> simp [h]
      · rintro (h | h | h) <;> simp [h]

/-! ### A step's outcome -/
/-- What a loud operation leaves: the state is met under names that have grown; the world has grown, one block of it changed at the most. -/
structure Step (w0 : World) (env env' : Env) (ph ph' : Ph) (st st' : St) (a' : Act) (w w' : World) (row : Option Nat) : Prop where
  sat : Sat w0 env' ph' st' a' w'
  agree : Agree st.has env env' ph ph'
  grown : w.grownBy w' row
  mono : ∀ k, st.has k = true → st'.has k = true

theorem agree_refl {p : Nat → Bool} : Agree p env env ph ph := ⟨fun _ _ => rfl, fun _ _ => rfl, fun _ _ => rfl⟩

/-- A block more. -/
theorem alloc_sat {w0 w : World} {st : St} {a : Act} {key : Nat} {e : TypeId} {ls : List Leaf} {dst : Option Tmp} {evs : List Ev} {st' : St} (h : Sat w0 env ph st a w) (ha : allocBlk st key e ls dst = some (evs, st')) :
    evs = [] ∧ Step w0 env env ph (ph.setR key w.heap.size) st st' (a.put dst (.pointer (some ⟨w.heap.size, 0, none⟩))) w (w.alloc (.cells (ls.map (Leaf.den env ph)).toArray e)) none := by
  unfold allocBlk at ha
  split at ha
  · rename_i hc
    simp only [Bool.and_eq_true] at hc
    obtain ⟨hfree, hls⟩ := hc
    simp only [Option.some.injEq, Prod.mk.injEq] at ha
    obtain ⟨rfl, rfl⟩ := ha
    have hkey : st.has key = false := free_not_has hfree (Nat.le_refl _) (by omega)
    have hag : Agree st.has env env ph (ph.setR key w.heap.size) := ⟨fun _ _ => rfl, fun k hk => by
      have : k ≠ key := fun e => by rw [e, hkey] at hk; cases hk
      simp [Ph.setR, this], fun _ _ => rfl⟩
    have hs' := h.congr hag
    have hgr : w.grownBy (w.alloc (.cells (ls.map (Leaf.den env ph)).toArray e)) none := World.grownBy_alloc w _ none
    have hmono : ∀ k, st.has k = true → (st.claim key 1).has k = true := fun k hk => has_mono hk
    have hB : w0.heap.size ≤ w.heap.size := h.below.size
    refine ⟨rfl, ⟨?_, ?_, h.below.alloc hB _, by rw [act_put_defers]; exact h.defers, ?_⟩, hag, hgr, fun k hk => by rw [has_put]; exact hmono k hk⟩
    · refine put_ok (st := { st.claim key 1 with blks := insBlk ⟨key, e, ls⟩ st.blks }) hs'.tmps ?_
      simp [Slot.den, BE.den, SV.den, V1.den, Leaf.den, Ph.setR]
    · rw [put_blks, put_rows]
      have hm := hs'.mem.grown hgr
      have hidne : ∀ b ∈ st.blks, b.id ≠ key := fun b hb e => by
        have := h.names.blks b hb
        simp only [Blk.all, Bool.and_eq_true] at this
        rw [e, hkey] at this
        simp at this
      refine ⟨fun b hb => ?_, fun b hb b' hb' hne => ?_, hm.row, fun b hb r hr h1 => ?_, hm.rr⟩
      · rcases mem_insBlk.1 hb with rfl | hb
        · refine ⟨by simp [Ph.setR]; exact hB, ?_⟩
          simp only [Ph.setR, if_true, heap_alloc_new]
          have := leaves_congr hag hls
          rw [this]
          rfl
        · exact hm.blk b hb
      · have hlt : ∀ b ∈ st.blks, (ph.setR key w.heap.size).r b.id < w.heap.size := fun b hb => (hs'.mem.blk b hb).lt
        rcases mem_insBlk.1 hb with rfl | hb <;> rcases mem_insBlk.1 hb' with rfl | hb'
        · exact absurd rfl hne
        · have := hlt b' hb'
          simp only [Ph.setR, if_true] at this ⊢
          omega
        · have := hlt b hb
          simp only [Ph.setR, if_true] at this ⊢
          omega
        · exact hm.bb b hb b' hb' hne
      · rcases mem_insBlk.1 hb with rfl | hb
        · intro hcon
          simp only [Ph.setR, if_true] at hcon
          -- a slice whose block is not there yet
          have := (hs'.mem.row r hr h1).foot_lt hcon
          omega
        · exact hm.br b hb r hr h1
    · refine ⟨?_, ?_, ?_⟩
      · refine put_known (st := { st.claim key 1 with blks := insBlk ⟨key, e, ls⟩ st.blks }) (fun t s ht => Slot.all_mono hmono (h.names.tmps t s ht)) ?_
        simp only [Slot.all, BE.all, SV.all, V1.all, Leaf.all, Bool.true_and]
        show (st.claim key 1).has key = true
        exact has_new (Nat.le_refl _) (by omega)
      · rw [put_blks, has_put]
        intro b hb
        rcases mem_insBlk.1 hb with rfl | hb
        · simp only [Blk.all, Bool.and_eq_true]
          exact ⟨has_new (st := st) (a := key) (n := 1) (Nat.le_refl _) (by omega), leavesAll_mono hmono hls⟩
        · exact Blk.all_mono hmono (h.names.blks b hb)
      · rw [put_rows, has_put]
        exact fun r hr => Row.all_mono hmono (h.names.rows r hr)
  · cases ha

end Go.Sx

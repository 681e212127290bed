/- Layer 7: blocks that a call makes; what sides hands back. -/
import Derived.Test.YtjcomklheilfjaaPlans
set_option linter.unusedVariables false
set_option linter.unusedSimpArgs false
namespace Go.Proofs.Ytjcomklheilfjaa.Build
open Go.RowKit Go

/-- A block of these cells, none of them frozen. -/
def Blk (w : World) (g : Nat) (T : TypeId) (cs : List Value) : Prop := w.heap[g]? = some (.cells cs.toArray T (0, 0))
theorem Blk.lt {w : World} {g : Nat} {T : TypeId} {cs : List Value} (h : Blk w g T cs) : g < w.heap.size := (Array.getElem?_eq_some_iff.1 h).1
theorem Blk.cell {w : World} {g : Nat} {T : TypeId} {cs : List Value} (h : Blk w g T cs) (j : Nat) : w.cell? ⟨g, j, none⟩ = cs[j]? := by
  rw [cell_of_row w g j cs.toArray T (0, 0) h]; simp
theorem Blk.frozen {w : World} {g : Nat} {T : TypeId} {cs : List Value} (h : Blk w g T cs) (j : Nat) : w.frozen? ⟨g, j, none⟩ = false := by
  have h' : w.heap[g]? = some (.cells cs.toArray T (0, 0)) := h
  simp [World.frozen?, h']
theorem Blk.set {w : World} {g : Nat} {T : TypeId} {cs : List Value} (h : Blk w g T cs) (j : Nat) (u : Value) : Blk (w.setCell ⟨g, j, none⟩ u) g T (cs.set j u) := by
  have h' : w.heap[g]? = some (.cells cs.toArray T (0, 0)) := h
  show (w.setCell ⟨g, j, none⟩ u).heap[g]? = _
  simp [World.setCell, Array.getElem?_modify, h']
theorem Blk.other {w : World} {g : Nat} {T : TypeId} {cs : List Value} (h : Blk w g T cs) {a : Addr} (ha : a.block ≠ g) (u : Value) : Blk (w.setCell a u) g T cs := by
  show (w.setCell a u).heap[g]? = _
  rw [Below.heap_setCell _ _ _ _ (fun e => ha e.symm)]; exact h
theorem Blk.alloc {w : World} {g : Nat} {T : TypeId} {cs : List Value} (h : Blk w g T cs) (o : Obj) : Blk (w.alloc o) g T cs := by
  show (w.alloc o).heap[g]? = _
  rw [Below.heap_alloc _ _ _ h.lt]; exact h
theorem Blk.keep {w w' : World} {g B : Nat} {T : TypeId} {cs : List Value} (h : Blk w g T cs) (hb : Below B w w') (hg : g < B) : Blk w' g T cs := by
  show w'.heap[g]? = _
  rw [hb.block g hg]; exact h
theorem Blk.new (w : World) (T : TypeId) (cs : List Value) {arr : Array Value} (h : arr = cs.toArray) : Blk (w.alloc (.cells arr T)) w.heap.size T cs := by
  subst h
  show (w.heap.push _)[w.heap.size]? = _
  simp
theorem old_cell {w : World} {o : Obj} {a : Addr} (h : a.block < w.heap.size) : (w.alloc o).cell? a = w.cell? a := World.cell?_alloc_old w o a (by omega)
theorem old_frozen {w : World} {o : Obj} {a : Addr} (h : a.block < w.heap.size) : (w.alloc o).frozen? a = w.frozen? a := World.frozen?_alloc_old w o a (by omega)
theorem other_cell {w : World} {v : Value} {a b : Addr} (h : a.block ≠ b.block) : (w.setCell a v).cell? b = w.cell? b := World.cell?_setCell_other w a b v (fun e => h (by rw [e]))
theorem keep_cell {w w' : World} {a : Addr} {v : Value} (hb : Below w.heap.size w w') (h : w.cell? a = some v) : w'.cell? a = some v := (hb.cell (lt_of_cell h)).trans h
theorem hide {p : Prop} (h : p) : Hid p := h
theorem add_block (a : Addr) (n : Nat) : (a.add n).block = a.block := by unfold Addr.add; split <;> rfl
theorem info4 : (Try.prog.info? 4).map (fun i => (i.zero, i.size, i.bytes)) = some (some (.bool false), 1, 1) := by kernel_rfl
theorem info3 : (Try.prog.info? 3).map (fun i => (i.zero, i.size, i.bytes)) = some (some (.int .i64 0), 1, 8) := by kernel_rfl
theorem make_bools (n : Nat) (hn : n ≤ 100000) (w : World) : (Instr.makeSlice 22 (.int .i64 n) (.int .i64 n)).run Try.prog w = .ok (.slice (some ⟨w.heap.size, 0, none⟩) n n) (w.alloc (.cells (List.replicate n (Value.bool false)).toArray 4)) := by
  obtain ⟨i0, hi, hz0, hz1, hz2⟩ := info_parts info4
  have h := run_make (P := Try.prog) w 22 4 i0 (.bool false) Try.underlying22 hi hz0 .i64 .i64 n n (by omega) (Int.le_refl _) (by rw [hz2]; omega) (by omega)
  rw [h]
  congr 3
  apply Array.ext'
  simp only [Int.toNat_natCast, hz1, Nat.mul_one]
  exact toList_madeCells_one (.bool false) n
theorem make_ints (n : Nat) (hn : n ≤ 100000) (w : World) : (Instr.makeSlice 33 (.int .i64 n) (.int .i64 n)).run Try.prog w = .ok (.slice (some ⟨w.heap.size, 0, none⟩) n n) (w.alloc (.cells (List.replicate n (Value.int .i64 0)).toArray 3)) := by
  obtain ⟨i0, hi, hz0, hz1, hz2⟩ := info_parts info3
  have h := run_make (P := Try.prog) w 33 3 i0 (.int .i64 0) Try.underlying33 hi hz0 .i64 .i64 n n (by omega) (Int.le_refl _) (by rw [hz2]; omega) (by omega)
  rw [h]
  congr 3
  apply Array.ext'
  simp only [Int.toNat_natCast, hz1, Nat.mul_one]
  exact toList_madeCells_one (.int .i64 0) n
/-! ### Filled one by one -/
def fill (n : Nat) (f : Nat → Value) (z : Value) (k : Nat) : List Value := (List.range n).map fun j => if j < k then f j else z
theorem fill_zero (n : Nat) (f : Nat → Value) (z : Value) : fill n f z 0 = List.replicate n z := by
  apply List.ext_getElem?
  intro j
  by_cases hj : j < n <;> simp [fill, hj]
theorem fill_set {n : Nat} {f : Nat → Value} {z : Value} {k : Nat} (hk : k < n) {u : Value} (hu : u = f k) : (fill n f z k).set k u = fill n f z (k + 1) := by
  subst hu
  apply List.ext_getElem?
  intro j
  rw [List.getElem?_set]
  by_cases hj : j < n
  · by_cases e : k = j
    · subst e; simp [fill, hk]
    · simp only [fill, List.getElem?_map, List.getElem?_range hj, e, if_false, Option.map_some]
      by_cases h2 : j < k
      · rw [if_pos h2, if_pos (by omega)]
      · rw [if_neg h2, if_neg (by omega)]
  · have e : ¬ k = j := by omega
    simp [fill, hj, e]
theorem fill_all (n : Nat) (f : Nat → Value) (z : Value) : fill n f z n = (List.range n).map f := by
  unfold fill
  refine List.map_congr_left fun j hj => ?_
  rw [if_pos (List.mem_range.1 hj)]
theorem fill_get {n : Nat} {f : Nat → Value} {z : Value} {k j : Nat} (hj : j < n) : ∃ u, (fill n f z k)[j]? = some u := ⟨_, by simp only [fill, List.getElem?_map, List.getElem?_range hj, Option.map_some]; rfl⟩
end Go.Proofs.Ytjcomklheilfjaa.Build

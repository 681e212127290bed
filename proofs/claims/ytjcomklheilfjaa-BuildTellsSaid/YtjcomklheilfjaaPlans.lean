/- Layer 7: plans: what each mode does. -/
import Derived.Test.YtjcomklheilfjaaRows
import Derived.WalkKit
import Derived.WalkSpells
import Derived.WalkLawsBesides
set_option linter.unusedVariables false
set_option linter.unusedSimpArgs false
namespace Go.Proofs.Ytjcomklheilfjaa.Build
open Go.RowKit Go

theorem lt_of_cell {w : World} {p : Addr} {v : Value} (h : w.cell? p = some v) : p.block < w.heap.size := World.block_lt_of_cell? w p h
def ints (xs : List Int) : List Value := xs.map (Value.int .i64)
def bools (xs : List Bool) : List Value := xs.map Value.bool
/-- A slice of the call's own, from block B on, that reads as these cells. -/
def Row1 (B : Nat) (w : World) (v : Value) (cs : List Value) : Prop := ∃ g cap, v = .slice (some ⟨g, 0, none⟩) cs.length cap ∧ cs.length ≤ cap ∧ B ≤ g ∧ ∀ j u, cs[j]? = some u → w.cell? ⟨g, j, none⟩ = some u
theorem blk_old {w : World} {k : Nat} {o : Obj} (x : Obj) (h : w.heap[k]? = some o) : (w.alloc x).heap[k]? = some o := by
  have hk : k < w.heap.size := (Array.getElem?_eq_some_iff.1 h).1
  rw [Below.heap_alloc _ _ _ hk]; exact h
theorem blk_new {w : World} {o : Obj} (k : Nat) (hk : k = w.heap.size) : (w.alloc o).heap[k]? = some o := by
  subst hk
  show (w.heap.push o)[w.heap.size]? = some o
  simp
theorem row1_of_block {B g : Nat} {w : World} {v : Value} {cs : List Value} {arr : Array Value} {T : TypeId} (cap : Nat) (hv : v = .slice (some ⟨g, 0, none⟩) cs.length cap) (hc : cs.length ≤ cap) (hg : B ≤ g) (hb : w.heap[g]? = some (.cells arr T (0, 0))) (ha : arr.toList = cs := by rfl) : Row1 B w v cs := by
  refine ⟨g, cap, hv, hc, hg, fun j u hj => ?_⟩
  rw [cell_of_row w g j arr T (0, 0) hb, ← hj, ← ha]
  simp
structure Plan where
  step : Int
  v : List Int
  odd : List Int
  first : Int
  last : Int
  flagged : Bool
  anchored : Bool
def planOf : Nat → Plan
  | 0 => ⟨1, [0], [], 0, 0, false, false⟩
  | 1 => ⟨2, [0, 1], [], 0, 1, false, false⟩
  | 2 => ⟨1, [0, 1], [], 0, 1, false, false⟩
  | 3 => ⟨1, [0, 1], [], 0, 1, false, false⟩
  | 4 => ⟨3, [0, 1, 2], [], 0, 2, true, false⟩
  | 5 => ⟨1, [0, 1, 2], [1, 0, 2], 0, 2, false, false⟩
  | 6 => ⟨1, [0, 1, 2], [], 1, 2, false, true⟩
  | 7 => ⟨4, [0, 1, 2, 3], [], 0, 3, true, false⟩
  | _ => ⟨2, [0, 1, 3, 2], [], 0, 3, false, false⟩
/-- What plans hands back. -/
def PlanPost (w : World) (p : Plan) (e : Ending) (w' : World) : Prop := ∃ vs os, e = .returned (.agg #[.int .i64 p.step, vs, os, .int .i64 p.first, .int .i64 p.last, .bool p.flagged, .bool p.anchored]) ∧ Row1 w.heap.size w' vs (ints p.v) ∧ (p.odd = [] → os = .slice none 0 0) ∧ (p.odd ≠ [] → Row1 w.heap.size w' os (ints p.odd)) ∧ Below w.heap.size w w'
set_option maxHeartbeats 4000000 in
set_option maxRecDepth 100000 in
theorem plans_0 (w : World) : Calls Try.prog 15 #[.int .i64 0] w (PlanPost w (planOf 0)) := by
  go_enter Try.func15, Try.ntmps15
  go_wp2
  refine bodyPost_ret (v := .agg #[.int .i64 1, .slice (some ⟨w.heap.size + 1, 0, none⟩) 1 1, .slice none 0 0, .int .i64 0, .int .i64 0, .bool false, .bool false]) (by simp [results, Try.results15, go_sem]) rfl ?_
  refine ⟨_, _, rfl, ?_, ?_, ?_, ?_⟩
  · show Row1 w.heap.size _ _ [.int .i64 0]
    exact row1_of_block (g := w.heap.size + 1) 1 rfl (by simp) (by omega) (blk_old _ (blk_old _ (blk_old _ (blk_old _ (blk_old _ (blk_old _ (blk_old _ (blk_old _ (blk_old _ (blk_old _ (blk_new _ (by simp))))))))))))
  · exact fun h => rfl
  · exact fun h => absurd rfl h
  · repeat refine Below.alloc ?_ (by simp <;> omega) _
    exact Below.refl _ _
set_option maxHeartbeats 4000000 in
set_option maxRecDepth 100000 in
theorem plans_1 (w : World) : Calls Try.prog 15 #[.int .i64 1] w (PlanPost w (planOf 1)) := by
  go_enter Try.func15, Try.ntmps15
  go_wp2
  refine bodyPost_ret (v := .agg #[.int .i64 2, .slice (some ⟨w.heap.size + 1 + 1, 0, none⟩) 2 2, .slice none 0 0, .int .i64 0, .int .i64 1, .bool false, .bool false]) (by simp [results, Try.results15, go_sem]) rfl ?_
  refine ⟨_, _, rfl, ?_, ?_, ?_, ?_⟩
  · show Row1 w.heap.size _ _ [.int .i64 0, .int .i64 1]
    exact row1_of_block (g := w.heap.size + 1 + 1) 2 rfl (by simp) (by omega) (blk_old _ (blk_old _ (blk_old _ (blk_old _ (blk_old _ (blk_old _ (blk_old _ (blk_old _ (blk_old _ (blk_new _ (by simp)))))))))))
  · exact fun h => rfl
  · exact fun h => absurd rfl h
  · repeat refine Below.alloc ?_ (by simp <;> omega) _
    exact Below.refl _ _
set_option maxHeartbeats 4000000 in
set_option maxRecDepth 100000 in
theorem plans_2 (w : World) : Calls Try.prog 15 #[.int .i64 2] w (PlanPost w (planOf 2)) := by
  go_enter Try.func15, Try.ntmps15
  go_wp2
  refine bodyPost_ret (v := .agg #[.int .i64 1, .slice (some ⟨w.heap.size + 1 + 1 + 1, 0, none⟩) 2 2, .slice none 0 0, .int .i64 0, .int .i64 1, .bool false, .bool false]) (by simp [results, Try.results15, go_sem]) rfl ?_
  refine ⟨_, _, rfl, ?_, ?_, ?_, ?_⟩
  · show Row1 w.heap.size _ _ [.int .i64 0, .int .i64 1]
    exact row1_of_block (g := w.heap.size + 1 + 1 + 1) 2 rfl (by simp) (by omega) (blk_old _ (blk_old _ (blk_old _ (blk_old _ (blk_old _ (blk_old _ (blk_old _ (blk_old _ (blk_new _ (by simp))))))))))
  · exact fun h => rfl
  · exact fun h => absurd rfl h
  · repeat refine Below.alloc ?_ (by simp <;> omega) _
    exact Below.refl _ _
set_option maxHeartbeats 4000000 in
set_option maxRecDepth 100000 in
theorem plans_3 (w : World) : Calls Try.prog 15 #[.int .i64 3] w (PlanPost w (planOf 3)) := by
  go_enter Try.func15, Try.ntmps15
  go_wp2
  refine bodyPost_ret (v := .agg #[.int .i64 1, .slice (some ⟨w.heap.size + 1 + 1 + 1 + 1, 0, none⟩) 2 2, .slice none 0 0, .int .i64 0, .int .i64 1, .bool false, .bool false]) (by simp [results, Try.results15, go_sem]) rfl ?_
  refine ⟨_, _, rfl, ?_, ?_, ?_, ?_⟩
  · show Row1 w.heap.size _ _ [.int .i64 0, .int .i64 1]
    exact row1_of_block (g := w.heap.size + 1 + 1 + 1 + 1) 2 rfl (by simp) (by omega) (blk_old _ (blk_old _ (blk_old _ (blk_old _ (blk_old _ (blk_old _ (blk_old _ (blk_new _ (by simp)))))))))
  · exact fun h => rfl
  · exact fun h => absurd rfl h
  · repeat refine Below.alloc ?_ (by simp <;> omega) _
    exact Below.refl _ _
set_option maxHeartbeats 4000000 in
set_option maxRecDepth 100000 in
theorem plans_4 (w : World) : Calls Try.prog 15 #[.int .i64 4] w (PlanPost w (planOf 4)) := by
  go_enter Try.func15, Try.ntmps15
  go_wp2
  refine bodyPost_ret (v := .agg #[.int .i64 3, .slice (some ⟨w.heap.size + 1 + 1 + 1 + 1 + 1, 0, none⟩) 3 3, .slice none 0 0, .int .i64 0, .int .i64 2, .bool true, .bool false]) (by simp [results, Try.results15, go_sem]) rfl ?_
  refine ⟨_, _, rfl, ?_, ?_, ?_, ?_⟩
  · show Row1 w.heap.size _ _ [.int .i64 0, .int .i64 1, .int .i64 2]
    exact row1_of_block (g := w.heap.size + 1 + 1 + 1 + 1 + 1) 3 rfl (by simp) (by omega) (blk_old _ (blk_old _ (blk_old _ (blk_old _ (blk_old _ (blk_old _ (blk_new _ (by simp))))))))
  · exact fun h => rfl
  · exact fun h => absurd rfl h
  · repeat refine Below.alloc ?_ (by simp <;> omega) _
    exact Below.refl _ _
set_option maxHeartbeats 4000000 in
set_option maxRecDepth 100000 in
theorem plans_5 (w : World) : Calls Try.prog 15 #[.int .i64 5] w (PlanPost w (planOf 5)) := by
  go_enter Try.func15, Try.ntmps15
  go_wp2
  refine bodyPost_ret (v := .agg #[.int .i64 1, .slice (some ⟨w.heap.size + 1 + 1 + 1 + 1 + 1 + 1, 0, none⟩) 3 3, .slice (some ⟨w.heap.size + 1 + 1 + 1 + 1 + 1 + 1 + 1, 0, none⟩) 3 3, .int .i64 0, .int .i64 2, .bool false, .bool false]) (by simp [results, Try.results15, go_sem]) rfl ?_
  refine ⟨_, _, rfl, ?_, ?_, ?_, ?_⟩
  · show Row1 w.heap.size _ _ [.int .i64 0, .int .i64 1, .int .i64 2]
    exact row1_of_block (g := w.heap.size + 1 + 1 + 1 + 1 + 1 + 1) 3 rfl (by simp) (by omega) (blk_old _ (blk_old _ (blk_old _ (blk_old _ (blk_old _ (blk_new _ (by simp)))))))
  · intro h; cases h
  · intro _
    show Row1 w.heap.size _ _ [.int .i64 1, .int .i64 0, .int .i64 2]
    exact row1_of_block (g := w.heap.size + 1 + 1 + 1 + 1 + 1 + 1 + 1) 3 rfl (by simp) (by omega) (blk_old _ (blk_old _ (blk_old _ (blk_old _ (blk_new _ (by simp))))))
  · repeat refine Below.alloc ?_ (by simp <;> omega) _
    exact Below.refl _ _
set_option maxHeartbeats 4000000 in
set_option maxRecDepth 100000 in
theorem plans_6 (w : World) : Calls Try.prog 15 #[.int .i64 6] w (PlanPost w (planOf 6)) := by
  go_enter Try.func15, Try.ntmps15
  go_wp2
  refine bodyPost_ret (v := .agg #[.int .i64 1, .slice (some ⟨w.heap.size + 1 + 1 + 1 + 1 + 1 + 1 + 1 + 1, 0, none⟩) 3 3, .slice none 0 0, .int .i64 1, .int .i64 2, .bool false, .bool true]) (by simp [results, Try.results15, go_sem]) rfl ?_
  refine ⟨_, _, rfl, ?_, ?_, ?_, ?_⟩
  · show Row1 w.heap.size _ _ [.int .i64 0, .int .i64 1, .int .i64 2]
    exact row1_of_block (g := w.heap.size + 1 + 1 + 1 + 1 + 1 + 1 + 1 + 1) 3 rfl (by simp) (by omega) (blk_old _ (blk_old _ (blk_old _ (blk_new _ (by simp)))))
  · exact fun h => rfl
  · exact fun h => absurd rfl h
  · repeat refine Below.alloc ?_ (by simp <;> omega) _
    exact Below.refl _ _
set_option maxHeartbeats 4000000 in
set_option maxRecDepth 100000 in
theorem plans_7 (w : World) : Calls Try.prog 15 #[.int .i64 7] w (PlanPost w (planOf 7)) := by
  go_enter Try.func15, Try.ntmps15
  go_wp2
  refine bodyPost_ret (v := .agg #[.int .i64 4, .slice (some ⟨w.heap.size + 1 + 1 + 1 + 1 + 1 + 1 + 1 + 1 + 1, 0, none⟩) 4 4, .slice none 0 0, .int .i64 0, .int .i64 3, .bool true, .bool false]) (by simp [results, Try.results15, go_sem]) rfl ?_
  refine ⟨_, _, rfl, ?_, ?_, ?_, ?_⟩
  · show Row1 w.heap.size _ _ [.int .i64 0, .int .i64 1, .int .i64 2, .int .i64 3]
    exact row1_of_block (g := w.heap.size + 1 + 1 + 1 + 1 + 1 + 1 + 1 + 1 + 1) 4 rfl (by simp) (by omega) (blk_old _ (blk_old _ (blk_new _ (by simp))))
  · exact fun h => rfl
  · exact fun h => absurd rfl h
  · repeat refine Below.alloc ?_ (by simp <;> omega) _
    exact Below.refl _ _
set_option maxHeartbeats 4000000 in
set_option maxRecDepth 100000 in
theorem plans_8 (w : World) : Calls Try.prog 15 #[.int .i64 8] w (PlanPost w (planOf 8)) := by
  go_enter Try.func15, Try.ntmps15
  go_wp2
  refine bodyPost_ret (v := .agg #[.int .i64 2, .slice (some ⟨w.heap.size + 1 + 1 + 1 + 1 + 1 + 1 + 1 + 1 + 1 + 1, 0, none⟩) 4 4, .slice none 0 0, .int .i64 0, .int .i64 3, .bool false, .bool false]) (by simp [results, Try.results15, go_sem]) rfl ?_
  refine ⟨_, _, rfl, ?_, ?_, ?_, ?_⟩
  · show Row1 w.heap.size _ _ [.int .i64 0, .int .i64 1, .int .i64 3, .int .i64 2]
    exact row1_of_block (g := w.heap.size + 1 + 1 + 1 + 1 + 1 + 1 + 1 + 1 + 1 + 1) 4 rfl (by simp) (by omega) (blk_old _ (blk_new _ (by simp)))
  · exact fun h => rfl
  · exact fun h => absurd rfl h
  · repeat refine Below.alloc ?_ (by simp <;> omega) _
    exact Below.refl _ _
theorem plans_any (m : Nat) (hm : m < 9) (w : World) : Calls Try.prog 15 #[.int .i64 m] w (PlanPost w (planOf m)) := by
  match m, hm with
  | 0, _ => exact plans_0 w
  | 1, _ => exact plans_1 w
  | 2, _ => exact plans_2 w
  | 3, _ => exact plans_3 w
  | 4, _ => exact plans_4 w
  | 5, _ => exact plans_5 w
  | 6, _ => exact plans_6 w
  | 7, _ => exact plans_7 w
  | 8, _ => exact plans_8 w
end Go.Proofs.Ytjcomklheilfjaa.Build

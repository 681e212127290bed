/- Layer 7: the document's answer: one, walked. -/
import Derived.Test.YtjcomklheilfjaaCounts
set_option linter.unusedVariables false
set_option linter.unusedSimpArgs false
namespace Go.Proofs.Ytjcomklheilfjaa.Build
open Go.RowKit Go

def oneV (m i : Nat) : List Int := match m with
  | 0 => [(i : Int)]
  | 1 => [2 * (i : Int), 2 * (i : Int) + 1]
  | 2 => [(i : Int), (i : Int) + 1]
  | 3 => [(i : Int), (i : Int) + 1]
  | 4 => [3 * (i : Int), 3 * (i : Int) + 1, 3 * (i : Int) + 2]
  | 5 => if i % 2 = 1 then [(i : Int) + 1, (i : Int), (i : Int) + 2] else [(i : Int), (i : Int) + 1, (i : Int) + 2]
  | 6 => [0, (i : Int) + 1, (i : Int) + 2]
  | 7 => [4 * (i : Int), 4 * (i : Int) + 1, 4 * (i : Int) + 2, 4 * (i : Int) + 3]
  | _ => [2 * (i : Int), 2 * (i : Int) + 1, 2 * (i : Int) + 3, 2 * (i : Int) + 2]
def oneP (m i : Nat) : Int := match m with
  | 0 => i | 1 => 2 * (i : Int) | 2 => i | 3 => i | 4 => 3 * (i : Int) | 5 => i | 6 => (i : Int) + 1 | 7 => 4 * (i : Int) | _ => 2 * (i : Int)
def oneQ (m i : Nat) : Int := match m with
  | 0 => i | 1 => 2 * (i : Int) + 1 | 2 => (i : Int) + 1 | 3 => (i : Int) + 1 | 4 => 3 * (i : Int) + 2 | 5 => (i : Int) + 2 | 6 => (i : Int) + 2 | 7 => 4 * (i : Int) + 3 | _ => 2 * (i : Int) + 3
def oneFl (m : Nat) : Bool := m == 4 || m == 7
def OnePost (w : World) (V : List Int) (p q : Int) (fl : Bool) (e : Ending) (w' : World) : Prop := ∃ g, e = .returned (.tuple #[.slice (some ⟨g, 0, none⟩) V.length V.length, .int .i64 p, .int .i64 q, .bool fl]) ∧ w.heap.size ≤ g ∧ Blk w' g 3 (ints V) ∧ Below w.heap.size w w'
set_option maxHeartbeats 2000000 in
set_option maxRecDepth 100000 in
theorem one_0 (i : Nat) (hi : (i : Int) ≤ 256) (w : World) : Calls Try.prog 17 #[.int .i64 0, .int .i64 i] w (OnePost w [(i : Int)] ((i : Int)) ((i : Int)) false) := by
  go_enter Try.func17, Try.ntmps17
  go_wp2
  refine bodyPost_ret (v := .tuple #[.slice (some ⟨w.heap.size, 0, none⟩) 1 1, .int .i64 ((i : Int)), .int .i64 ((i : Int)), .bool false]) (by simp [results, Try.results17, go_sem]) rfl ?_
  exact ⟨w.heap.size, rfl, Nat.le_refl _, Blk.new w 3 (ints [(i : Int)]) rfl, (Below.refl _ _).alloc (Nat.le_refl _) _⟩
set_option maxHeartbeats 2000000 in
set_option maxRecDepth 100000 in
theorem one_1 (i : Nat) (hi : (i : Int) ≤ 256) (w : World) : Calls Try.prog 17 #[.int .i64 1, .int .i64 i] w (OnePost w [2 * (i : Int), 2 * (i : Int) + 1] (2 * (i : Int)) (2 * (i : Int) + 1) false) := by
  go_enter Try.func17, Try.ntmps17
  go_wp2
  refine bodyPost_ret (v := .tuple #[.slice (some ⟨w.heap.size, 0, none⟩) 2 2, .int .i64 (2 * (i : Int)), .int .i64 (2 * (i : Int) + 1), .bool false]) (by simp [results, Try.results17, go_sem]) rfl ?_
  exact ⟨w.heap.size, rfl, Nat.le_refl _, Blk.new w 3 (ints [2 * (i : Int), 2 * (i : Int) + 1]) rfl, (Below.refl _ _).alloc (Nat.le_refl _) _⟩
set_option maxHeartbeats 2000000 in
set_option maxRecDepth 100000 in
theorem one_2 (i : Nat) (hi : (i : Int) ≤ 256) (w : World) : Calls Try.prog 17 #[.int .i64 2, .int .i64 i] w (OnePost w [(i : Int), (i : Int) + 1] ((i : Int)) ((i : Int) + 1) false) := by
  go_enter Try.func17, Try.ntmps17
  go_wp2
  refine bodyPost_ret (v := .tuple #[.slice (some ⟨w.heap.size, 0, none⟩) 2 2, .int .i64 ((i : Int)), .int .i64 ((i : Int) + 1), .bool false]) (by simp [results, Try.results17, go_sem]) rfl ?_
  exact ⟨w.heap.size, rfl, Nat.le_refl _, Blk.new w 3 (ints [(i : Int), (i : Int) + 1]) rfl, (Below.refl _ _).alloc (Nat.le_refl _) _⟩
set_option maxHeartbeats 2000000 in
set_option maxRecDepth 100000 in
theorem one_3 (i : Nat) (hi : (i : Int) ≤ 256) (w : World) : Calls Try.prog 17 #[.int .i64 3, .int .i64 i] w (OnePost w [(i : Int), (i : Int) + 1] ((i : Int)) ((i : Int) + 1) false) := by
  go_enter Try.func17, Try.ntmps17
  go_wp2
  refine bodyPost_ret (v := .tuple #[.slice (some ⟨w.heap.size, 0, none⟩) 2 2, .int .i64 ((i : Int)), .int .i64 ((i : Int) + 1), .bool false]) (by simp [results, Try.results17, go_sem]) rfl ?_
  exact ⟨w.heap.size, rfl, Nat.le_refl _, Blk.new w 3 (ints [(i : Int), (i : Int) + 1]) rfl, (Below.refl _ _).alloc (Nat.le_refl _) _⟩
set_option maxHeartbeats 2000000 in
set_option maxRecDepth 100000 in
theorem one_4 (i : Nat) (hi : (i : Int) ≤ 256) (w : World) : Calls Try.prog 17 #[.int .i64 4, .int .i64 i] w (OnePost w [3 * (i : Int), 3 * (i : Int) + 1, 3 * (i : Int) + 2] (3 * (i : Int)) (3 * (i : Int) + 2) true) := by
  go_enter Try.func17, Try.ntmps17
  go_wp2
  refine bodyPost_ret (v := .tuple #[.slice (some ⟨w.heap.size, 0, none⟩) 3 3, .int .i64 (3 * (i : Int)), .int .i64 (3 * (i : Int) + 2), .bool true]) (by simp [results, Try.results17, go_sem]) rfl ?_
  exact ⟨w.heap.size, rfl, Nat.le_refl _, Blk.new w 3 (ints [3 * (i : Int), 3 * (i : Int) + 1, 3 * (i : Int) + 2]) rfl, (Below.refl _ _).alloc (Nat.le_refl _) _⟩
set_option maxHeartbeats 2000000 in
set_option maxRecDepth 100000 in
theorem one_5a (i : Nat) (hi : (i : Int) ≤ 256) (hp : (i : Int) % 2 = 1) (w : World) : Calls Try.prog 17 #[.int .i64 5, .int .i64 i] w (OnePost w [(i : Int) + 1, (i : Int), (i : Int) + 2] ((i : Int)) ((i : Int) + 2) false) := by
  go_enter Try.func17, Try.ntmps17
  go_wp2
  refine bodyPost_ret (v := .tuple #[.slice (some ⟨w.heap.size, 0, none⟩) 3 3, .int .i64 ((i : Int)), .int .i64 ((i : Int) + 2), .bool false]) (by simp [results, Try.results17, go_sem]) rfl ?_
  exact ⟨w.heap.size, rfl, Nat.le_refl _, Blk.new w 3 (ints [(i : Int) + 1, (i : Int), (i : Int) + 2]) rfl, (Below.refl _ _).alloc (Nat.le_refl _) _⟩
set_option maxHeartbeats 2000000 in
set_option maxRecDepth 100000 in
theorem one_5b (i : Nat) (hi : (i : Int) ≤ 256) (hp : (i : Int) % 2 = 0) (w : World) : Calls Try.prog 17 #[.int .i64 5, .int .i64 i] w (OnePost w [(i : Int), (i : Int) + 1, (i : Int) + 2] ((i : Int)) ((i : Int) + 2) false) := by
  go_enter Try.func17, Try.ntmps17
  go_wp2
  refine bodyPost_ret (v := .tuple #[.slice (some ⟨w.heap.size, 0, none⟩) 3 3, .int .i64 ((i : Int)), .int .i64 ((i : Int) + 2), .bool false]) (by simp [results, Try.results17, go_sem]) rfl ?_
  exact ⟨w.heap.size, rfl, Nat.le_refl _, Blk.new w 3 (ints [(i : Int), (i : Int) + 1, (i : Int) + 2]) rfl, (Below.refl _ _).alloc (Nat.le_refl _) _⟩
set_option maxHeartbeats 2000000 in
set_option maxRecDepth 100000 in
theorem one_6 (i : Nat) (hi : (i : Int) ≤ 256) (w : World) : Calls Try.prog 17 #[.int .i64 6, .int .i64 i] w (OnePost w [0, (i : Int) + 1, (i : Int) + 2] ((i : Int) + 1) ((i : Int) + 2) false) := by
  go_enter Try.func17, Try.ntmps17
  go_wp2
  refine bodyPost_ret (v := .tuple #[.slice (some ⟨w.heap.size, 0, none⟩) 3 3, .int .i64 ((i : Int) + 1), .int .i64 ((i : Int) + 2), .bool false]) (by simp [results, Try.results17, go_sem]) rfl ?_
  exact ⟨w.heap.size, rfl, Nat.le_refl _, Blk.new w 3 (ints [0, (i : Int) + 1, (i : Int) + 2]) rfl, (Below.refl _ _).alloc (Nat.le_refl _) _⟩
set_option maxHeartbeats 2000000 in
set_option maxRecDepth 100000 in
theorem one_7 (i : Nat) (hi : (i : Int) ≤ 256) (w : World) : Calls Try.prog 17 #[.int .i64 7, .int .i64 i] w (OnePost w [4 * (i : Int), 4 * (i : Int) + 1, 4 * (i : Int) + 2, 4 * (i : Int) + 3] (4 * (i : Int)) (4 * (i : Int) + 3) true) := by
  go_enter Try.func17, Try.ntmps17
  go_wp2
  refine bodyPost_ret (v := .tuple #[.slice (some ⟨w.heap.size, 0, none⟩) 4 4, .int .i64 (4 * (i : Int)), .int .i64 (4 * (i : Int) + 3), .bool true]) (by simp [results, Try.results17, go_sem]) rfl ?_
  exact ⟨w.heap.size, rfl, Nat.le_refl _, Blk.new w 3 (ints [4 * (i : Int), 4 * (i : Int) + 1, 4 * (i : Int) + 2, 4 * (i : Int) + 3]) rfl, (Below.refl _ _).alloc (Nat.le_refl _) _⟩
set_option maxHeartbeats 2000000 in
set_option maxRecDepth 100000 in
theorem one_8 (i : Nat) (hi : (i : Int) ≤ 256) (w : World) : Calls Try.prog 17 #[.int .i64 8, .int .i64 i] w (OnePost w [2 * (i : Int), 2 * (i : Int) + 1, 2 * (i : Int) + 3, 2 * (i : Int) + 2] (2 * (i : Int)) (2 * (i : Int) + 3) false) := by
  go_enter Try.func17, Try.ntmps17
  go_wp2
  refine bodyPost_ret (v := .tuple #[.slice (some ⟨w.heap.size, 0, none⟩) 4 4, .int .i64 (2 * (i : Int)), .int .i64 (2 * (i : Int) + 3), .bool false]) (by simp [results, Try.results17, go_sem]) rfl ?_
  exact ⟨w.heap.size, rfl, Nat.le_refl _, Blk.new w 3 (ints [2 * (i : Int), 2 * (i : Int) + 1, 2 * (i : Int) + 3, 2 * (i : Int) + 2]) rfl, (Below.refl _ _).alloc (Nat.le_refl _) _⟩
theorem one_any (m i : Nat) (hm : m < 9) (hi : (i : Int) ≤ 256) (w : World) : Calls Try.prog 17 #[.int .i64 m, .int .i64 i] w (OnePost w (oneV m i) (oneP m i) (oneQ m i) (oneFl m)) := by
  match m, hm with
  | 0, _ => exact one_0 i hi w
  | 1, _ => exact one_1 i hi w
  | 2, _ => exact one_2 i hi w
  | 3, _ => exact one_3 i hi w
  | 4, _ => exact one_4 i hi w
  | 5, _ =>
    rcases Nat.mod_two_eq_zero_or_one i with h | h
    · have e : oneV 5 i = [(i : Int), (i : Int) + 1, (i : Int) + 2] := by unfold oneV; rw [if_neg (by omega)]; rfl
      rw [e]; exact one_5b i hi (by omega) w
    · have e : oneV 5 i = [(i : Int) + 1, (i : Int), (i : Int) + 2] := by unfold oneV; rw [if_pos h]; rfl
      rw [e]; exact one_5a i hi (by omega) w
  | 6, _ => exact one_6 i hi w
  | 7, _ => exact one_7 i hi w
  | 8, _ => exact one_8 i hi w
end Go.Proofs.Ytjcomklheilfjaa.Build

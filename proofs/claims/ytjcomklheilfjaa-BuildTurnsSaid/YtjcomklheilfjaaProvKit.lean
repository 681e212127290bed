/- Layer 7: the law BuildProvokes: what is counted, plainly. -/
import Derived.Test.YtjcomklheilfjaaCounts
set_option linter.unusedVariables false
set_option linter.unusedSimpArgs false
namespace Go.Proofs.Ytjcomklheilfjaa.Build
open Go.RowKit Go

/-- Whether x is among the first j. -/
def hasF (V : List Int) (x : Int) : Nat → Bool
  | 0 => false
  | j + 1 => hasF V x j || decide (V.getD j 0 = x)
theorem hasF_of (V : List Int) (x : Int) (j n : Nat) (hj : j < n) (h : V.getD j 0 = x) : hasF V x n = true := by
  induction n with
  | zero => omega
  | succ n ih =>
    show (hasF V x n || decide (V.getD n 0 = x)) = true
    rcases Nat.lt_or_ge j n with h1 | h1
    · rw [ih h1]; rfl
    · have : j = n := by omega
      subst this
      rw [h]; simp
def cnt (f : Nat → Nat) (x : Nat) : Nat → Nat
  | 0 => 0
  | k + 1 => cnt f x k + if f k = x then 1 else 0
theorem cnt_le (f : Nat → Nat) (x k : Nat) : cnt f x k ≤ k := by
  induction k with
  | zero => exact Nat.le_refl _
  | succ k ih => show cnt f x k + _ ≤ _; split <;> omega
theorem cnt_none (f : Nat → Nat) (x k : Nat) (h : ∀ i, i < k → f i ≠ x) : cnt f x k = 0 := by
  induction k with
  | zero => rfl
  | succ k ih =>
    show cnt f x k + _ = 0
    rw [ih (fun i hi => h i (by omega)), if_neg (h k (by omega))]
theorem cnt_one (f : Nat → Nat) (x k : Nat) (h : ∀ i j, i < k → j < k → f i = f j → i = j) : cnt f x k ≤ 1 := by
  induction k with
  | zero => exact Nat.zero_le _
  | succ k ih =>
    show cnt f x k + _ ≤ 1
    by_cases e : f k = x
    · rw [if_pos e, cnt_none f x k (fun i hi hx => by have := h i k (by omega) (by omega) (by rw [hx, e]); omega)]
      omega
    · rw [if_neg e]
      have := ih (fun i j hi hj => h i j (by omega) (by omega))
      omega
def cntRow (f : Nat → Nat) (k : Nat) : List Value := (List.range 256).map fun x => .int .i64 (cnt f x k : Nat)
theorem cntRow_get (f : Nat → Nat) (k x : Nat) (hx : x < 256) : (cntRow f k)[x]? = some (.int .i64 (cnt f x k : Nat)) := by
  unfold cntRow
  rw [List.getElem?_map, List.getElem?_range hx]; rfl
theorem cntRow_len (f : Nat → Nat) (k : Nat) : (cntRow f k).length = 256 := by
  unfold cntRow; rw [List.length_map, List.length_range]
theorem cntRow_set (f : Nat → Nat) (k y : Nat) (hy : f k = y) (h : y < 256) : (cntRow f k).set y (.int .i64 ((cnt f y k : Nat) + 1)) = cntRow f (k + 1) := by
  apply List.ext_getElem?
  intro j
  rw [List.getElem?_set]
  by_cases hj : j < 256
  · rw [cntRow_get f (k + 1) j hj]
    by_cases e : y = j
    · subst e
      rw [if_pos rfl, if_pos (by rw [cntRow_len]; exact h)]
      show _ = some (Value.int .i64 ((cnt f y k + if f k = y then 1 else 0 : Nat) : Int))
      rw [if_pos hy]; rfl
    · rw [if_neg e, cntRow_get f k j hj]
      show _ = some (Value.int .i64 ((cnt f j k + if f k = j then 1 else 0 : Nat) : Int))
      rw [if_neg (by rw [hy]; exact e)]; rfl
  · rw [if_neg (by omega), List.getElem?_eq_none (by rw [cntRow_len]; omega), List.getElem?_eq_none (by rw [cntRow_len]; omega)]
theorem cntRow_zero (f : Nat → Nat) : cntRow f 0 = List.replicate 256 (.int .i64 0) := by
  apply List.ext_getElem?
  intro j
  by_cases hj : j < 256
  · rw [cntRow_get f 0 j hj, List.getElem?_replicate, if_pos hj]; rfl
  · rw [List.getElem?_eq_none (by rw [cntRow_len]; omega), List.getElem?_replicate, if_neg hj]
def z32 : Array Value := (List.replicate 256 (Value.int .i64 0)).toArray
theorem info32 : (Try.prog.info? 32).map (fun i => i.zero) = some (some (.agg z32)) := by kernel_rfl
theorem zero32 (w : World) : (zeroValue 32).run Try.prog w = .ok (.agg z32) w := by
  have h := info32
  cases hi : Try.prog.info? 32 with
  | none => rw [hi] at h; simp at h
  | some i =>
    rw [hi] at h
    have hz : i.zero = some (.agg z32) := by simpa using h
    simp [zeroValue, typeInfo, hi, hz]
def pnat (ps : List PrimD) (i : Nat) : Nat := (ps.getD i ⟨[], [], 0⟩).P.toNat
/-- What the law says of both lists. -/
structure ProvOk (A B : List PrimD) : Prop where
  len : A.length = B.length
  small : A.length ≤ 256
  vs : ∀ i, i < A.length → (B.getD i ⟨[], [], 0⟩).V = (A.getD i ⟨[], [], 0⟩).V
  vsmall : ∀ i, i < A.length → (A.getD i ⟨[], [], 0⟩).V.length ≤ 256
  pa : ∀ i, i < A.length → (A.getD i ⟨[], [], 0⟩).P = (pnat A i : Int) ∧ pnat A i < 256 ∧ hasF (A.getD i ⟨[], [], 0⟩).V (pnat A i : Int) (A.getD i ⟨[], [], 0⟩).V.length = true
  pb : ∀ i, i < A.length → (B.getD i ⟨[], [], 0⟩).P = (pnat B i : Int) ∧ pnat B i < 256 ∧ hasF (A.getD i ⟨[], [], 0⟩).V (pnat B i : Int) (A.getD i ⟨[], [], 0⟩).V.length = true
  ia : ∀ i j, i < A.length → j < A.length → pnat A i = pnat A j → i = j
  ib : ∀ i j, i < A.length → j < A.length → pnat B i = pnat B j → i = j
set_option maxRecDepth 100000 in
theorem provokes_long (n8 : Nat) (fb : Option Addr) (n fcap : Nat) (w : World) (hn : 100 < n) :
    Calls Try.prog 5 #[.int .u8 n8, .slice fb n fcap] w fun e w' => e = .returned (.bool true) ∧ Below w.heap.size w w' := by
  have h : (100 : Int) < (n : Int) := by omega
  go_enter Try.func5, Try.ntmps5
  go_wp2_with (go_at_call 8; refine (awake_any _).mono ?_; rintro e w2 ⟨rfl, hb2⟩)
  go_ret
  exact ⟨rfl, hb2⟩
end Go.Proofs.Ytjcomklheilfjaa.Build

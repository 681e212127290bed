/- Layer 7: the document's primitives are the program's: plain. -/
import Derived.Test.YtjcomklheilfjaaRef2
set_option linter.unusedVariables false
set_option linter.unusedSimpArgs false
namespace Go.Proofs.Ytjcomklheilfjaa.Build
open Go.RowKit Go

/-- The greatest vertex of the i-th. -/
def oneTop (m i : Nat) : Int := match m with
  | 0 => i | 1 => 2 * (i : Int) + 1 | 2 => (i : Int) + 1 | 3 => (i : Int) + 1 | 4 => 3 * (i : Int) + 2 | 5 => (i : Int) + 2 | 6 => (i : Int) + 2 | 7 => 4 * (i : Int) + 3 | _ => 2 * (i : Int) + 3
theorem oneV_len (m k : Nat) : 1 ≤ (oneV m k).length ∧ (oneV m k).length ≤ 4 := by
  match m with
  | 0 | 1 | 2 | 3 | 4 | 6 | 7 => simp [oneV]
  | 5 => simp only [oneV]; split <;> simp
  | m + 8 => simp [oneV]
theorem oneV_max (m k : Nat) : maxF (oneV m k) (oneV m k).length = oneTop m k := by
  match m with
  | 0 | 1 | 2 | 3 | 4 | 6 | 7 => simp [oneV, maxF, oneTop, List.getD_eq_getElem?_getD]; try omega
  | 5 => simp only [oneV]; split <;> simp [maxF, oneTop, List.getD_eq_getElem?_getD] <;> omega
  | m + 8 => simp [oneV, maxF, oneTop, List.getD_eq_getElem?_getD]; try omega
theorem oneV_mem (m k j : Nat) (hj : j < (oneV m k).length) : 0 ≤ (oneV m k).getD j 0 ∧ (oneV m k).getD j 0 ≤ oneTop m k := by
  have h4 := (oneV_len m k).2
  match m with
  | 0 | 1 | 2 | 3 | 4 | 6 | 7 =>
    simp only [oneV, List.length_cons, List.length_nil] at hj
    match j, hj with
    | 0, _ | 1, _ | 2, _ | 3, _ => simp [oneV, oneTop]; try omega
  | 5 =>
    simp only [oneV] at hj ⊢
    split at hj
    · rename_i h
      rw [if_pos h]
      simp only [List.length_cons, List.length_nil] at hj
      match j, hj with
      | 0, _ | 1, _ | 2, _ => simp [oneTop]; try omega
    · rename_i h
      rw [if_neg h]
      simp only [List.length_cons, List.length_nil] at hj
      match j, hj with
      | 0, _ | 1, _ | 2, _ => simp [oneTop]; try omega
  | m + 8 =>
    simp only [oneV, List.length_cons, List.length_nil] at hj
    match j, hj with
    | 0, _ | 1, _ | 2, _ | 3, _ => simp [oneV, oneTop]; try omega
/-- How many the document's loop makes. -/
def refC (m n : Nat) : Nat := if m = 3 then n - 1 else countN m n
theorem oneTop_top (m n : Nat) (hm : m < 9) (hn : n ≤ 256) : refC m n ≤ n ∧ (∀ k, k < refC m n → oneTop m k < n) ∧ (refC m n < n → (n : Int) ≤ oneTop m (refC m n)) := by
  by_cases h3 : m = 3
  · subst h3
    simp only [refC, if_true, oneTop]
    refine ⟨by omega, fun k hk => by omega, fun h => by omega⟩
  · have hc : refC m n = countN m n := by unfold refC; rw [if_neg h3]
    rw [hc]
    have hcn : countN m n = (countF m n).toNat := rfl
    rcases Nat.eq_zero_or_pos n with h0 | h0
    · subst h0
      have : countF m (0 : Nat) = 0 := by unfold countF; rw [if_pos (by omega)]
      rw [hcn, this]; simp
    · have h : countF m n = if (n : Int) < (planOf m).v.length then 0 else ((n : Int) - (planOf m).v.length).tdiv (planOf m).step + 1 := by
        unfold countF; rw [if_neg (by omega), if_neg (by omega), if_neg (by omega), Int.toNat_natCast]
      rw [h] at hcn
      rw [hcn]
      match m, hm, h3 with
      | 0, _, _ | 1, _, _ | 2, _, _ | 4, _, _ | 5, _, _ | 6, _, _ | 7, _, _ | 8, _, _ =>
        simp only [planOf, List.length_cons, List.length_nil, oneTop]
        split
        · rename_i h
          simp only [Int.toNat_zero]
          refine ⟨by omega, fun k hk => by omega, fun h => by omega⟩
        · rename_i h
          rw [Int.tdiv_eq_ediv_of_nonneg (by omega)]
          refine ⟨by omega, fun k hk => by omega, fun h => by omega⟩
theorem ref_ok (m : Nat) (fs : List Bool) (hm : m < 9) (hn : fs.length ≤ 256) : RefOk m fs (refC m fs.length) := by
  obtain ⟨h1, h2, h3⟩ := oneTop_top m fs.length hm hn
  refine ⟨h1, fun k => oneV_len m k, fun k hk => by rw [oneV_max]; exact h2 k hk, fun k hk j hj => ?_, fun h => by rw [oneV_max]; exact h3 h⟩
  obtain ⟨h4, h5⟩ := oneV_mem m k j hj
  have := h2 k hk
  exact ⟨((oneV m k).getD j 0).toNat, by omega, by omega⟩
theorem vert_same (m n i : Nat) (hm : m < 9) (h : oneTop m i < n) : vertsOf (planOf m) n i = oneV m i := by
  match m, hm with
  | 0, _ | 1, _ | 2, _ | 3, _ | 4, _ | 6, _ | 7, _ | 8, _ =>
    simp only [oneTop] at h
    simp [vertsOf, addOf, planOf, vertF, oneV, List.range_succ]
    and_intros <;> exact Int.emod_eq_of_lt (by omega) (by omega)
  | 5, _ =>
    simp only [oneTop] at h
    by_cases hi : i % 2 = 1
    · simp [vertsOf, addOf, planOf, oneV, hi, List.range_succ, vertF]
      and_intros <;> exact Int.emod_eq_of_lt (by omega) (by omega)
    · simp [vertsOf, addOf, planOf, oneV, hi, List.range_succ, vertF]
      and_intros <;> exact Int.emod_eq_of_lt (by omega) (by omega)
theorem prim_same (m : Nat) (fs : List Bool) (first : Bool) (i : Nat) (hm : m < 9) (h : oneTop m i < fs.length) : primF (planOf m) fs first i = refP m fs first i := by
  unfold primF refP
  rw [vert_same m fs.length i hm h]
  have hfl : (planOf m).flagged = oneFl m := by
    match m, hm with
    | 0, _ | 1, _ | 2, _ | 3, _ | 4, _ | 5, _ | 6, _ | 7, _ | 8, _ => rfl
  rw [hfl]
  congr 1
  match m, hm with
  | 0, _ | 1, _ | 2, _ | 3, _ | 4, _ | 5, _ | 6, _ | 7, _ | 8, _ =>
    simp only [oneTop] at h
    simp only [planOf, oneP, oneQ]
    split
    · omega
    · rw [Int.emod_eq_of_lt (by omega) (by omega)]; try omega
theorem prims_same (m : Nat) (fs : List Bool) (first : Bool) (hm : m < 9) (hn : fs.length ≤ 256) : (List.range (refC m fs.length)).map (refP m fs first) ++ closeP m fs.length first = primsF m fs first := by
  obtain ⟨h1, h2, h3⟩ := oneTop_top m fs.length hm hn
  unfold primsF
  by_cases hm3 : m = 3
  · subst hm3
    rcases Nat.lt_or_ge fs.length 2 with hl | hl
    · have hc : closeP 3 fs.length first = [] := by unfold closeP; rw [if_neg (by omega)]
      have h4 : refC 3 fs.length = 0 := by unfold refC; simp; omega
      have h5 : countN 3 fs.length = 0 := by
        unfold countN countF
        split
        · rfl
        · rw [if_neg (by omega), if_pos (by omega), if_pos (by omega)]; rfl
      rw [hc, h4, h5]; rfl
    · have h5 : countN 3 fs.length = (fs.length - 1) + 1 := by
        unfold countN countF
        rw [if_neg (by omega), if_neg (by omega), if_pos (by omega), if_neg (by omega)]; omega
      have h4 : refC 3 fs.length = fs.length - 1 := by unfold refC; simp
      rw [h4] at h2
      rw [h4, h5, List.range_succ, List.map_append]
      congr 1
      · refine List.map_congr_left fun i hi => (prim_same 3 fs first i (by omega) (h2 i (List.mem_range.1 hi))).symm
      · have hv : vertsOf (planOf 3) fs.length (fs.length - 1) = [(fs.length : Int) - 1, 0] := by
          have e1 : ((fs.length : Int) - 1) % fs.length = (fs.length : Int) - 1 := Int.emod_eq_of_lt (by omega) (by omega)
          have e2 : ((fs.length - 1 : Nat) : Int) = (fs.length : Int) - 1 := by omega
          simp [vertsOf, addOf, planOf, vertF, List.range_succ, e2, e1]
        unfold closeP primF
        simp only [List.map_cons, List.map_nil]
        rw [if_pos ⟨trivial, hl⟩, hv]
        have hp : (if first then (planOf 3).step * ((fs.length - 1 : Nat) : Int) + (planOf 3).first else ((planOf 3).step * ((fs.length - 1 : Nat) : Int) + (planOf 3).last) % (fs.length : Int)) = if first then (fs.length : Int) - 1 else 0 := by
          have e2 : ((fs.length - 1 : Nat) : Int) = (fs.length : Int) - 1 := by omega
          simp [planOf, e2]
        rw [hp]
        simp [sidesF]
  · have hc : closeP m fs.length first = [] := by unfold closeP; rw [if_neg (by omega)]
    have h4 : refC m fs.length = countN m fs.length := by unfold refC; rw [if_neg hm3]
    rw [h4] at h2
    rw [hc, List.append_nil, h4]
    exact List.map_congr_left fun i hi => (prim_same m fs first i hm (h2 i (List.mem_range.1 hi))).symm
end Go.Proofs.Ytjcomklheilfjaa.Build

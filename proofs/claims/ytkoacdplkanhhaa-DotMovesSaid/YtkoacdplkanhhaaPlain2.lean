/- Layer 19: grids, what is in reach: plain laws for DotCounts, DotMoves, DotSprites. -/
import Derived.Test.YtkoacdplkanhhaaPlain
set_option linter.unusedVariables false
set_option linter.unusedSimpArgs false
set_option maxRecDepth 10000
namespace Go.Proofs.Ytkoacdplkanhhaa.Fns
open Go.Sx Go.Proofs.Ytkoacdplkanhhaa.Trees

/-! ### A full grid -/
def gridN (f : Int → Int → List Int) (a : Int) (w : Nat) (b : Int) (n : Nat) : List (List Int) := (rngN b n).flatMap fun y => (rngN a w).map fun x => f x y
theorem rngN_len {a : Int} {n : Nat} : (rngN a n).length = n := by simp [rngN]
theorem rngN_get {a : Int} {n i : Nat} (h : i < n) : (rngN a n)[i]? = some (a + (i : Int)) := by simp [rngN, List.getElem?_map, List.getElem?_range h]
theorem gridN_succ {f : Int → Int → List Int} {a b : Int} {w n : Nat} : gridN f a w b (n + 1) = gridN f a w b n ++ (rngN a w).map fun x => f x (b + (n : Int)) := by simp [gridN, rngN_succ, List.flatMap_append]
theorem gridN_len {f : Int → Int → List Int} {a b : Int} {w n : Nat} : (gridN f a w b n).length = n * w := by
  induction n with
  | zero => simp [gridN, rngN]
  | succ n ih => rw [gridN_succ, List.length_append, ih, List.length_map, rngN_len, Nat.succ_mul]
theorem gridN_get {f : Int → Int → List Int} {a b : Int} {w : Nat} : ∀ {n i : Nat}, i < n * w → (gridN f a w b n)[i]? = some (f (a + ((i % w : Nat) : Int)) (b + ((i / w : Nat) : Int))) := by
  intro n
  induction n with
  | zero => intro i h; simp at h
  | succ n ih =>
    intro i h
    have hw : 0 < w := by
      rcases Nat.eq_zero_or_pos w with h0 | h0
      · subst h0; simp at h
      · exact h0
    rw [gridN_succ]
    rcases Nat.lt_or_ge i (n * w) with h1 | h1
    · rw [List.getElem?_append_left (by rw [gridN_len]; exact h1)]
      exact ih h1
    · rw [List.getElem?_append_right (by rw [gridN_len]; exact h1), gridN_len, List.getElem?_map]
      rw [Nat.succ_mul] at h
      have hj : i - n * w < w := by omega
      rw [rngN_get hj, Option.map_some]
      have e1 : i = (i - n * w) + n * w := by omega
      have e2 : i % w = i - n * w := by
        conv => lhs; rw [e1]
        rw [Nat.add_mul_mod_self_right, Nat.mod_eq_of_lt hj]
      have e3 : i / w = n := by
        conv => lhs; rw [e1]
        rw [Nat.add_mul_div_right _ _ hw, Nat.div_eq_of_lt hj]; omega
      rw [e2, e3]
theorem fm_single {α β : Type} {f : α → β} {l : List α} : (l.flatMap fun x => [f x]) = l.map f := by
  induction l with
  | nil => rfl
  | cons x l ih => simp [ih]
theorem all_grid {g : Int → Int → List Int} {a b c d : Int} (h : ∀ x y, (a ≤ x ∧ x < c) → (b ≤ y ∧ y < d) → 0 < (g x y).getD 7 0) : allL g a b c d = gridN g a (c - a).toNat b (d - b).toNat := by
  rw [allL_eq]
  unfold gridN
  refine fm_congr fun y hy => ?_
  rw [show rngN a (c - a).toNat = rng a c from rfl, ← fm_single]
  have hy := mem_rng.1 (show y ∈ rng b d from hy)
  refine fm_congr fun x hx => ?_
  rw [mem_rng] at hx
  exact keep_pos (h x y hx hy)
theorem mem_all {g : Int → Int → List Int} {a b c d : Int} {row : List Int} : row ∈ allL g a b c d ↔ ∃ x y, (a ≤ x ∧ x < c) ∧ (b ≤ y ∧ y < d) ∧ row = g x y ∧ 0 < (g x y).getD 7 0 := by
  rw [allL_eq]
  simp only [List.mem_flatMap]
  constructor
  · rintro ⟨y, hy, x, hx, hr⟩
    rw [mem_rng] at hx hy
    unfold keep at hr
    split at hr
    · rename_i h; simp only [List.mem_singleton] at hr; exact ⟨x, y, hx, hy, hr, h⟩
    · simp at hr
  · rintro ⟨x, y, hx, hy, rfl, h⟩
    exact ⟨y, mem_rng.2 hy, x, mem_rng.2 hx, by rw [keep_pos h]; simp⟩
theorem cell_get {l : List (List Int)} {i j : Nat} {row : List Int} (h : l[i]? = some row) : cellAt l (i : Int) j = row.getD j 0 := by
  unfold cellAt
  congr 1
  simp [List.getD, h]
/-! ### In reach -/
theorem cov_out2 {X Y F x y : Int} (hF : 0 ≤ F) (h : ¬ (((X - F - 240) / 256 + 1 ≤ x ∧ x < (X + F - 17) / 256 + 1) ∧ ((Y - F - 240) / 256 + 1 ≤ y ∧ y < (Y + F - 17) / 256 + 1))) : cov X Y (F * F) x y = 0 := by
  unfold cov
  rw [cnt_congr (g := fun _ => 0) fun i hi => ?_, cnt_zero]
  rw [cnt_congr (g := fun _ => 0) fun k hk => ?_, cnt_zero]
  unfold ind
  rw [if_neg]
  have p1 := sq_pos (P := 256 * x + 32 * i + 16 - X)
  have p2 := sq_pos (P := 256 * y + 32 * k + 16 - Y)
  by_cases hx : (X - F - 240) / 256 + 1 ≤ x ∧ x < (X + F - 17) / 256 + 1
  · have := sq_far (P := 256 * y + 32 * k + 16 - Y) hF (by omega)
    omega
  · have := sq_far (P := 256 * x + 32 * i + 16 - X) hF (by omega)
    omega
theorem cnt_one {f : Nat → Int} {n i : Nat} (hi : i < n) (h : ∀ j, j < n → 0 ≤ f j) : f i ≤ cnt n f := by
  induction n with
  | zero => omega
  | succ n ih =>
    simp only [cnt]
    have h0 := cnt_ge (n := n) (f := f) fun j hj => h j (by omega)
    have h1 := h n (by omega)
    rcases Nat.lt_or_ge i n with h2 | h2
    · have := ih h2 fun j hj => h j (by omega)
      omega
    · have : i = n := by omega
      subst this; omega
theorem small_sq {P : Int} (h1 : -16 ≤ P) (h2 : P ≤ 16) : P * P ≤ 256 := by
  have := mul_bd h1 h2 h1 h2
  omega
theorem cov_mid {X Y F : Int} (hF : 128 ≤ F) : 0 < cov X Y (F * F) (X / 256) (Y / 256) := by
  have hq : 16384 ≤ F * F := by
    have := Int.mul_le_mul hF hF (by omega) (by omega)
    omega
  obtain ⟨i, hi⟩ : ∃ i : Nat, (i : Int) = X % 256 / 32 := ⟨(X % 256 / 32).toNat, by omega⟩
  obtain ⟨k, hk⟩ : ∃ k : Nat, (k : Int) = Y % 256 / 32 := ⟨(Y % 256 / 32).toNat, by omega⟩
  have h1 : ind X Y (F * F) (X / 256) (Y / 256) i k = 1 := by
    unfold ind
    have p1 := small_sq (P := 256 * (X / 256) + 32 * i + 16 - X) (by omega) (by omega)
    have p2 := small_sq (P := 256 * (Y / 256) + 32 * k + 16 - Y) (by omega) (by omega)
    rw [if_pos (by omega)]
  have h2 := cnt_one (f := fun k => ind X Y (F * F) (X / 256) (Y / 256) i k) (n := 8) (i := k) (by omega) fun j _ => ind_01.1
  have h3 := cnt_one (f := fun i => cnt 8 fun k => ind X Y (F * F) (X / 256) (Y / 256) i k) (n := 8) (i := i) (by omega) fun j _ => cnt_ind'.1
  unfold cov
  omega
end Go.Proofs.Ytkoacdplkanhhaa.Fns

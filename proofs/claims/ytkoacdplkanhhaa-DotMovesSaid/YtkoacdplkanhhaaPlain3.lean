/- Layer 19: points moved, rectangles within rectangles: plain laws; the law DotMoves, as a function. -/
import Derived.Test.YtkoacdplkanhhaaLaws4
set_option linter.unusedVariables false
set_option linter.unusedSimpArgs false
set_option maxRecDepth 10000
namespace Go.Proofs.Ytkoacdplkanhhaa.Fns
open Go.Sx Go.Proofs.Ytkoacdplkanhhaa.Trees

/-! ### Moved -/
def shiftL (u v : Int) (l : List Int) : List Int := [l.getD 0 0 + u, l.getD 1 0 + v, l.getD 2 0, l.getD 3 0, l.getD 4 0, l.getD 5 0, l.getD 6 0, l.getD 7 0]
theorem first_shift {X S u : Int} : firstI (X + 256 * u) S = firstI X S + u := by
  unfold firstI
  rw [show X + 256 * u + (S + 1) % 2 * 128 = X + (S + 1) % 2 * 128 + 256 * u by omega, Int.add_mul_ediv_left _ _ (by omega)]
  omega
theorem hasBox_iff {X Y Z p q r s S x y : Int} (h : sizeP X Y Z p q r s S) : hasBox X Y S x y = true ↔ ((firstI X S ≤ x ∧ x < firstI X S + S) ∧ (firstI Y S ≤ y ∧ y < firstI Y S + S)) := by
  obtain ⟨⟨_, x12, y12, _⟩, s1, s2⟩ := h
  obtain ⟨fx1, fx2⟩ := first_bd x12 s1 s2
  obtain ⟨fy1, fy2⟩ := first_bd y12 s1 s2
  have hbox : rightP (firstI X S) (firstI Y S) (firstI X S + S) (firstI Y S + S) := by unfold rightP; omega
  unfold hasBox hasB rightB
  rw [decide_eq_true hbox]
  simp only [Bool.true_and, Bool.and_eq_true, decide_eq_true_eq]
  constructor
  · rintro ⟨⟨⟨h1, h2⟩, h3⟩, h4⟩; exact ⟨⟨h1, h2⟩, h3, h4⟩
  · rintro ⟨⟨h1, h2⟩, h3, h4⟩; exact ⟨⟨⟨h1, h2⟩, h3⟩, h4⟩
theorem col_shift {K X S p x u : Int} : colI K (X + 256 * u) S p (x + u) = colI K X S p x := by
  unfold colI
  rw [show (x + u) * 256 + 128 - (X + 256 * u) + S * 128 = x * 256 + 128 - X + S * 128 by omega]
theorem cov_shift {X Y Q x y u v : Int} : cov (X + 256 * u) (Y + 256 * v) Q (x + u) (y + v) = cov X Y Q x y := by
  unfold cov
  refine cnt_congr fun i _ => cnt_congr fun k _ => ?_
  unfold ind
  rw [show 256 * (x + u) + 32 * (i : Int) + 16 - (X + 256 * u) = 256 * x + 32 * i + 16 - X by omega, show 256 * (y + v) + 32 * (k : Int) + 16 - (Y + 256 * v) = 256 * y + 32 * k + 16 - Y by omega]
theorem gR_shift {X Y Z p q r s S K u v : Int} (h : sizeP X Y Z p q r s S) (h' : sizeP (X + 256 * u) (Y + 256 * v) Z p q r s S) (x y : Int) : gR (X + 256 * u) (Y + 256 * v) Z p q r s S K (x + u) (y + v) = shiftL u v (gR X Y Z p q r s S K x y) := by
  have e : hasBox (X + 256 * u) (Y + 256 * v) S (x + u) (y + v) = hasBox X Y S x y := by
    have h1 := hasBox_iff (x := x) (y := y) h
    have h2 := hasBox_iff (x := x + u) (y := y + v) h'
    rw [first_shift, first_shift] at h2
    cases h3 : hasBox X Y S x y
    · rw [h3] at h1
      cases h4 : hasBox (X + 256 * u) (Y + 256 * v) S (x + u) (y + v)
      · rfl
      · rw [h4] at h2
        have := h2.1 rfl
        have := h1.2 (by omega)
        cases this
    · have := h1.1 h3
      exact h2.2 (by omega)
  unfold gR fragL shiftL
  rw [e, col_shift, col_shift, cov_shift]
  rfl
theorem keep_shift {u v : Int} {l : List Int} : keep (shiftL u v l) = (keep l).map (shiftL u v) := by
  have e : (shiftL u v l).getD 7 0 = l.getD 7 0 := rfl
  unfold keep
  rw [e]
  split <;> rfl
theorem rngN_shift {a u : Int} {n : Nat} : rngN (a + u) n = (rngN a n).map fun x => x + u := by
  unfold rngN
  rw [List.map_map]
  refine List.map_congr_left fun k _ => ?_
  show a + u + (k : Int) = a + (k : Int) + u
  omega
theorem all_shift {g g' : Int → Int → List Int} {a b c d u v : Int} (h : ∀ x y, g' (x + u) (y + v) = shiftL u v (g x y)) : allL g' (a + u) (b + v) (c + u) (d + v) = (allL g a b c d).map (shiftL u v) := by
  rw [allL_eq, allL_eq]
  unfold rng
  rw [show c + u - (a + u) = c - a by omega, show d + v - (b + v) = d - b by omega, rngN_shift, rngN_shift, List.flatMap_map, List.map_flatMap]
  refine fm_congr fun y _ => ?_
  rw [List.flatMap_map, List.map_flatMap]
  refine fm_congr fun x _ => ?_
  rw [h, keep_shift]
theorem cell_shift {L : List (List Int)} {u v : Int} {i : Nat} (hi : i < L.length) : cellAt (L.map (shiftL u v)) i 0 = cellAt L i 0 + u ∧ cellAt (L.map (shiftL u v)) i 1 = cellAt L i 1 + v ∧ cellAt (L.map (shiftL u v)) i 2 = cellAt L i 2 ∧ cellAt (L.map (shiftL u v)) i 3 = cellAt L i 3 ∧ cellAt (L.map (shiftL u v)) i 4 = cellAt L i 4 ∧ cellAt (L.map (shiftL u v)) i 5 = cellAt L i 5 ∧ cellAt (L.map (shiftL u v)) i 6 = cellAt L i 6 ∧ cellAt (L.map (shiftL u v)) i 7 = cellAt L i 7 := by
  have h1 : L[i]? = some L[i] := List.getElem?_eq_getElem hi
  have h2 : (L.map (shiftL u v))[i]? = some (shiftL u v L[i]) := by rw [List.getElem?_map, h1]; rfl
  simp only [cell_get h1, cell_get h2]
  exact ⟨rfl, rfl, rfl, rfl, rfl, rfl, rfl, rfl⟩
/-! ### Within a rectangle -/
def inR (a b c d : Int) (l : List Int) : Bool := hasB a b c d (l.getD 0 0) (l.getD 1 0)
theorem keep_if {l : List Int} {P : List Int → Bool} : (keep l).filter P = keep (if P l = true then l else []) := by
  unfold keep
  by_cases h : P l = true
  · rw [if_pos h]
    split
    · simp [h]
    · rfl
  · rw [if_neg h]
    split
    · simp [h]
    · rfl
theorem all_filter {g : Int → Int → List Int} {P : List Int → Bool} {a b c d : Int} : (allL g a b c d).filter P = allL (fun x y => if P (g x y) = true then g x y else []) a b c d := by
  rw [allL_eq, allL_eq, List.filter_flatMap]
  refine fm_congr fun y _ => ?_
  rw [List.filter_flatMap]
  exact fm_congr fun x _ => keep_if
theorem all_in {g : Int → Int → List Int} {A B C D a b c d : Int} (h0 : ∀ x y, (g x y).getD 0 0 = x) (h1 : ∀ x y, (g x y).getD 1 0 = y) (hR : rightP A B C D) : (allL g a b c d).filter (inR A B C D) = allL g (max A a) (max B b) (min C c) (min D d) := by
  have hi : ∀ x y, inR A B C D (g x y) = true ↔ ((A ≤ x ∧ x < C) ∧ (B ≤ y ∧ y < D)) := fun x y => by
    unfold inR hasB rightB
    rw [h0, h1, decide_eq_true hR]
    simp only [Bool.true_and, Bool.and_eq_true, decide_eq_true_eq]
    constructor
    · rintro ⟨⟨⟨h1, h2⟩, h3⟩, h4⟩; exact ⟨⟨h1, h2⟩, h3, h4⟩
    · rintro ⟨⟨h1, h2⟩, h3, h4⟩; exact ⟨⟨⟨h1, h2⟩, h3⟩, h4⟩
  rw [all_filter, all_cut (a' := A) (b' := B) (c' := C) (d' := D) fun x y _ _ hn => by
    rw [if_neg (fun h => hn ((hi x y).1 h))]
    rfl]
  refine all_congr fun x y hx hy => ?_
  rw [if_pos ((hi x y).2 ⟨by omega, by omega⟩)]
theorem filter_step {α : Type} {P : α → Bool} {L : List α} {i : Nat} (hi : i < L.length) : (L.take (i + 1)).filter P = (L.take i).filter P ++ (if P L[i] = true then [L[i]] else []) := by
  rw [List.take_succ_eq_append_getElem hi, List.filter_append]
  congr 1
  by_cases h : P L[i] = true
  · rw [if_pos h]; simp [h]
  · rw [if_neg h]; simp [h]
theorem filter_at {α : Type} {P : α → Bool} {L : List α} {i : Nat} (hi : i < L.length) (h : P L[i] = true) : ((L.filter P)[((L.take i).filter P).length]?) = some L[i] := by
  have e : L.filter P = (L.take (i + 1)).filter P ++ (L.drop (i + 1)).filter P := by rw [← List.filter_append, List.take_append_drop]
  rw [e, filter_step hi, if_pos h, List.append_assoc, List.getElem?_append_right (Nat.le_refl _)]
  simp
/-- The whole of a point, moved; what a rectangle shows of it. -/
theorem moves {X Y Z p q r s S K u v : Int} (h : rightD X Y Z p q r s S K) (h' : sizeP (X + 256 * u) (Y + 256 * v) Z p q r s S) (hu : -128 ≤ u ∧ u ≤ 127) (hv : -128 ≤ v ∧ v ≤ 127) :
    pointL (X + 256 * u) (Y + 256 * v) Z p q r s S K (X.tdiv 256 - S - 2 + u) (Y.tdiv 256 - S - 2 + v) (X.tdiv 256 + S + 3 + u) (Y.tdiv 256 + S + 3 + v) = (pointL X Y Z p q r s S K (X.tdiv 256 - S - 2) (Y.tdiv 256 - S - 2) (X.tdiv 256 + S + 3) (Y.tdiv 256 + S + 3)).map (shiftL u v) := by
  have hw := whole_right h.1
  obtain ⟨⟨_, ⟨x1, x2⟩, ⟨y1, y2⟩, _⟩, s1, s2⟩ := id h.1
  have tx := tdiv_near X
  have ty := tdiv_near Y
  have hw2 : rightP (X.tdiv 256 - S - 2 + u) (Y.tdiv 256 - S - 2 + v) (X.tdiv 256 + S + 3 + u) (Y.tdiv 256 + S + 3 + v) := by unfold rightP; omega
  rw [point_ref, point_ref]
  unfold refL
  rw [if_pos ⟨⟨h', h.2⟩, decide_eq_true hw2⟩, if_pos ⟨h, decide_eq_true hw⟩]
  exact all_shift (gR_shift h.1 h')
theorem shows {X Y Z p q r s S K a b c d : Int} (h : rightD X Y Z p q r s S K) : pointL X Y Z p q r s S K (andX (X.tdiv 256 - S - 2) (Y.tdiv 256 - S - 2) (X.tdiv 256 + S + 3) (Y.tdiv 256 + S + 3) a b c d).1 (andX (X.tdiv 256 - S - 2) (Y.tdiv 256 - S - 2) (X.tdiv 256 + S + 3) (Y.tdiv 256 + S + 3) a b c d).2.1 (andX (X.tdiv 256 - S - 2) (Y.tdiv 256 - S - 2) (X.tdiv 256 + S + 3) (Y.tdiv 256 + S + 3) a b c d).2.2.1 (andX (X.tdiv 256 - S - 2) (Y.tdiv 256 - S - 2) (X.tdiv 256 + S + 3) (Y.tdiv 256 + S + 3) a b c d).2.2.2 = (pointL X Y Z p q r s S K (X.tdiv 256 - S - 2) (Y.tdiv 256 - S - 2) (X.tdiv 256 + S + 3) (Y.tdiv 256 + S + 3)).filter (inR a b c d) := by
  have hw := whole_right h.1
  generalize (X.tdiv 256 - S - 2) = A at *
  generalize (Y.tdiv 256 - S - 2) = B at *
  generalize (X.tdiv 256 + S + 3) = C at *
  generalize (Y.tdiv 256 + S + 3) = D at *
  rw [point_ref, point_ref]
  have hP : refL X Y Z p q r s S K A B C D = allL (gR X Y Z p q r s S K) A B C D := by unfold refL; rw [if_pos ⟨h, decide_eq_true hw⟩]
  rw [hP]
  by_cases hR : rightP a b c d
  · rw [all_in (fun _ _ => rfl) (fun _ _ => rfl) hR]
    unfold andX
    by_cases hA : andOk A B C D a b c d = true
    · rw [if_pos hA]
      unfold andOk at hA
      simp only [Bool.and_eq_true] at hA
      unfold refL
      rw [if_pos ⟨h, hA.2.2⟩, Int.max_comm A, Int.max_comm B, Int.min_comm C, Int.min_comm D]
    · rw [if_neg hA]
      have hn : ¬ rightP (max A a) (max B b) (min C c) (min D d) := fun h3 => hA (by unfold andOk rightB; rw [decide_eq_true hw, decide_eq_true hR, decide_eq_true h3]; rfl)
      rw [all_empty (show min c C ≤ max a A ∨ min d D ≤ max b B by unfold rightP at *; omega)]
      unfold refL
      rw [if_neg (fun h => by have := h.2; revert this; decide)]
  · have hA : ¬ andOk A B C D a b c d = true := fun hA => by
      unfold andOk at hA
      simp only [Bool.and_eq_true] at hA
      exact hR (of_decide_eq_true hA.2.1)
    unfold andX
    rw [if_neg hA]
    have e : ∀ l, inR a b c d l = false := fun l => by
      unfold inR hasB rightB
      rw [decide_eq_false hR]
      rfl
    rw [List.filter_eq_nil_iff.2 (fun l _ => by rw [e l]; decide)]
    unfold refL
    rw [if_neg (fun h => by have := h.2; revert this; decide)]
theorem move_cells {X Y Z p q r s S K : Int} {i : Nat} {L : List (List Int)} (h : rightD X Y Z p q r s S K) (hL : L = pointL X Y Z p q r s S K (X.tdiv 256 - S - 2) (Y.tdiv 256 - S - 2) (X.tdiv 256 + S + 3) (Y.tdiv 256 + S + 3)) (hi : i < L.length) : (-4194304 ≤ cellAt L i 0 ∧ cellAt L i 0 ≤ 4194304) ∧ (-4194304 ≤ cellAt L i 1 ∧ cellAt L i 1 ≤ 4194304) := by
  have hw := whole_right h.1
  rw [point_ref] at hL
  unfold refL at hL
  rw [if_pos ⟨h, decide_eq_true hw⟩] at hL
  have hm := List.getElem_mem hi
  have hg : L[i]? = some L[i] := List.getElem?_eq_getElem hi
  generalize L[i] = row at hm hg
  rw [hL] at hm
  obtain ⟨x, y, hx, hy, he, _⟩ := mem_all.1 hm
  have e0 : cellAt L i 0 = x := by rw [cell_get hg, he]; rfl
  have e1 : cellAt L i 1 = y := by rw [cell_get hg, he]; rfl
  rw [e0, e1]
  unfold rightP at hw
  omega
theorem move_len {X Y Z p q r s S K : Int} (h : rightD X Y Z p q r s S K) : (pointL X Y Z p q r s S K (X.tdiv 256 - S - 2) (Y.tdiv 256 - S - 2) (X.tdiv 256 + S + 3) (Y.tdiv 256 + S + 3)).length ≤ 20000 := by
  have hw := whole_right h.1
  obtain ⟨_, s1, s2⟩ := h.1
  rw [point_ref]
  unfold refL
  rw [if_pos ⟨h, decide_eq_true hw⟩]
  refine Nat.le_trans all_len (Nat.le_trans (Nat.mul_le_mul (show _ ≤ 133 by omega) (show _ ≤ 133 by omega)) (by omega))
end Go.Proofs.Ytkoacdplkanhhaa.Fns

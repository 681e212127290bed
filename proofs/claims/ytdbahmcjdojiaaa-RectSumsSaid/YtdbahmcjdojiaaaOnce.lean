/- Layer 12: pixels are counted once, areas add up: plain. -/
import Derived.Test.YtdbahmcjdojiaaaLaws2
set_option linter.unusedVariables false
set_option linter.unusedSimpArgs false
set_option maxRecDepth 10000
namespace Go.Proofs.Ytdbahmcjdojiaaa.Fns
open Go.Sx Go.Proofs.Ytdbahmcjdojiaaa.Trees

def hasR (px py : Int) (r : List Int) : Bool := hasB (r.getD 0 0) (r.getD 1 0) (r.getD 2 0) (r.getD 3 0) px py
def cnt (px py : Int) (l : List (List Int)) : Nat := l.countP (hasR px py)
theorem cnt_nil (px py : Int) : cnt px py [] = 0 := rfl
theorem cnt_cons (px py : Int) (r : List Int) (l : List (List Int)) : cnt px py (r :: l) = cnt px py l + if hasR px py r then 1 else 0 := List.countP_cons
theorem has_right {a b c d px py : Int} (h : hasB a b c d px py = true) : rightB a b c d = true := by
  simp only [hasB, Bool.and_eq_true] at h
  exact h.1.1.1.1
theorem cnt_those (px py : Int) (l : List (List Int)) : cnt px py (thoseL l) = cnt px py l := by
  induction l with
  | nil => rfl
  | cons r l ih =>
    unfold thoseL at ih ⊢
    rw [cnt_cons, ← ih]
    by_cases h : rowRight r = true
    · rw [List.filter_cons_of_pos h, List.map_cons, cnt_cons]
      rfl
    · rw [List.filter_cons_of_neg h]
      have : hasR px py r = false := by
        apply Bool.eq_false_iff.2
        intro hh
        exact h (has_right hh)
      rw [this]
      rfl
def isIn (a b c d px py : Int) : Prop := a ≤ px ∧ px < c ∧ b ≤ py ∧ py < d
theorem has_iff {a b c d px py : Int} : hasB a b c d px py = true ↔ rightP a b c d ∧ isIn a b c d px py := by
  simp only [hasB, rightB, isIn, Bool.and_eq_true, decide_eq_true_eq]
  constructor
  · rintro ⟨⟨⟨⟨h, a⟩, b⟩, c⟩, d⟩; exact ⟨h, a, b, c, d⟩
  · rintro ⟨h, a, b, c, d⟩; exact ⟨⟨⟨⟨h, a⟩, b⟩, c⟩, d⟩
def num (p : Prop) [Decidable p] : Nat := if p then 1 else 0
theorem num_eq {p : Prop} [Decidable p] {b : Bool} (h : b = true ↔ p) : (if b = true then 1 else 0) = num p := by
  unfold num
  by_cases hp : p
  · rw [if_pos hp, if_pos (h.2 hp)]
  · rw [if_neg hp, if_neg (fun hb => hp (h.1 hb))]
theorem parts_num {a b c d X Y px py : Int} (h : rightP a b c d) (hx1 : a ≤ X) (hx2 : X ≤ c) (hy1 : b ≤ Y) (hy2 : Y ≤ d) : cnt px py (partsX a b c d X Y) = if hasB a b c d px py then 1 else 0 := by
  unfold partsX
  rw [cnt_those, cnt_cons, cnt_cons, cnt_cons, cnt_cons, cnt_nil]
  have ee : ∀ x0 y0 x1 y1, hasR px py [x0, y0, x1, y1] = hasB x0 y0 x1 y1 px py := fun _ _ _ _ => rfl
  simp only [ee]
  have k : ∀ x0 y0 x1 y1, a ≤ x0 → x1 ≤ c → b ≤ y0 → y1 ≤ d → x0 ≤ x1 → y0 ≤ y1 → (hasB x0 y0 x1 y1 px py = true ↔ (x0 ≤ px ∧ px < x1 ∧ y0 ≤ py ∧ py < y1)) := by
    intro x0 y0 x1 y1 h1 h2 h3 h4 h5 h6
    rw [has_iff]
    unfold rightP isIn at *
    omega
  rw [num_eq (k a b c d (by omega) (by omega) (by omega) (by omega) (by omega) (by omega)), num_eq (k a b X Y (by omega) (by omega) (by omega) (by omega) (by omega) (by omega)), num_eq (k X b c Y (by omega) (by omega) (by omega) (by omega) (by omega) (by omega)),
    num_eq (k a Y X d (by omega) (by omega) (by omega) (by omega) (by omega) (by omega)), num_eq (k X Y c d (by omega) (by omega) (by omega) (by omega) (by omega) (by omega))]
  unfold num
  grind
theorem cnt_parts (a b c d x y px py : Int) : cnt px py (partsL a b c d x y) = if hasB a b c d px py then 1 else 0 := by
  unfold partsL
  by_cases h : rightB a b c d = true
  · rw [if_pos h]
    have h' : rightP a b c d := by simpa [rightB] using h
    have h'' := h'
    unfold rightP at h''
    exact parts_num h' (by omega) (by omega) (by omega) (by omega)
  · rw [if_neg h, cnt_nil, if_neg (fun hh => h (has_right hh))]
theorem andOk_iff {a b c d e f g h : Int} : andOk a b c d e f g h = true ↔ rightP a b c d ∧ rightP e f g h ∧ rightP (max a e) (max b f) (min c g) (min d h) := by
  simp [andOk, rightB]
theorem right0 : rightB 0 0 0 0 = false := by decide
theorem cnt_minus (a b c d e f g h px py : Int) (p : Int × Int × Int × Int) (hp : andX a b c d e f g h = p) : cnt px py ([p.1, p.2.1, p.2.2.1, p.2.2.2] :: minusL a b c d e f g h) = if hasB a b c d px py then 1 else 0 := by
  unfold minusL
  rw [hp]
  unfold andX at hp
  by_cases hok : andOk a b c d e f g h = true
  · rw [if_pos hok] at hp
    subst hp
    obtain ⟨h1, h2, h3⟩ := andOk_iff.1 hok
    have h3' : rightB (max a e) (max b f) (min c g) (min d h) = true := by simpa [rightB] using h3
    simp only [minusX, h3', if_true]
    rw [cnt_cons, cnt_those, cnt_cons, cnt_cons, cnt_cons, cnt_cons, cnt_nil]
    have ee : ∀ x0 y0 x1 y1, hasR px py [x0, y0, x1, y1] = hasB x0 y0 x1 y1 px py := fun _ _ _ _ => rfl
    simp only [ee]
    have k : ∀ x0 y0 x1 y1, a ≤ x0 → x1 ≤ c → b ≤ y0 → y1 ≤ d → x0 ≤ x1 → y0 ≤ y1 → (hasB x0 y0 x1 y1 px py = true ↔ (x0 ≤ px ∧ px < x1 ∧ y0 ≤ py ∧ py < y1)) := by
      intro x0 y0 x1 y1 h1 h2 h3 h4 h5 h6
      rw [has_iff]
      unfold rightP isIn at *
      omega
    unfold rightP at h1 h2 h3
    rw [num_eq (k a b c d (by omega) (by omega) (by omega) (by omega) (by omega) (by omega)), num_eq (k (max a e) (max b f) (min c g) (min d h) (by omega) (by omega) (by omega) (by omega) (by omega) (by omega)),
      num_eq (k a b c (max b f) (by omega) (by omega) (by omega) (by omega) (by omega) (by omega)), num_eq (k a (min d h) c d (by omega) (by omega) (by omega) (by omega) (by omega) (by omega)),
      num_eq (k a (max b f) (max a e) (min d h) (by omega) (by omega) (by omega) (by omega) (by omega) (by omega)), num_eq (k (min c g) (max b f) c (min d h) (by omega) (by omega) (by omega) (by omega) (by omega) (by omega))]
    unfold num
    grind
  · rw [if_neg hok] at hp
    subst hp
    simp only [minusX, right0]
    rw [cnt_cons]
    have e : hasR px py [0, 0, 0, 0] = false := by
      apply Bool.eq_false_iff.2
      intro hh
      have := has_right hh
      exact absurd this (by decide)
    rw [e]
    rw [if_neg (by simp), if_neg (by simp), cnt_those, cnt_cons, cnt_nil]
    simp [hasR]

/-! ### Areas -/
def areaRow (r : List Int) : Int := areaR (r.getD 0 0) (r.getD 1 0) (r.getD 2 0) (r.getD 3 0)
def areas : List (List Int) → Int
  | [] => 0
  | r :: l => areaRow r + areas l
theorem areas_append (l m : List (List Int)) : areas (l ++ m) = areas l + areas m := by
  induction l with
  | nil => simp [areas]
  | cons r l ih => simp only [List.cons_append, areas, ih]; omega
theorem areas_those (l : List (List Int)) : areas (thoseL l) = areas l := by
  induction l with
  | nil => rfl
  | cons r l ih =>
    unfold thoseL at ih ⊢
    by_cases h : rowRight r = true
    · rw [List.filter_cons_of_pos h, List.map_cons]
      simp only [areas, ih]
      rfl
    · rw [List.filter_cons_of_neg h, ih]
      have : areaRow r = 0 := by unfold areaRow areaR; exact if_neg h
      simp only [areas, this]; omega
theorem area_le {a b c d x0 y0 x1 y1 : Int} (h : rightP a b c d) (h1 : a ≤ x0) (h2 : x1 ≤ c) (h3 : b ≤ y0) (h4 : y1 ≤ d) (h5 : x0 ≤ x1) (h6 : y0 ≤ y1) : areaR x0 y0 x1 y1 = (x1 - x0) * (y1 - y0) := by
  unfold areaR
  by_cases hr : rightB x0 y0 x1 y1 = true
  · rw [if_pos hr]
  · rw [if_neg hr]
    have hr' : ¬ rightP x0 y0 x1 y1 := by simpa [rightB] using hr
    have : x0 = x1 ∨ y0 = y1 := by unfold rightP at *; omega
    rcases this with rfl | rfl <;> simp
theorem areas_parts (a b c d x y : Int) : areas (partsL a b c d x y) = areaR a b c d := by
  unfold partsL
  by_cases h : rightB a b c d = true
  · rw [if_pos h]
    have h' : rightP a b c d := by simpa [rightB] using h
    have h'' := h'
    unfold rightP at h''
    generalize hX : max a (min x c) = X
    generalize hY : max b (min y d) = Y
    unfold partsX
    rw [areas_those]
    have e : ∀ x0 y0 x1 y1, areaRow [x0, y0, x1, y1] = areaR x0 y0 x1 y1 := fun _ _ _ _ => rfl
    simp only [areas, e]
    rw [area_le h' (by omega) (by omega) (by omega) (by omega) (by omega) (by omega), area_le (x0 := X) (y0 := b) h' (by omega) (by omega) (by omega) (by omega) (by omega) (by omega), area_le (x0 := a) (y0 := Y) h' (by omega) (by omega) (by omega) (by omega) (by omega) (by omega), area_le (x0 := X) (y0 := Y) h' (by omega) (by omega) (by omega) (by omega) (by omega) (by omega), area_le (x0 := a) (y0 := b) (x1 := c) h' (by omega) (by omega) (by omega) (by omega) (by omega) (by omega)]
    grind
  · rw [if_neg h]
    unfold areaR
    rw [if_neg h]
    rfl
theorem areas_minus (a b c d e f g h : Int) (p : Int × Int × Int × Int) (hp : andX a b c d e f g h = p) : areaR p.1 p.2.1 p.2.2.1 p.2.2.2 + areas (minusL a b c d e f g h) = areaR a b c d := by
  unfold minusL
  rw [hp]
  unfold andX at hp
  have k : ∀ x0 y0 x1 y1, areaRow [x0, y0, x1, y1] = areaR x0 y0 x1 y1 := fun _ _ _ _ => rfl
  by_cases hok : andOk a b c d e f g h = true
  · rw [if_pos hok] at hp
    subst hp
    obtain ⟨h1, h2, h3⟩ := andOk_iff.1 hok
    have h3' : rightB (max a e) (max b f) (min c g) (min d h) = true := by simpa [rightB] using h3
    simp only [minusX, h3', if_true]
    rw [areas_those]
    simp only [areas, k]
    have h1' := h1
    unfold rightP at h1' h2 h3
    generalize hX : max a e = X at *
    generalize hY : max b f = Y at *
    generalize hU : min c g = U at *
    generalize hV : min d h = V at *
    rw [area_le (x0 := X) (y0 := Y) (x1 := U) (y1 := V) h1 (by omega) (by omega) (by omega) (by omega) (by omega) (by omega), area_le (x0 := a) (y0 := b) (x1 := c) (y1 := Y) h1 (by omega) (by omega) (by omega) (by omega) (by omega) (by omega), area_le (x0 := a) (y0 := V) (x1 := c) (y1 := d) h1 (by omega) (by omega) (by omega) (by omega) (by omega) (by omega),
      area_le (x0 := a) (y0 := Y) (x1 := X) (y1 := V) h1 (by omega) (by omega) (by omega) (by omega) (by omega) (by omega), area_le (x0 := U) (y0 := Y) (x1 := c) (y1 := V) h1 (by omega) (by omega) (by omega) (by omega) (by omega) (by omega), area_le (x0 := a) (y0 := b) (x1 := c) (y1 := d) h1 (by omega) (by omega) (by omega) (by omega) (by omega) (by omega)]
    grind
  · rw [if_neg hok] at hp
    subst hp
    simp only [minusX, right0]
    rw [if_neg (by simp), areas_those]
    simp only [areas, k]
    have : areaR 0 0 0 0 = 0 := by decide
    omega
end Go.Proofs.Ytdbahmcjdojiaaa.Fns

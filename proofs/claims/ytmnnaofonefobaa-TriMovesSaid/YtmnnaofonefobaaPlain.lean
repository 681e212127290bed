/- Layer 20: triangles: plain. -/
import Derived.Test.YtmnnaofonefobaaSxH2
set_option linter.unusedVariables false
set_option linter.unusedSimpArgs false
namespace Go.Proofs.Ytmnnaofonefobaa.Plain

theorem pos_of_mul {a b : Int} (ha : 0 ≤ a) (h : 0 < a * b) : 0 < b := by
  apply Int.lt_of_not_ge; intro hb
  have := Int.mul_nonneg ha (show 0 ≤ -b by omega)
  grind
theorem wedge {α β γ ra rb rc K : Int} (hra : 0 ≤ ra) (hrc : 0 ≤ rc) (hrb : 0 ≤ rb) (hS : 0 < ra+rb+rc) (e : ra*α+rb*β+rc*γ=0)
    (h1 : 0 < K*rc+β-α) (h2 : β < 0) (h3 : 0 < α) : 0 < K*ra+γ-β ∧ 0 < K*rb+α-γ := by
  constructor
  · apply pos_of_mul hrc
    have e1 : rc*(K*ra+γ-β) = ra*(K*rc+β-α) + (ra+rb+rc)*(-β) := by grind
    have e2 := Int.mul_nonneg hra (show 0 ≤ K*rc+β-α by omega)
    have e3 := Int.mul_pos hS (show 0 < -β by omega)
    omega
  · apply pos_of_mul hrc
    have e1 : rc*(K*rb+α-γ) = rb*(K*rc+β-α) + (ra+rb+rc)*α := by grind
    have e2 := Int.mul_nonneg hrb (show 0 ≤ K*rc+β-α by omega)
    have e3 := Int.mul_pos hS h3
    omega
theorem cut_abs {α β γ ra rb rc K : Int} (hra : 0 ≤ ra) (hrb : 0 ≤ rb) (hrc : 0 ≤ rc) (hS : 0 < ra+rb+rc) (e : ra*α+rb*β+rc*γ=0)
    (za : α = 0 → rb = 0 ∧ rc = 0) (zb : β = 0 → rc = 0 ∧ ra = 0) (zc : γ = 0 → ra = 0 ∧ rb = 0) :
    ((0 < K*rc+β-α ∧ β < 0 ∧ 0 < α) ∨ (0 < K*ra+γ-β ∧ γ < 0 ∧ 0 < β) ∨ (0 < K*rb+α-γ ∧ α < 0 ∧ 0 < γ)) ↔ (0 < K*rc+β-α ∧ 0 < K*ra+γ-β ∧ 0 < K*rb+α-γ) := by
  constructor
  · rintro (⟨a, b, c⟩ | ⟨a, b, c⟩ | ⟨a, b, c⟩)
    · obtain ⟨x, y⟩ := wedge hra hrc hrb hS e a b c
      exact ⟨a, x, y⟩
    · obtain ⟨x, y⟩ := wedge (K := K) (α := β) (β := γ) (γ := α) (ra := rb) (rb := rc) (rc := ra) hrb hra hrc (by omega) (by omega) a b c
      exact ⟨y, a, x⟩
    · obtain ⟨x, y⟩ := wedge (K := K) (α := γ) (β := α) (γ := β) (ra := rc) (rb := ra) (rc := rb) hrc hrb hra (by omega) (by omega) a b c
      exact ⟨x, y, a⟩
  · rintro ⟨a, b, c⟩
    rcases Int.lt_trichotomy α 0 with ha | ha | ha
    · rcases Int.lt_trichotomy γ 0 with hc | hc | hc
      · by_cases hb : 0 < β
        · exact .inr (.inl ⟨b, hc, hb⟩)
        · exfalso
          have hb' : β ≠ 0 := by intro h; obtain ⟨x, y⟩ := zb h; subst x y h; omega
          have s1 := Int.mul_nonneg hra (show 0 ≤ -α-1 by omega)
          have s2 := Int.mul_nonneg hrb (show 0 ≤ -β-1 by omega)
          have s3 := Int.mul_nonneg hrc (show 0 ≤ -γ-1 by omega)
          grind
      · obtain ⟨x, y⟩ := zc hc; subst x y hc
        simp only [Int.mul_zero] at a b c ⊢
        omega
      · exact .inr (.inr ⟨c, ha, hc⟩)
    · obtain ⟨x, y⟩ := za ha; subst x y ha
      simp only [Int.mul_zero] at a b c ⊢
      omega
    · rcases Int.lt_trichotomy β 0 with hb | hb | hb
      · exact .inl ⟨a, hb, ha⟩
      · obtain ⟨x, y⟩ := zb hb; subst x y hb
        simp only [Int.mul_zero] at a b c ⊢
        omega
      · by_cases hc : γ < 0
        · exact .inr (.inl ⟨b, hc, hb⟩)
        · exfalso
          have hc' : γ ≠ 0 := by intro h; obtain ⟨x, y⟩ := zc h; subst x y h; simp only [Int.mul_zero] at a b c; omega
          have s1 := Int.mul_nonneg hra (show 0 ≤ α-1 by omega)
          have s2 := Int.mul_nonneg hrb (show 0 ≤ β-1 by omega)
          have s3 := Int.mul_nonneg hrc (show 0 ≤ γ-1 by omega)
          grind
/-! ### Places -/
def areaI (ax ay bx by' cx cy : Int) : Int := (bx-ax)*(cy-ay) - (by'-ay)*(cx-ax)
def leastI (px py qx qy : Int) : Int := if qy-py < 0 ∨ (qy-py = 0 ∧ qx-px < 0) then 0 else 1
def leftP (px py qx qy mx my : Int) : Prop := leastI px py qx qy ≤ areaI px py qx qy mx my
def vI (px py qx qy mx my : Int) : Int := 4611686018427387904 * areaI px py qx qy mx my - 2147483648*(qy-py) - (qx-px)
def farP (x y : Int) : Prop := -268435456 ≤ x ∧ x ≤ 268435456 ∧ -268435456 ≤ y ∧ y ≤ 268435456
theorem left_v {px py qx qy mx my : Int} (h1 : farP px py) (h2 : farP qx qy) : leftP px py qx qy mx my ↔ 0 < vI px py qx qy mx my := by
  unfold leftP vI leastI farP at *
  generalize areaI px py qx qy mx my = t
  split <;> omega
theorem v_zero {px py qx qy mx my : Int} (h1 : farP px py) (h2 : farP qx qy) (h : vI px py qx qy mx my = 0) : px = qx ∧ py = qy := by
  unfold vI farP at *
  generalize areaI px py qx qy mx my = t at h
  omega
theorem v_anti {px py qx qy mx my : Int} : vI qx qy px py mx my = -vI px py qx qy mx my := by unfold vI areaI; grind
theorem v_side {ax ay bx by' ex ey mx my : Int} : vI ax ay bx by' mx my = 4611686018427387904 * areaI ax ay bx by' ex ey + vI ex ey bx by' mx my - vI ex ey ax ay mx my := by unfold vI areaI; grind
theorem v_sum {ax ay bx by' cx cy ex ey mx my : Int} : areaI bx by' cx cy ex ey * vI ex ey ax ay mx my + areaI cx cy ax ay ex ey * vI ex ey bx by' mx my + areaI ax ay bx by' ex ey * vI ex ey cx cy mx my = 0 := by unfold vI areaI; grind
theorem area_sum {ax ay bx by' cx cy ex ey : Int} : areaI bx by' cx cy ex ey + areaI cx cy ax ay ex ey + areaI ax ay bx by' ex ey = areaI ax ay bx by' cx cy := by unfold areaI; grind
def hasP (ax ay bx by' cx cy mx my : Int) : Prop :=
  (0 < areaI ax ay bx by' cx cy ∧ leftP ax ay bx by' mx my ∧ leftP bx by' cx cy mx my ∧ leftP cx cy ax ay mx my) ∨
  (areaI ax ay bx by' cx cy < 0 ∧ leftP ax ay cx cy mx my ∧ leftP cx cy bx by' mx my ∧ leftP bx by' ax ay mx my)
theorem area_rot {ax ay bx by' cx cy : Int} : areaI bx by' cx cy ax ay = areaI ax ay bx by' cx cy := by unfold areaI; grind
theorem area_swap {ax ay bx by' cx cy : Int} : areaI ax ay cx cy bx by' = - areaI ax ay bx by' cx cy := by unfold areaI; grind
theorem has_rot {ax ay bx by' cx cy mx my : Int} : hasP bx by' cx cy ax ay mx my ↔ hasP ax ay bx by' cx cy mx my := by
  unfold hasP; rw [area_rot]
  constructor
  · rintro (⟨a, b, c, d⟩ | ⟨a, b, c, d⟩)
    · exact .inl ⟨a, d, b, c⟩
    · exact .inr ⟨a, c, d, b⟩
  · rintro (⟨a, b, c, d⟩ | ⟨a, b, c, d⟩)
    · exact .inl ⟨a, c, d, b⟩
    · exact .inr ⟨a, d, b, c⟩
theorem has_swap {ax ay bx by' cx cy mx my : Int} : hasP ax ay cx cy bx by' mx my ↔ hasP ax ay bx by' cx cy mx my := by
  unfold hasP; rw [area_swap]
  constructor
  · rintro (⟨a, b, c, d⟩ | ⟨a, b, c, d⟩)
    · exact .inr ⟨by omega, b, c, d⟩
    · exact .inl ⟨by omega, b, c, d⟩
  · rintro (⟨a, b, c, d⟩ | ⟨a, b, c, d⟩)
    · exact .inr ⟨by omega, b, c, d⟩
    · exact .inl ⟨by omega, b, c, d⟩
theorem has_pos {ax ay bx by' cx cy mx my : Int} (h : 0 ≤ areaI ax ay bx by' cx cy) : hasP ax ay bx by' cx cy mx my ↔ (0 < areaI ax ay bx by' cx cy ∧ leftP ax ay bx by' mx my ∧ leftP bx by' cx cy mx my ∧ leftP cx cy ax ay mx my) := by
  unfold hasP
  constructor
  · rintro (h | h)
    · exact h
    · omega
  · exact .inl
/-- on both sides of a side -/
theorem apart {ax ay bx by' cx cy dx dy mx my : Int} (ha : farP ax ay) (hb : farP bx by') (h1 : 0 < areaI ax ay bx by' cx cy) (h2 : areaI ax ay bx by' dx dy < 0) (x : hasP ax ay bx by' cx cy mx my) (y : hasP ax ay bx by' dx dy mx my) : False := by
  have x' : leftP ax ay bx by' mx my := by
    rcases x with x | x
    · exact x.2.1
    · omega
  have y' : leftP bx by' ax ay mx my := by
    rcases y with x | x
    · omega
    · exact x.2.2.2
  rw [left_v ha hb] at x'
  rw [left_v hb ha, v_anti] at y'
  omega
theorem none {ax ay bx by' cx cy mx my : Int} (h : areaI ax ay bx by' cx cy = 0) : ¬ hasP ax ay bx by' cx cy mx my := by
  rintro (x | x) <;> omega
/-- cut into three -/
theorem cut {ax ay bx by' cx cy ex ey mx my : Int} (ha : farP ax ay) (hb : farP bx by') (hc : farP cx cy) (he : farP ex ey) (hS : 0 < areaI ax ay bx by' cx cy) (h1 : 0 ≤ areaI ax ay bx by' ex ey) (h2 : 0 ≤ areaI bx by' cx cy ex ey) (h3 : 0 ≤ areaI cx cy ax ay ex ey) :
    (hasP ax ay bx by' cx cy mx my ↔ (hasP ax ay bx by' ex ey mx my ∨ hasP bx by' cx cy ex ey mx my ∨ hasP cx cy ax ay ex ey mx my)) ∧
    ¬ (hasP ax ay bx by' ex ey mx my ∧ hasP bx by' cx cy ex ey mx my) ∧ ¬ (hasP bx by' cx cy ex ey mx my ∧ hasP cx cy ax ay ex ey mx my) ∧ ¬ (hasP ax ay bx by' ex ey mx my ∧ hasP cx cy ax ay ex ey mx my) := by
  have hsum := area_sum (ax := ax) (ay := ay) (bx := bx) (by' := by') (cx := cx) (cy := cy) (ex := ex) (ey := ey)
  have hid := v_sum (ax := ax) (ay := ay) (bx := bx) (by' := by') (cx := cx) (cy := cy) (ex := ex) (ey := ey) (mx := mx) (my := my)
  rw [has_pos (Int.le_of_lt hS), has_pos h1, has_pos h2, has_pos h3]
  rw [left_v ha hb, left_v hb hc, left_v hc ha, left_v hb he, left_v he ha, left_v hc he, left_v he hb, left_v ha he, left_v he hc]
  rw [v_anti (px := ex) (py := ey) (qx := bx) (qy := by'), v_anti (px := ex) (py := ey) (qx := cx) (qy := cy), v_anti (px := ex) (py := ey) (qx := ax) (qy := ay)]
  have s1 := v_side (ax := ax) (ay := ay) (bx := bx) (by' := by') (ex := ex) (ey := ey) (mx := mx) (my := my)
  have s2 := v_side (ax := bx) (ay := by') (bx := cx) (by' := cy) (ex := ex) (ey := ey) (mx := mx) (my := my)
  have s3 := v_side (ax := cx) (ay := cy) (bx := ax) (by' := ay) (ex := ex) (ey := ey) (mx := mx) (my := my)
  rw [s1, s2, s3]
  have za : vI ex ey ax ay mx my = 0 → areaI cx cy ax ay ex ey = 0 ∧ areaI ax ay bx by' ex ey = 0 := by
    intro h; obtain ⟨rfl, rfl⟩ := v_zero he ha h; unfold areaI; constructor <;> grind
  have zb : vI ex ey bx by' mx my = 0 → areaI ax ay bx by' ex ey = 0 ∧ areaI bx by' cx cy ex ey = 0 := by
    intro h; obtain ⟨rfl, rfl⟩ := v_zero he hb h; unfold areaI; constructor <;> grind
  have zc : vI ex ey cx cy mx my = 0 → areaI bx by' cx cy ex ey = 0 ∧ areaI cx cy ax ay ex ey = 0 := by
    intro h; obtain ⟨rfl, rfl⟩ := v_zero he hc h; unfold areaI; constructor <;> grind
  have hcut := cut_abs (K := 4611686018427387904) h2 h3 h1 (by omega) hid za zb zc
  generalize areaI ax ay bx by' ex ey = rc at *
  generalize areaI bx by' cx cy ex ey = ra at *
  generalize areaI cx cy ax ay ex ey = rb at *
  generalize vI ex ey ax ay mx my = α at *
  generalize vI ex ey bx by' mx my = β at *
  generalize vI ex ey cx cy mx my = γ at *
  -- no area, no pixel: its sides say so
  have n1 : rc = 0 → ¬ (0 < 4611686018427387904*rc+β-α ∧ β < 0 ∧ 0 < α) := by rintro rfl ⟨a, b, c⟩; omega
  have n2 : ra = 0 → ¬ (0 < 4611686018427387904*ra+γ-β ∧ γ < 0 ∧ 0 < β) := by rintro rfl ⟨a, b, c⟩; omega
  have n3 : rb = 0 → ¬ (0 < 4611686018427387904*rb+α-γ ∧ α < 0 ∧ 0 < γ) := by rintro rfl ⟨a, b, c⟩; omega
  refine ⟨⟨fun ⟨_, a, b, c⟩ => ?_, fun h => ⟨hS, ?_⟩⟩, fun ⟨⟨_, a, b, c⟩, _, d, e, f⟩ => by omega, fun ⟨⟨_, a, b, c⟩, _, d, e, f⟩ => by omega, fun ⟨⟨_, a, b, c⟩, _, d, e, f⟩ => by omega⟩
  · rcases hcut.2 ⟨a, b, c⟩ with ⟨x, y, z⟩ | ⟨x, y, z⟩ | ⟨x, y, z⟩
    · refine .inl ⟨?_, x, by omega, z⟩
      apply Int.lt_of_not_ge; intro h; exact n1 (by omega) ⟨x, y, z⟩
    · refine .inr (.inl ⟨?_, x, by omega, z⟩)
      apply Int.lt_of_not_ge; intro h; exact n2 (by omega) ⟨x, y, z⟩
    · refine .inr (.inr ⟨?_, x, by omega, z⟩)
      apply Int.lt_of_not_ge; intro h; exact n3 (by omega) ⟨x, y, z⟩
  · apply hcut.1
    rcases h with ⟨_, x, y, z⟩ | ⟨_, x, y, z⟩ | ⟨_, x, y, z⟩
    · exact .inl ⟨x, by omega, z⟩
    · exact .inr (.inl ⟨x, by omega, z⟩)
    · exact .inr (.inr ⟨x, by omega, z⟩)
instance (a b c d e f : Int) : Decidable (leftP a b c d e f) := inferInstanceAs (Decidable (_ ≤ _))
instance (a b c d e f g h : Int) : Decidable (hasP a b c d e f g h) := inferInstanceAs (Decidable (_ ∨ _))
theorem left_nonneg {px py qx qy mx my : Int} (h : leftP px py qx qy mx my) : 0 ≤ areaI px py qx qy mx my := by
  unfold leftP leastI at h; split at h <;> omega
/-- no pixel lies above, or below, all corners -/
theorem has_y1 {ax ay bx by' cx cy mx my : Int} (hA : 0 < areaI ax ay bx by' cx cy) (h1 : 0 ≤ areaI ax ay bx by' mx my) (h2 : 0 ≤ areaI bx by' cx cy mx my) (h3 : 0 ≤ areaI cx cy ax ay mx my) : min (min ay by') cy ≤ my ∧ my ≤ max (max ay by') cy := by
  have e1 : areaI bx by' cx cy mx my * ay + areaI cx cy ax ay mx my * by' + areaI ax ay bx by' mx my * cy = areaI ax ay bx by' cx cy * my := by unfold areaI; grind
  have e2 : areaI bx by' cx cy mx my + areaI cx cy ax ay mx my + areaI ax ay bx by' mx my = areaI ax ay bx by' cx cy := area_sum
  generalize areaI ax ay bx by' mx my = r at *
  generalize areaI bx by' cx cy mx my = p at *
  generalize areaI cx cy ax ay mx my = q at *
  generalize areaI ax ay bx by' cx cy = S at *
  subst e2
  constructor
  · apply Int.le_of_not_gt; intro h
    have k1 := Int.mul_nonneg h2 (show 0 ≤ ay - my - 1 by omega)
    have k2 := Int.mul_nonneg h3 (show 0 ≤ by' - my - 1 by omega)
    have k3 := Int.mul_nonneg h1 (show 0 ≤ cy - my - 1 by omega)
    grind
  · apply Int.le_of_not_gt; intro h
    have k1 := Int.mul_nonneg h2 (show 0 ≤ my - ay - 1 by omega)
    have k2 := Int.mul_nonneg h3 (show 0 ≤ my - by' - 1 by omega)
    have k3 := Int.mul_nonneg h1 (show 0 ≤ my - cy - 1 by omega)
    grind
theorem has_y {ax ay bx by' cx cy mx my : Int} (h : hasP ax ay bx by' cx cy mx my) : min (min ay by') cy ≤ my ∧ my ≤ max (max ay by') cy := by
  rcases h with ⟨a, b, c, d⟩ | ⟨a, b, c, d⟩
  · exact has_y1 a (left_nonneg b) (left_nonneg c) (left_nonneg d)
  · have := has_y1 (ax := ax) (ay := ay) (bx := cx) (by' := cy) (cx := bx) (cy := by') (by rw [area_swap]; omega) (left_nonneg b) (left_nonneg c) (left_nonneg d)
    omega
/-! ### Rows -/
def sideAt (sx sy w h x y : Int) : Int := w * (y * 256 + 128 - sy) - h * (x * 256 + 128 - sx)
theorem side_area {px py qx qy x y : Int} : sideAt px py (qx - px) (qy - py) x y = areaI px py qx qy (256 * x + 128) (256 * y + 128) := by unfold sideAt areaI; grind
def rowStep (sx sy w h least y f t : Int) : Int × Int :=
  if 0 < h then (f, min t ((sideAt sx sy w h 0 y - least) / (h * 256) + 1))
  else if h < 0 then (max f (0 - (sideAt sx sy w h 0 y - least) / ((0 - h) * 256)), t)
  else if sideAt sx sy w h 0 y - least < 0 then (f, f) else (f, t)
theorem row_spec {sx sy w h least y f t x : Int} : ((rowStep sx sy w h least y f t).1 ≤ x ∧ x < (rowStep sx sy w h least y f t).2) ↔ ((f ≤ x ∧ x < t) ∧ least ≤ sideAt sx sy w h x y) := by
  have e : sideAt sx sy w h x y = sideAt sx sy w h 0 y - h * 256 * x := by unfold sideAt; grind
  rw [e]
  unfold rowStep
  generalize sideAt sx sy w h 0 y = s
  split
  · rename_i hh
    have : x < (s - least) / (h * 256) + 1 ↔ x * (h * 256) ≤ s - least := by
      rw [Int.lt_add_one_iff]; exact Int.le_ediv_iff_mul_le (by omega)
    have e2 : x * (h * 256) = h * 256 * x := by grind
    rw [e2] at this
    simp only
    omega
  · split
    · rename_i hh
      have : 0 - x ≤ (s - least) / ((0 - h) * 256) ↔ (0 - x) * ((0 - h) * 256) ≤ s - least := Int.le_ediv_iff_mul_le (by omega)
      have e2 : (0 - x) * ((0 - h) * 256) = h * 256 * x := by grind
      rw [e2] at this
      simp only
      omega
    · rename_i h1 h2
      have : h = 0 := by omega
      subst this
      simp only [Int.zero_mul, Int.sub_zero]
      split <;> simp only <;> omega
theorem row_move {sx sy w h least y f t dx dy : Int} : rowStep (sx + 256 * dx) (sy + 256 * dy) w h least (y + dy) (f + dx) (t + dx) = ((rowStep sx sy w h least y f t).1 + dx, (rowStep sx sy w h least y f t).2 + dx) := by
  have e : sideAt (sx + 256 * dx) (sy + 256 * dy) w h 0 (y + dy) = sideAt sx sy w h 0 y + dx * (h * 256) := by unfold sideAt; grind
  unfold rowStep
  rw [e]
  generalize sideAt sx sy w h 0 y = s
  split
  · rename_i hh
    have : (s + dx * (h * 256) - least) / (h * 256) = (s - least) / (h * 256) + dx := by
      rw [show s + dx * (h * 256) - least = s - least + dx * (h * 256) by omega, Int.add_mul_ediv_right _ _ (by omega)]
    rw [this]
    refine Prod.ext ?_ ?_ <;> simp only <;> omega
  · split
    · rename_i hh
      have : (s + dx * (h * 256) - least) / ((0 - h) * 256) = (s - least) / ((0 - h) * 256) - dx := by
        rw [show s + dx * (h * 256) - least = s - least + (-dx) * ((0 - h) * 256) by grind, Int.add_mul_ediv_right _ _ (by omega)]
        omega
      rw [this]
      refine Prod.ext ?_ ?_ <;> simp only <;> omega
    · rename_i h1 h2
      have : h = 0 := by omega
      subst this
      simp only [Int.zero_mul, Int.mul_zero, Int.add_zero]
      split <;> rfl
/-- a row of sides -/
abbrev Side := List Int
def sideOf (px py qx qy : Int) : Side := [px, py, qx - px, qy - py, leastI px py qx qy]
def sidesL (ax ay bx by' cx cy : Int) : List Side :=
  if areaI ax ay bx by' cx cy < 0 then [sideOf ax ay cx cy, sideOf cx cy bx by', sideOf bx by' ax ay]
  else if areaI ax ay bx by' cx cy = 0 then [] else [sideOf ax ay bx by', sideOf bx by' cx cy, sideOf cx cy ax ay]
def stepOf (s : Side) (y : Int) (ft : Int × Int) : Int × Int := rowStep (s.getD 0 0) (s.getD 1 0) (s.getD 2 0) (s.getD 3 0) (s.getD 4 0) y ft.1 ft.2
def rowFT (l : List Side) (y f t : Int) : Int × Int := l.foldl (fun ft s => stepOf s y ft) (f, t)
theorem step_spec {px py qx qy y x : Int} {ft : Int × Int} : ((stepOf (sideOf px py qx qy) y ft).1 ≤ x ∧ x < (stepOf (sideOf px py qx qy) y ft).2) ↔ ((ft.1 ≤ x ∧ x < ft.2) ∧ leftP px py qx qy (256 * x + 128) (256 * y + 128)) := by
  unfold stepOf
  have := row_spec (sx := px) (sy := py) (w := qx - px) (h := qy - py) (least := leastI px py qx qy) (y := y) (f := ft.1) (t := ft.2) (x := x)
  rw [side_area] at this
  exact this
theorem ft_spec {ax ay bx by' cx cy y f t x : Int} (hA : areaI ax ay bx by' cx cy ≠ 0) : ((rowFT (sidesL ax ay bx by' cx cy) y f t).1 ≤ x ∧ x < (rowFT (sidesL ax ay bx by' cx cy) y f t).2) ↔ ((f ≤ x ∧ x < t) ∧ hasP ax ay bx by' cx cy (256 * x + 128) (256 * y + 128)) := by
  unfold sidesL
  by_cases h : areaI ax ay bx by' cx cy < 0
  · rw [if_pos h]
    simp only [rowFT, List.foldl_cons, List.foldl_nil]
    rw [step_spec, step_spec, step_spec]
    unfold hasP
    constructor
    · rintro ⟨⟨⟨a, b⟩, c⟩, d⟩; exact ⟨a, .inr ⟨h, b, c, d⟩⟩
    · rintro ⟨a, b | ⟨_, b, c, d⟩⟩
      · omega
      · exact ⟨⟨⟨a, b⟩, c⟩, d⟩
  · rw [if_neg h, if_neg hA]
    simp only [rowFT, List.foldl_cons, List.foldl_nil]
    rw [step_spec, step_spec, step_spec]
    unfold hasP
    constructor
    · rintro ⟨⟨⟨a, b⟩, c⟩, d⟩; exact ⟨a, .inl ⟨by omega, b, c, d⟩⟩
    · rintro ⟨a, ⟨_, b, c, d⟩ | b⟩
      · exact ⟨⟨⟨a, b⟩, c⟩, d⟩
      · omega
theorem ft_move {ax ay bx by' cx cy y f t dx dy : Int} : rowFT (sidesL (ax + 256*dx) (ay + 256*dy) (bx + 256*dx) (by' + 256*dy) (cx + 256*dx) (cy + 256*dy)) (y + dy) (f + dx) (t + dx) = ((rowFT (sidesL ax ay bx by' cx cy) y f t).1 + dx, (rowFT (sidesL ax ay bx by' cx cy) y f t).2 + dx) := by
  have eA : areaI (ax + 256*dx) (ay + 256*dy) (bx + 256*dx) (by' + 256*dy) (cx + 256*dx) (cy + 256*dy) = areaI ax ay bx by' cx cy := by
    unfold areaI
    rw [show bx + 256*dx - (ax + 256*dx) = bx - ax by omega, show cy + 256*dy - (ay + 256*dy) = cy - ay by omega, show by' + 256*dy - (ay + 256*dy) = by' - ay by omega, show cx + 256*dx - (ax + 256*dx) = cx - ax by omega]
  have st : ∀ (px py qx qy : Int) (ft : Int × Int), stepOf (sideOf (px + 256*dx) (py + 256*dy) (qx + 256*dx) (qy + 256*dy)) (y + dy) (ft.1 + dx, ft.2 + dx) = ((stepOf (sideOf px py qx qy) y ft).1 + dx, (stepOf (sideOf px py qx qy) y ft).2 + dx) := by
    intro px py qx qy ft
    have e : sideOf (px + 256*dx) (py + 256*dy) (qx + 256*dx) (qy + 256*dy) = [px + 256*dx, py + 256*dy, qx - px, qy - py, leastI px py qx qy] := by
      unfold sideOf leastI
      rw [show qx + 256*dx - (px + 256*dx) = qx - px by omega, show qy + 256*dy - (py + 256*dy) = qy - py by omega]
    rw [e]
    exact row_move
  unfold sidesL
  rw [eA]
  by_cases h : areaI ax ay bx by' cx cy < 0
  · rw [if_pos h, if_pos h]
    simp only [rowFT, List.foldl_cons, List.foldl_nil]
    rw [st _ _ _ _ (f, t), st, st]
  · by_cases h2 : areaI ax ay bx by' cx cy = 0
    · rw [if_neg h, if_neg h, if_pos h2, if_pos h2]
      rfl
    · rw [if_neg h, if_neg h, if_neg h2, if_neg h2]
      simp only [rowFT, List.foldl_cons, List.foldl_nil]
      rw [st _ _ _ _ (f, t), st, st]
/-! ### Spans -/
def spansFrom (g : Int → List (List Int)) (y0 : Int) : Nat → List (List Int)
  | 0 => []
  | n + 1 => spansFrom g y0 n ++ g (y0 + n)
theorem spans_nil {g : Int → List (List Int)} {y0 : Int} {n : Nat} (h : ∀ y, y0 ≤ y → y < y0 + n → g y = []) : spansFrom g y0 n = [] := by
  induction n with
  | zero => rfl
  | succ n ih =>
    rw [spansFrom, ih (fun y h1 h2 => h y h1 (by omega)), h _ (by omega) (by omega)]
    rfl
theorem spans_add {g : Int → List (List Int)} {y0 : Int} {m : Nat} : ∀ {n : Nat}, spansFrom g y0 (m + n) = spansFrom g y0 m ++ spansFrom g (y0 + m) n := by
  intro n
  induction n with
  | zero => simp [spansFrom]
  | succ n ih =>
    rw [← Nat.add_assoc, spansFrom, ih, spansFrom, List.append_assoc]
    rw [show y0 + ((m + n : Nat) : Int) = y0 + m + n by omega]
theorem spans_cut {g : Int → List (List Int)} {Y0 Y1 lo hi : Int} (h0 : Y0 ≤ lo) (h1 : hi ≤ Y1) (hY : Y0 ≤ Y1) (hg : ∀ y, Y0 ≤ y → y < Y1 → (y < lo ∨ hi ≤ y) → g y = []) : spansFrom g lo (hi - lo).toNat = spansFrom g Y0 (Y1 - Y0).toNat := by
  by_cases h : lo ≤ hi
  · rw [show (Y1 - Y0).toNat = (lo - Y0).toNat + ((hi - lo).toNat + (Y1 - hi).toNat) by omega, spans_add, spans_add]
    rw [spans_nil (n := (lo - Y0).toNat) (fun y a b => hg y (by omega) (by omega) (by omega)), show Y0 + ((lo - Y0).toNat : Int) = lo by omega]
    rw [spans_nil (y0 := lo + ((hi - lo).toNat : Int)) (fun y a b => hg y (by omega) (by omega) (by omega))]
    simp
  · rw [show (hi - lo).toNat = 0 by omega, spans_nil (n := (Y1 - Y0).toNat) (fun y a b => hg y (by omega) (by omega) (by omega))]
    rfl
theorem spans_len {g : Int → List (List Int)} {y0 : Int} (h : ∀ y, (g y).length ≤ 1) : ∀ {n : Nat}, (spansFrom g y0 n).length ≤ n := by
  intro n
  induction n with
  | zero => simp [spansFrom]
  | succ n ih => rw [spansFrom, List.length_append]; have := h (y0 + n); omega
theorem spans_mem {g : Int → List (List Int)} {y0 : Int} {r : List Int} : ∀ {n : Nat}, r ∈ spansFrom g y0 n → ∃ y, y0 ≤ y ∧ y < y0 + n ∧ r ∈ g y := by
  intro n
  induction n with
  | zero => intro h; simp [spansFrom] at h
  | succ n ih =>
    intro h
    rw [spansFrom, List.mem_append] at h
    rcases h with h | h
    · obtain ⟨y, a, b, c⟩ := ih h; exact ⟨y, a, by omega, c⟩
    · exact ⟨y0 + n, by omega, by omega, h⟩
theorem spans_map {g g' : Int → List (List Int)} {f : List Int → List Int} {y0 d : Int} (h : ∀ y, g' (y + d) = (g y).map f) : ∀ {n : Nat}, spansFrom g' (y0 + d) n = (spansFrom g y0 n).map f := by
  intro n
  induction n with
  | zero => rfl
  | succ n ih => rw [spansFrom, spansFrom, List.map_append, ih, ← h, show y0 + d + (n : Int) = y0 + n + d by omega]
def spanAt (ax ay bx by' cx cy X0 X1 y : Int) : List (List Int) :=
  if areaI ax ay bx by' cx cy = 0 then [] else
  if (rowFT (sidesL ax ay bx by' cx cy) y X0 X1).1 < (rowFT (sidesL ax ay bx by' cx cy) y X0 X1).2 then [[y, (rowFT (sidesL ax ay bx by' cx cy) y X0 X1).1, (rowFT (sidesL ax ay bx by' cx cy) y X0 X1).2]] else []
theorem spanAt_len {ax ay bx by' cx cy X0 X1 y : Int} : (spanAt ax ay bx by' cx cy X0 X1 y).length ≤ 1 := by 
  unfold spanAt
  split
  · simp
  · split <;> simp
/-- a row's span, by its pixels -/
theorem spanAt_spec {ax ay bx by' cx cy X0 X1 y : Int} : ∃ f t, (∀ x, (f ≤ x ∧ x < t) ↔ ((X0 ≤ x ∧ x < X1) ∧ hasP ax ay bx by' cx cy (256 * x + 128) (256 * y + 128))) ∧ spanAt ax ay bx by' cx cy X0 X1 y = if f < t then [[y, f, t]] else [] := by
  by_cases hA : areaI ax ay bx by' cx cy = 0
  · refine ⟨0, 0, fun x => ?_, by unfold spanAt; rw [if_pos hA]; rfl⟩
    constructor
    · rintro ⟨a, b⟩; omega
    · rintro ⟨_, h⟩; exact absurd h (none hA)
  · exact ⟨_, _, fun x => ft_spec hA, by unfold spanAt; rw [if_neg hA]⟩
/-- a row that has no pixel -/
theorem spanAt_nil {ax ay bx by' cx cy X0 X1 y : Int} (h : 256 * y + 128 < min (min ay by') cy ∨ max (max ay by') cy < 256 * y + 128) : spanAt ax ay bx by' cx cy X0 X1 y = [] := by
  unfold spanAt
  split
  · rfl
  · rename_i hA
    split
    · rename_i hlt
      exfalso
      have := (ft_spec (x := (rowFT (sidesL ax ay bx by' cx cy) y X0 X1).1) hA).1 ⟨Int.le_refl _, hlt⟩
      have := has_y this.2
      omega
    · rfl
theorem spanAt_move {ax ay bx by' cx cy X0 X1 dx dy : Int} (y : Int) : spanAt (ax + 256*dx) (ay + 256*dy) (bx + 256*dx) (by' + 256*dy) (cx + 256*dx) (cy + 256*dy) (X0 + dx) (X1 + dx) (y + dy) = (spanAt ax ay bx by' cx cy X0 X1 y).map (fun r => [r.getD 0 0 + dy, r.getD 1 0 + dx, r.getD 2 0 + dx]) := by
  have eA : areaI (ax + 256*dx) (ay + 256*dy) (bx + 256*dx) (by' + 256*dy) (cx + 256*dx) (cy + 256*dy) = areaI ax ay bx by' cx cy := by
    unfold areaI
    rw [show bx + 256*dx - (ax + 256*dx) = bx - ax by omega, show cy + 256*dy - (ay + 256*dy) = cy - ay by omega, show by' + 256*dy - (ay + 256*dy) = by' - ay by omega, show cx + 256*dx - (ax + 256*dx) = cx - ax by omega]
  unfold spanAt
  rw [eA, ft_move]
  by_cases h : areaI ax ay bx by' cx cy = 0
  · rw [if_pos h, if_pos h]; rfl
  · rw [if_neg h, if_neg h]
    by_cases h2 : (rowFT (sidesL ax ay bx by' cx cy) y X0 X1).1 < (rowFT (sidesL ax ay bx by' cx cy) y X0 X1).2
    · rw [if_pos h2, if_pos (by simp only; omega)]; rfl
    · rw [if_neg h2, if_neg (by simp only; omega)]; rfl
end Go.Proofs.Ytmnnaofonefobaa.Plain

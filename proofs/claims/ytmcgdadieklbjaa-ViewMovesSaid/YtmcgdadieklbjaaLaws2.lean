/- Layer 11: the laws ViewIn, ViewScales, ViewMoves, ViewRises, as functions. -/
import Derived.Test.YtmcgdadieklbjaaLaws
set_option linter.unusedVariables false
set_option linter.unusedSimpArgs false
set_option maxRecDepth 10000
namespace Go.Proofs.Ytmcgdadieklbjaa.Fns
open Go.Sx Go.Proofs.Ytmcgdadieklbjaa.Trees

theorem far_spec {X Y : Int} (h : farB X Y = false) : -268435456 ≤ X ∧ X ≤ 268435456 ∧ -268435456 ≤ Y ∧ Y ≤ 268435456 := by
  simp only [farB, Bool.or_eq_false_iff, decide_eq_false_iff_not] at h
  omega
theorem deep_bd (z w : Int) : 0 ≤ deep z w ∧ deep z w ≤ 16777215 := by unfold deep; omega

/-- What is W or less from the middle lies in the port. -/
theorem side_in {p s x w : Int} (hs : 0 ≤ s) (hw : 1 ≤ w) (h1 : -w ≤ x) (h2 : x ≤ w) : 256 * p ≤ side p s x w ∧ side p s x w ≤ 256 * (p + s) := by
  unfold side
  have a : 0 ≤ s * 128 * (x + w) := Int.mul_nonneg (by omega) (by omega)
  have b : s * 128 * (x + w) ≤ s * 256 * w := by
    have e : s * 128 * (x + w) ≤ s * 128 * (2 * w) := Int.mul_le_mul_of_nonneg_left (by omega) (by omega)
    have e2 : s * 128 * (2 * w) = s * 256 * w := by rw [← Int.mul_assoc, Int.mul_assoc s]; rfl
    omega
  have c : 0 ≤ s * 128 * (x + w) / w := Int.ediv_nonneg a (by omega)
  have d : s * 128 * (x + w) / w ≤ s * 256 := by
    have := Int.ediv_le_ediv (show 0 < w by omega) b
    rwa [Int.mul_ediv_cancel _ (by omega)] at this
  omega
theorem deep_low {z w : Int} (hw : 1 ≤ w) (h : z ≤ -w) : deep z w = 0 := by
  unfold deep
  have : 16777215 * (z + w) / (2 * w) ≤ 0 := by
    have := Int.ediv_le_ediv (show 0 < 2 * w by omega) (show 16777215 * (z + w) ≤ 0 by omega)
    simpa using this
  omega
theorem deep_high {z w : Int} (hw : 1 ≤ w) (h : w ≤ z) : deep z w = 16777215 := by
  unfold deep
  have : 16777215 ≤ 16777215 * (z + w) / (2 * w) := (Int.le_ediv_iff_mul_le (by omega)).2 (by omega)
  omega

theorem ok4 : ContractOk Try.prog 4 c4 := by
  refine contract_of (Γ := knownOf [(8, c8), (10, c10)]) (known_cons ok8 rfl (known_cons ok10 rfl known_nil)) Try.func4 rfl rfl is4 fun ds hk hp => ?_
  split at hp
  · rename_i x y z w a b c d px py pw ph
    obtain ⟨hv, hpt⟩ := hp
    rcases map_cases x y z w a b c d px py pw ph with ⟨e, he, hq⟩ | ⟨hR, hF, hX, hq⟩
    · refine h_call (c := c8) rfl ⟨hv, hpt⟩ fun rs hk hr => ?_
      have hr : rs = mapV x y z w a b c d px py pw ph := hr
      rw [hq] at hr
      subst hr
      refine h_ite (fun hc => ?_) (fun hc => ?_)
      · refine h_call (c := c10) rfl trivial fun rs hk hr => ?_
        have hr : rs = [.b true] := hr
        subst hr
        simp [Tree.holds, DE.den, BE.den, IE.den, Env.sets, Env.set, DV.bool, DV.int, bad]
      · simp [BE.den, IE.den, Env.sets, Env.set, DV.bool, DV.int, bad] at hc
        exact absurd hc he
    · obtain ⟨r1, r2, r3, r4, r5, r6, r7, r8⟩ := right_spec hR
      obtain ⟨f1, f2, f3, f4, f5, f6, f7, f8⟩ := fits_spec hF
      obtain ⟨t1, t2, t3, t4⟩ := far_spec hX
      obtain ⟨d1, d2⟩ := deep_bd z w
      refine h_call (c := c8) rfl ⟨hv, hpt⟩ fun rs hk hr => ?_
      have hr : rs = mapV x y z w a b c d px py pw ph := hr
      rw [hq] at hr
      subst hr
      refine h_ite (fun hc => ?_) (fun hc => ?_)
      · simp [BE.den, IE.den, Env.sets, Env.set, DV.bool, DV.int] at hc
      · refine h_need (by simp only [Env.sets, Env.set, BE.den, IE.den, DV.int, Nat.reduceEqDiff, ↓reduceIte, reduceCtorEq, Bool.and_eq_true, decide_eq_true_eq]; omega) (h_need (by simp only [Env.sets, Env.set, BE.den, IE.den, DV.int, Nat.reduceEqDiff, ↓reduceIte, reduceCtorEq, Bool.and_eq_true, Bool.or_eq_true, decide_eq_true_eq]; omega)
          (h_ite (fun hc => ?_) (fun hc => ?_)))
        · refine h_call (c := c10) rfl trivial fun rs hk hr => ?_
          have hr : rs = [.b true] := hr
          subst hr
          simp [Tree.holds, DE.den, BE.den, IE.den, Env.sets, Env.set, DV.bool, DV.int]
        · simp only [Env.sets, Env.set, BE.den, IE.den, DV.int, DV.bool, Nat.reduceEqDiff, ↓reduceIte, reduceCtorEq, Bool.or_eq_false_iff, decide_eq_false_iff_not] at hc
          obtain ⟨s1, s2⟩ := side_in (p := px) (s := pw) (x := x) (w := w) r5 f1 (by omega) (by omega)
          obtain ⟨u1, u2⟩ := side_in (p := py) (s := ph) (x := y) (w := w) r7 f1 (by omega) (by omega)
          have hz1 := fun h => deep_low (z := z) (w := w) f1 h
          have hz2 := fun h => deep_high (z := z) (w := w) f1 h
          generalize side px pw x w = X at *
          generalize side py ph y w = Y at *
          generalize deep z w = Z at *
          iterate 6 refine h_need (by simp only [Env.sets, Env.set, BE.den, IE.den, DV.int, DV.bool, Nat.reduceEqDiff, ↓reduceIte, reduceCtorEq, Bool.and_eq_true, Bool.or_eq_true, decide_eq_true_eq]; omega) ?_
          refine h_call (c := c10) rfl trivial fun rs hk hr => ?_
          have hr : rs = [.b true] := hr
          subst hr
          refine h_need (by simp only [Env.sets, Env.set, BE.den, IE.den, DV.int, DV.bool, Nat.reduceEqDiff, ↓reduceIte, reduceCtorEq, Bool.and_eq_true, Bool.or_eq_true, decide_eq_true_eq]; omega) ?_
          simp only [Tree.holds, Env.sets, Env.set, BE.den, IE.den, DE.den, DV.int, DV.bool, List.map_cons, List.map_nil, Nat.reduceEqDiff, ↓reduceIte, reduceCtorEq, List.cons.injEq, DV.b.injEq, and_true, Bool.and_eq_true, Bool.or_eq_true, decide_eq_true_eq, true_and]
          omega
  · cases hp

theorem side_scale {p s x w n : Int} (hn : 1 ≤ n) : side p s (n * x) (n * w) = side p s x w := by
  unfold side
  have e : s * 128 * (n * x + n * w) = n * (s * 128 * (x + w)) := by
    rw [← Int.mul_add, ← Int.mul_assoc, Int.mul_comm (s * 128) n, Int.mul_assoc]
  rw [e, Int.mul_ediv_mul_of_pos _ _ (by omega)]
theorem deep_scale {z w n : Int} (hn : 1 ≤ n) : deep (n * z) (n * w) = deep z w := by
  unfold deep
  have e : 16777215 * (n * z + n * w) = n * (16777215 * (z + w)) := by
    rw [← Int.mul_add, ← Int.mul_assoc, Int.mul_comm 16777215 n, Int.mul_assoc]
  have e2 : 2 * (n * w) = n * (2 * w) := by rw [← Int.mul_assoc, Int.mul_comm 2 n, Int.mul_assoc]
  rw [e, e2, Int.mul_ediv_mul_of_pos _ _ (by omega)]

/-- Times n, not too far. -/
theorem scale_bd {x n : Int} (hn : 1 ≤ n) (h1 : -(68719476736 / n) ≤ x) (h2 : x ≤ 68719476736 / n) : -68719476736 ≤ n * x ∧ n * x ≤ 68719476736 ∧ -68719476736 ≤ x ∧ x ≤ 68719476736 := by
  have a : n * (68719476736 / n) ≤ 68719476736 := Int.mul_ediv_self_le (by omega)
  have b : n * x ≤ n * (68719476736 / n) := Int.mul_le_mul_of_nonneg_left h2 (by omega)
  have c : n * -(68719476736 / n) ≤ n * x := Int.mul_le_mul_of_nonneg_left h1 (by omega)
  rw [Int.mul_neg] at c
  have d : 68719476736 / n ≤ 68719476736 := Int.ediv_le_self n (by omega)
  omega

theorem map_scale {x y z w a b c d px py pw ph n : Int} (hn : 1 ≤ n) (hx1 : -(68719476736 / n) ≤ x) (hx2 : x ≤ 68719476736 / n) (hy1 : -(68719476736 / n) ≤ y) (hy2 : y ≤ 68719476736 / n)
    (hz1 : -(68719476736 / n) ≤ z) (hz2 : z ≤ 68719476736 / n) (hw1 : 1 ≤ w) (hw2 : w ≤ 68719476736 / n) : mapV (n * x) (n * y) (n * z) (n * w) a b c d px py pw ph = mapV x y z w a b c d px py pw ph := by
  obtain ⟨x1, x2, x3, x4⟩ := scale_bd hn hx1 hx2
  obtain ⟨y1, y2, y3, y4⟩ := scale_bd hn hy1 hy2
  obtain ⟨z1, z2, z3, z4⟩ := scale_bd hn hz1 hz2
  obtain ⟨w1, w2, w3, w4⟩ := scale_bd (x := w) hn (by omega) hw2
  have hw : 1 ≤ n * w := by
    have : 1 * 1 ≤ n * w := Int.mul_le_mul hn hw1 (by omega) (by omega)
    omega
  have hf : fitsB (n * x) (n * y) (n * z) (n * w) a b c d = fitsB x y z w a b c d := by
    unfold fitsB
    congr 1
    rw [decide_eq_decide]
    generalize n * x = X at *
    generalize n * y = Y at *
    generalize n * z = Z at *
    generalize n * w = W at *
    omega
  unfold mapV
  rw [hf, side_scale hn, side_scale hn, deep_scale hn]

theorem ok5 : ContractOk Try.prog 5 c5 := by
  refine contract_of (Γ := knownOf [(8, c8), (10, c10)]) (known_cons ok8 rfl (known_cons ok10 rfl known_nil)) Try.func5 rfl rfl is5 fun ds hk hp => ?_
  split at hp
  · rename_i x y z w a b c d px py pw ph k
    obtain ⟨hv, hpt, hk0, hk1⟩ := hp
    obtain ⟨n, hn⟩ : ∃ n, 1 + k = n := ⟨_, rfl⟩
    have hn1 : 1 ≤ n := by omega
    obtain ⟨m, hm⟩ : ∃ m, 68719476736 / n = m := ⟨_, rfl⟩
    have hm0 : 0 ≤ m := by rw [← hm]; exact Int.ediv_nonneg (by omega) (by omega)
    have hm1 : m ≤ 68719476736 := by rw [← hm]; exact Int.ediv_le_self n (by omega)
    have t1 : Int.tdiv 68719476736 n = m := by rw [Int.tdiv_eq_ediv_of_nonneg (by omega), hm]
    have t2 : Int.tdiv (-68719476736) n = -m := by rw [Int.neg_tdiv, t1]
    iterate 16 refine h_need (by simp only [Env.sets, Env.set, BE.den, IE.den, DV.int, DV.bool, Nat.reduceEqDiff, ↓reduceIte, reduceCtorEq, Bool.and_eq_true, Bool.or_eq_true, Bool.not_eq_true', decide_eq_true_eq, hn, t1, t2, ne_eq]; omega) ?_
    refine h_ite (fun hc => ?_) (fun hc => ?_)
    · refine h_call (c := c10) rfl trivial fun rs hk hr => ?_
      have hr : rs = [.b true] := hr
      subst hr
      simp [Tree.holds, DE.den, BE.den, IE.den, Env.sets, Env.set, DV.bool, DV.int]
    · simp only [Env.sets, Env.set, BE.den, IE.den, DV.int, DV.bool, Nat.reduceEqDiff, ↓reduceIte, reduceCtorEq, Bool.or_eq_false_iff, decide_eq_false_iff_not, hn, t1, t2] at hc
      have hms := map_scale (x := x) (y := y) (z := z) (w := w) (a := a) (b := b) (c := c) (d := d) (px := px) (py := py) (pw := pw) (ph := ph) hn1 (by omega) (by omega) (by omega) (by omega) (by omega) (by omega) (by omega) (by omega)
      obtain ⟨x1, x2, x3, x4⟩ := scale_bd (x := x) hn1 (by omega) (by omega)
      obtain ⟨y1, y2, y3, y4⟩ := scale_bd (x := y) hn1 (by omega) (by omega)
      obtain ⟨z1, z2, z3, z4⟩ := scale_bd (x := z) hn1 (by omega) (by omega)
      obtain ⟨w1, w2, w3, w4⟩ := scale_bd (x := w) hn1 (by omega) (by omega)
      obtain ⟨q0, q1, q2, q3, q4, q5, q6, q7, hq⟩ := map_shape x y z w a b c d px py pw ph
      refine h_call (c := c8) rfl ⟨hv, hpt⟩ fun rs hk hr => ?_
      have hr : rs = mapV x y z w a b c d px py pw ph := hr
      rw [hq] at hr
      subst hr
      iterate 4 refine h_need (by simp only [Env.sets, Env.set, BE.den, IE.den, DV.int, DV.bool, Nat.reduceEqDiff, ↓reduceIte, reduceCtorEq, Bool.and_eq_true, decide_eq_true_eq, hn]; omega) ?_
      refine h_call (c := c8) rfl ?_ fun rs hk hr => ?_
      · show vert64 ((1 + k) * x) ((1 + k) * y) ((1 + k) * z) ((1 + k) * w) a b c d ∧ port64 px py pw ph
        rw [hn]
        exact ⟨⟨⟨⟨by omega, by omega⟩, ⟨by omega, by omega⟩, ⟨by omega, by omega⟩, ⟨by omega, by omega⟩⟩, hv.2⟩, hpt⟩
      have hr : rs = mapV ((1 + k) * x) ((1 + k) * y) ((1 + k) * z) ((1 + k) * w) a b c d px py pw ph := hr
      rw [hn, hms, hq] at hr
      subst hr
      refine h_call (c := c10) rfl trivial fun rs hk hr => ?_
      have hr : rs = [.b true] := hr
      subst hr
      simp [Tree.holds, DE.den, BE.den, IE.den, Env.sets, Env.set, DV.bool, DV.int]
  · cases hp

theorem ok6 : ContractOk Try.prog 6 c6 := by
  refine contract_of (Γ := knownOf [(8, c8), (10, c10)]) (known_cons ok8 rfl (known_cons ok10 rfl known_nil)) Try.func6 rfl rfl is6 fun ds hk hp => ?_
  split at hp
  · rename_i x y z w a b c d px py pw ph mx my
    obtain ⟨hv, hpt, hmx, hmy⟩ := hp
    obtain ⟨qx, hqx⟩ : ∃ qx, mx.tmod 8193 = qx := ⟨_, rfl⟩
    obtain ⟨qy, hqy⟩ : ∃ qy, my.tmod 8193 = qy := ⟨_, rfl⟩
    have bx : -8193 ≤ qx ∧ qx ≤ 8193 := by
      have h1 := Int.tmod_lt_of_pos mx (show (0:Int) < 8193 by omega)
      have h2 := Int.lt_tmod_of_pos mx (show (0:Int) < 8193 by omega)
      omega
    have bY : -8193 ≤ qy ∧ qy ≤ 8193 := by
      have h1 := Int.tmod_lt_of_pos my (show (0:Int) < 8193 by omega)
      have h2 := Int.lt_tmod_of_pos my (show (0:Int) < 8193 by omega)
      omega
    iterate 2 refine h_need (by simp only [Env.sets, Env.set, BE.den, IE.den, DV.int, DV.bool, Nat.reduceEqDiff, ↓reduceIte, reduceCtorEq, Bool.and_eq_true, decide_eq_true_eq]; omega) ?_
    have hpt2 : port64 qx qy pw ph := ⟨⟨by omega, by omega⟩, ⟨by omega, by omega⟩, hpt.2.2.1, hpt.2.2.2⟩
    refine h_call (c := c8) rfl ⟨hv, hpt⟩ fun rs hk hr => ?_
    have hr : rs = mapV x y z w a b c d px py pw ph := hr
    obtain ⟨p0, p1, p2, p3, p4, p5, p6, p7, hpq⟩ := map_shape x y z w a b c d px py pw ph
    obtain ⟨s0, s1, s2, s3, s4, s5, s6, s7, hsq⟩ := map_shape x y z w a b c d qx qy pw ph
    rw [hpq] at hr
    subst hr
    refine h_call (c := c8) rfl ?_ fun rs hk hr => ?_
    · show vert64 x y z w a b c d ∧ port64 (mx.tmod 8193) (my.tmod 8193) pw ph
      rw [hqx, hqy]
      exact ⟨hv, hpt2⟩
    have hr : rs = mapV x y z w a b c d (mx.tmod 8193) (my.tmod 8193) pw ph := hr
    rw [hqx, hqy, hsq] at hr
    subst hr
    refine h_ite (fun hc => ?_) (fun hc => ?_)
    · refine h_call (c := c10) rfl trivial fun rs hk hr => ?_
      have hr : rs = [.b true] := hr
      subst hr
      simp [Tree.holds, DE.den, BE.den, IE.den, Env.sets, Env.set, DV.bool, DV.int]
    · simp only [Env.sets, Env.set, BE.den, IE.den, DV.int, DV.bool, Nat.reduceEqDiff, ↓reduceIte, reduceCtorEq, Bool.or_eq_false_iff, Bool.not_eq_false', decide_eq_true_eq] at hc
      obtain ⟨rfl, rfl⟩ := hc
      rcases map_cases x y z w a b c d px py pw ph with ⟨e, he, hq⟩ | ⟨hR, hF, hX, hq⟩
      · rw [hq] at hpq
        simp only [bad, List.cons.injEq, DV.i.injEq, and_true] at hpq
        omega
      · rcases map_cases x y z w a b c d qx qy pw ph with ⟨e, he, hq'⟩ | ⟨hR', hF', hX', hq'⟩
        · rw [hq'] at hsq
          simp only [bad, List.cons.injEq, DV.i.injEq, and_true] at hsq
          omega
        · rw [hq] at hpq
          rw [hq'] at hsq
          simp only [List.cons.injEq, DV.i.injEq, and_true] at hpq hsq
          obtain ⟨rfl, rfl, rfl, rfl, rfl, rfl, rfl⟩ := hpq
          obtain ⟨rfl, rfl, rfl, rfl, rfl, rfl, rfl⟩ := hsq
          obtain ⟨t1, t2, t3, t4⟩ := far_spec hX
          obtain ⟨t5, t6, t7, t8⟩ := far_spec hX'
          obtain ⟨r1, r2, r3, r4, r5, r6, r7, r8⟩ := right_spec hR
          have e1 : side qx pw x w - side px pw x w = 256 * (qx - px) := by unfold side; omega
          have e2 : side qy ph y w - side py ph y w = 256 * (qy - py) := by unfold side; omega
          refine h_call (c := c10) rfl trivial fun rs hk hr => ?_
          have hr : rs = [.b true] := hr
          subst hr
          generalize side px pw x w = X at *
          generalize side py ph y w = Y at *
          generalize side qx pw x w = X' at *
          generalize side qy ph y w = Y' at *
          iterate 6 refine h_need (by simp only [Env.sets, Env.set, BE.den, IE.den, DV.int, DV.bool, Nat.reduceEqDiff, ↓reduceIte, reduceCtorEq, Bool.and_eq_true, Bool.or_eq_true, decide_eq_true_eq, hqx, hqy]; omega) ?_
          simp [Tree.holds, DE.den, BE.den, IE.den, Env.sets, Env.set, DV.bool, DV.int, hqx, hqy, e1, e2]
  · cases hp

theorem side_mono {p s x x' w : Int} (hs : 0 ≤ s) (hw : 1 ≤ w) (h : x ≤ x') : side p s x w ≤ side p s x' w := by
  unfold side
  have e : s * 128 * (x + w) ≤ s * 128 * (x' + w) := Int.mul_le_mul_of_nonneg_left (by omega) (by omega)
  have := Int.ediv_le_ediv (show 0 < w by omega) e
  omega
theorem deep_mono {z z' w : Int} (hw : 1 ≤ w) (h : z ≤ z') : deep z w ≤ deep z' w := by
  unfold deep
  have := Int.ediv_le_ediv (show 0 < 2 * w by omega) (show 16777215 * (z + w) ≤ 16777215 * (z' + w) by omega)
  omega

theorem ok7 : ContractOk Try.prog 7 c7 := by
  refine contract_of (Γ := knownOf [(8, c8), (10, c10)]) (known_cons ok8 rfl (known_cons ok10 rfl known_nil)) Try.func7 rfl rfl is7 fun ds hk hp => ?_
  split at hp
  · rename_i x y z w a b c d px py pw ph k
    obtain ⟨hv, hpt, hk0, hk1⟩ := hp
    refine h_ite (fun hc => ?_) (fun hc => ?_)
    · refine h_call (c := c10) rfl trivial fun rs hk hr => ?_
      have hr : rs = [.b true] := hr
      subst hr
      simp [Tree.holds, DE.den, BE.den, IE.den, Env.sets, Env.set, DV.bool, DV.int]
    · simp only [Env.sets, Env.set, BE.den, IE.den, DV.int, DV.bool, Nat.reduceEqDiff, ↓reduceIte, reduceCtorEq, Bool.or_eq_false_iff, decide_eq_false_iff_not] at hc
      have hv' := hv
      obtain ⟨⟨⟨a1, a2⟩, ⟨a3, a4⟩, ⟨a5, a6⟩, a7⟩, a8⟩ := hv'
      iterate 4 refine h_need (by simp only [Env.sets, Env.set, BE.den, IE.den, DV.int, DV.bool, Nat.reduceEqDiff, ↓reduceIte, reduceCtorEq, Bool.and_eq_true, decide_eq_true_eq]; omega) ?_
      obtain ⟨p0, p1, p2, p3, p4, p5, p6, p7, hpq⟩ := map_shape x y z w a b c d px py pw ph
      obtain ⟨s0, s1, s2, s3, s4, s5, s6, s7, hsq⟩ := map_shape (x + k) (y - k) (z + k) w a b c d px py pw ph
      refine h_call (c := c8) rfl ⟨hv, hpt⟩ fun rs hk hr => ?_
      have hr : rs = mapV x y z w a b c d px py pw ph := hr
      rw [hpq] at hr
      subst hr
      refine h_call (c := c8) rfl ⟨⟨⟨⟨?_, ?_⟩, ⟨?_, ?_⟩, ⟨?_, ?_⟩, a7⟩, a8⟩, hpt⟩ fun rs hk hr => ?_
      · show -9223372036854775808 ≤ x + k; omega
      · show x + k ≤ 9223372036854775807; omega
      · show -9223372036854775808 ≤ y - k; omega
      · show y - k ≤ 9223372036854775807; omega
      · show -9223372036854775808 ≤ z + k; omega
      · show z + k ≤ 9223372036854775807; omega
      have hr : rs = mapV (x + k) (y - k) (z + k) w a b c d px py pw ph := hr
      rw [hsq] at hr
      subst hr
      refine h_ite (fun hc => ?_) (fun hc => ?_)
      · refine h_call (c := c10) rfl trivial fun rs hk hr => ?_
        have hr : rs = [.b true] := hr
        subst hr
        simp [Tree.holds, DE.den, BE.den, IE.den, Env.sets, Env.set, DV.bool, DV.int]
      · simp only [Env.sets, Env.set, BE.den, IE.den, DV.int, DV.bool, Nat.reduceEqDiff, ↓reduceIte, reduceCtorEq, Bool.or_eq_false_iff, Bool.not_eq_false', decide_eq_true_eq] at hc
        obtain ⟨rfl, rfl⟩ := hc
        rcases map_cases x y z w a b c d px py pw ph with ⟨e, he, hq⟩ | ⟨hR, hF, hX, hq⟩
        · rw [hq] at hpq
          simp only [bad, List.cons.injEq, DV.i.injEq, and_true] at hpq
          omega
        · rcases map_cases (x + k) (y - k) (z + k) w a b c d px py pw ph with ⟨e, he, hq'⟩ | ⟨hR', hF', hX', hq'⟩
          · rw [hq'] at hsq
            simp only [bad, List.cons.injEq, DV.i.injEq, and_true] at hsq
            omega
          · rw [hq] at hpq
            rw [hq'] at hsq
            simp only [List.cons.injEq, DV.i.injEq, and_true] at hpq hsq
            obtain ⟨rfl, rfl, rfl, rfl, rfl, rfl, rfl⟩ := hpq
            obtain ⟨rfl, rfl, rfl, _⟩ := hsq
            obtain ⟨r1, r2, r3, r4, r5, r6, r7, r8⟩ := right_spec hR
            obtain ⟨f1, f2, f3, f4, f5, f6, f7, f8⟩ := fits_spec hF
            have m1 := side_mono (p := px) (s := pw) (x := x) (x' := x + k) (w := w) r5 f1 (by omega)
            have m2 := side_mono (p := py) (s := ph) (x := y - k) (x' := y) (w := w) r7 f1 (by omega)
            have m3 := deep_mono (z := z) (z' := z + k) (w := w) f1 (by omega)
            refine h_call (c := c10) rfl trivial fun rs hk hr => ?_
            have hr : rs = [.b true] := hr
            subst hr
            simp [Tree.holds, DE.den, BE.den, IE.den, Env.sets, Env.set, DV.bool, DV.int, m1, m2, m3]
  · cases hp

end Go.Proofs.Ytmcgdadieklbjaa.Fns

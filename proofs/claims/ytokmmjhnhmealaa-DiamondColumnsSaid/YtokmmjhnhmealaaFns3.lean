/- Layer 13: what each function does: meets, exits. -/
import Derived.Test.YtokmmjhnhmealaaFns2
set_option linter.unusedVariables false
set_option linter.unusedSimpArgs false
set_option maxRecDepth 10000
namespace Go.Proofs.Ytokmmjhnhmealaa.Fns
open Go.Sx Go.Proofs.Ytokmmjhnhmealaa.Trees Go.Proofs.Ytokmmjhnhmealaa.Plain

theorem retI {a b : Int} (h : b = a) : [DV.i a] = [DV.i b] := by rw [h]
theorem retT {P : Prop} [Decidable P] (h : P) : [DV.b true] = [DV.b (decide P)] := by simp [h]
theorem retN {P : Prop} [Decidable P] (h : ¬ P) : [DV.b false] = [DV.b (decide P)] := by simp [h]
theorem ok19 : ContractOk Try.prog 19 c19 := by
  refine contract_of (Γ := knownOf [(20, c20)]) (known_cons ok20 rfl known_nil) Try.func19 rfl rfl is19 fun ds hk hp => ?_
  split at hp
  · skip
    rename_i ax ay bx b' x
    unfold mayP nearP at hp
    obtain ⟨p1, p2, p3, hne⟩ := hp
    have m1 := mul_bd (a := ay) (b := bx - ax) (A := 536870912) (B := 1073741824) (by omega) (by omega) (by omega) (by omega)
    have m2 := mul_bd (a := ay) (b := 0 - (bx - ax)) (A := 536870912) (B := 1073741824) (by omega) (by omega) (by omega) (by omega)
    have m3 := mul_bd (a := b' - ay) (b := 256 * x + 128 - ax) (A := 1073741824) (B := 1610612864) (by omega) (by omega) (by omega) (by omega)
    have m4 := mul_bd (a := 0 - (b' - ay)) (b := 256 * x + 128 - ax) (A := 1073741824) (B := 1610612864) (by omega) (by omega) (by omega) (by omega)
    iterate 2 refine h_need (by simp only [Env.sets, Env.set, BE.den, IE.den, DE.den, DV.int, DV.bool, DV.list, LOp.den, List.map_cons, List.map_nil, Nat.reduceEqDiff, ↓reduceIte, reduceCtorEq, Bool.and_eq_true, Bool.or_eq_true, Bool.not_eq_true', Bool.not_eq_false', Bool.and_eq_false_iff, Bool.or_eq_false_iff, decide_eq_true_eq, decide_eq_false_iff_not]; omega) ?_
    refine h_ite (fun g0 => ?_) (fun g0 => ?_)
    · simp only [Env.sets, Env.set, BE.den, IE.den, DE.den, DV.int, DV.bool, DV.list, LOp.den, List.map_cons, List.map_nil, Nat.reduceEqDiff, ↓reduceIte, reduceCtorEq, Bool.and_eq_true, Bool.or_eq_true, Bool.not_eq_true', Bool.not_eq_false', Bool.and_eq_false_iff, Bool.or_eq_false_iff, decide_eq_true_eq, decide_eq_false_iff_not] at g0
      iterate 8 refine h_need (by simp only [Env.sets, Env.set, BE.den, IE.den, DE.den, DV.int, DV.bool, DV.list, LOp.den, List.map_cons, List.map_nil, Nat.reduceEqDiff, ↓reduceIte, reduceCtorEq, Bool.and_eq_true, Bool.or_eq_true, Bool.not_eq_true', Bool.not_eq_false', Bool.and_eq_false_iff, Bool.or_eq_false_iff, decide_eq_true_eq, decide_eq_false_iff_not]; omega) ?_
      refine h_ite (fun g1 => ?_) (fun g1 => ?_)
      · simp only [Env.sets, Env.set, BE.den, IE.den, DE.den, DV.int, DV.bool, DV.list, LOp.den, List.map_cons, List.map_nil, Nat.reduceEqDiff, ↓reduceIte, reduceCtorEq, Bool.and_eq_true, Bool.or_eq_true, Bool.not_eq_true', Bool.not_eq_false', Bool.and_eq_false_iff, Bool.or_eq_false_iff, decide_eq_true_eq, decide_eq_false_iff_not] at g1
        iterate 2 refine h_need (by simp only [Env.sets, Env.set, BE.den, IE.den, DE.den, DV.int, DV.bool, DV.list, LOp.den, List.map_cons, List.map_nil, Nat.reduceEqDiff, ↓reduceIte, reduceCtorEq, Bool.and_eq_true, Bool.or_eq_true, Bool.not_eq_true', Bool.not_eq_false', Bool.and_eq_false_iff, Bool.or_eq_false_iff, decide_eq_true_eq, decide_eq_false_iff_not]; omega) ?_
        refine h_call (c := c20) rfl (show 0 < 256 * (0 - (bx - ax)) ∧ bigP (ay * (0 - (bx - ax)) + (0 - (b' - ay)) * (256 * x + 128 - ax) - 1) by unfold bigP; omega) fun rs hk hr => ?_
        have hr : rs = [.i ((ay * (0 - (bx - ax)) + (0 - (b' - ay)) * (256 * x + 128 - ax) - 1) / (256 * (0 - (bx - ax))))] := hr
        subst hr
        exact retI (by unfold crossI; rw [if_pos g0, if_pos g1]; rfl)
      · simp only [Env.sets, Env.set, BE.den, IE.den, DE.den, DV.int, DV.bool, DV.list, LOp.den, List.map_cons, List.map_nil, Nat.reduceEqDiff, ↓reduceIte, reduceCtorEq, Bool.and_eq_true, Bool.or_eq_true, Bool.not_eq_true', Bool.not_eq_false', Bool.and_eq_false_iff, Bool.or_eq_false_iff, decide_eq_true_eq, decide_eq_false_iff_not] at g1
        refine h_need (by simp only [Env.sets, Env.set, BE.den, IE.den, DE.den, DV.int, DV.bool, DV.list, LOp.den, List.map_cons, List.map_nil, Nat.reduceEqDiff, ↓reduceIte, reduceCtorEq, Bool.and_eq_true, Bool.or_eq_true, Bool.not_eq_true', Bool.not_eq_false', Bool.and_eq_false_iff, Bool.or_eq_false_iff, decide_eq_true_eq, decide_eq_false_iff_not]; omega) ?_
        refine h_call (c := c20) rfl (show 0 < 256 * (0 - (bx - ax)) ∧ bigP (ay * (0 - (bx - ax)) + (0 - (b' - ay)) * (256 * x + 128 - ax)) by unfold bigP; omega) fun rs hk hr => ?_
        have hr : rs = [.i ((ay * (0 - (bx - ax)) + (0 - (b' - ay)) * (256 * x + 128 - ax)) / (256 * (0 - (bx - ax))))] := hr
        subst hr
        exact retI (by unfold crossI; rw [if_pos g0, if_neg g1]; rfl)
    · simp only [Env.sets, Env.set, BE.den, IE.den, DE.den, DV.int, DV.bool, DV.list, LOp.den, List.map_cons, List.map_nil, Nat.reduceEqDiff, ↓reduceIte, reduceCtorEq, Bool.and_eq_true, Bool.or_eq_true, Bool.not_eq_true', Bool.not_eq_false', Bool.and_eq_false_iff, Bool.or_eq_false_iff, decide_eq_true_eq, decide_eq_false_iff_not] at g0
      iterate 6 refine h_need (by simp only [Env.sets, Env.set, BE.den, IE.den, DE.den, DV.int, DV.bool, DV.list, LOp.den, List.map_cons, List.map_nil, Nat.reduceEqDiff, ↓reduceIte, reduceCtorEq, Bool.and_eq_true, Bool.or_eq_true, Bool.not_eq_true', Bool.not_eq_false', Bool.and_eq_false_iff, Bool.or_eq_false_iff, decide_eq_true_eq, decide_eq_false_iff_not]; omega) ?_
      refine h_ite (fun g1 => ?_) (fun g1 => ?_)
      · simp only [Env.sets, Env.set, BE.den, IE.den, DE.den, DV.int, DV.bool, DV.list, LOp.den, List.map_cons, List.map_nil, Nat.reduceEqDiff, ↓reduceIte, reduceCtorEq, Bool.and_eq_true, Bool.or_eq_true, Bool.not_eq_true', Bool.not_eq_false', Bool.and_eq_false_iff, Bool.or_eq_false_iff, decide_eq_true_eq, decide_eq_false_iff_not] at g1
        iterate 2 refine h_need (by simp only [Env.sets, Env.set, BE.den, IE.den, DE.den, DV.int, DV.bool, DV.list, LOp.den, List.map_cons, List.map_nil, Nat.reduceEqDiff, ↓reduceIte, reduceCtorEq, Bool.and_eq_true, Bool.or_eq_true, Bool.not_eq_true', Bool.not_eq_false', Bool.and_eq_false_iff, Bool.or_eq_false_iff, decide_eq_true_eq, decide_eq_false_iff_not]; omega) ?_
        refine h_call (c := c20) rfl (show 0 < 256 * (bx - ax) ∧ bigP (ay * (bx - ax) + (b' - ay) * (256 * x + 128 - ax) - 1) by unfold bigP; omega) fun rs hk hr => ?_
        have hr : rs = [.i ((ay * (bx - ax) + (b' - ay) * (256 * x + 128 - ax) - 1) / (256 * (bx - ax)))] := hr
        subst hr
        exact retI (by unfold crossI; rw [if_neg g0, if_pos g1]; rfl)
      · simp only [Env.sets, Env.set, BE.den, IE.den, DE.den, DV.int, DV.bool, DV.list, LOp.den, List.map_cons, List.map_nil, Nat.reduceEqDiff, ↓reduceIte, reduceCtorEq, Bool.and_eq_true, Bool.or_eq_true, Bool.not_eq_true', Bool.not_eq_false', Bool.and_eq_false_iff, Bool.or_eq_false_iff, decide_eq_true_eq, decide_eq_false_iff_not] at g1
        refine h_need (by simp only [Env.sets, Env.set, BE.den, IE.den, DE.den, DV.int, DV.bool, DV.list, LOp.den, List.map_cons, List.map_nil, Nat.reduceEqDiff, ↓reduceIte, reduceCtorEq, Bool.and_eq_true, Bool.or_eq_true, Bool.not_eq_true', Bool.not_eq_false', Bool.and_eq_false_iff, Bool.or_eq_false_iff, decide_eq_true_eq, decide_eq_false_iff_not]; omega) ?_
        refine h_call (c := c20) rfl (show 0 < 256 * (bx - ax) ∧ bigP (ay * (bx - ax) + (b' - ay) * (256 * x + 128 - ax)) by unfold bigP; omega) fun rs hk hr => ?_
        have hr : rs = [.i ((ay * (bx - ax) + (b' - ay) * (256 * x + 128 - ax)) / (256 * (bx - ax)))] := hr
        subst hr
        exact retI (by unfold crossI; rw [if_neg g0, if_neg g1]; rfl)
  · cases hp
theorem ok12 : ContractOk Try.prog 12 (cMeets sg12) := by
  refine contract_of (Γ := knownOf [(18, c18), (19, c19), (20, c20)]) (known_cons ok18 rfl (known_cons ok19 rfl (known_cons ok20 rfl known_nil))) Try.func12 rfl rfl is12 fun ds hk hp => ?_
  split at hp
  · skip
    rename_i ax ay bx b' x y
    obtain ⟨p1, p2, p3⟩ := hp
    have q1 := p1
    have q2 := p2
    have q3 := p3
    unfold mayP at p1 p2
    unfold nearP at p3
    have hm := meets_iff (ax := ax) (ay := ay) (bx := bx) (by' := b') (x := x) (y := y)
    refine h_call (c := c18) rfl q1 fun rs hk hr => ?_
    have hr : rs = [.b (decide (inP ax ay x y))] := hr
    subst hr
    refine h_callg (c := c18) rfl (fun _ => q2) fun rs hk hr2 => ?_
    obtain ⟨i2, rfl⟩ := kinds1b hk
    have hr2 : (!decide (inP ax ay x y)) = true → [DV.b i2] = [DV.b (decide (inP bx b' x y))] := hr2
    refine h_ite (fun g0 => ?_) (fun g0 => ?_)
    · have g0 : (decide (inP ax ay x y) || i2) = true := g0
      refine retT (P := meetsP ax ay bx b' x y) (hm.2 ?_)
      by_cases ha : inP ax ay x y
      · exact .inl ha
      · have hb := b_of (hr2 (by simp [ha]))
        simp only [ha, decide_false, Bool.false_or] at g0
        rw [hb, decide_eq_true_eq] at g0
        exact .inr (.inl g0)
    · have g0 : (decide (inP ax ay x y) || i2) = false := g0
      rw [Bool.or_eq_false_iff, decide_eq_false_iff_not] at g0
      obtain ⟨ha, hb⟩ := g0
      rw [b_of (hr2 (by simp [ha])), decide_eq_false_iff_not] at hb
      clear hr2
      simp only [ha, hb, false_or] at hm
      iterate 4 refine h_need (by simp only [Env.sets, Env.set, BE.den, IE.den, DE.den, DV.int, DV.bool, DV.list, LOp.den, List.map_cons, List.map_nil, Nat.reduceEqDiff, ↓reduceIte, reduceCtorEq, Bool.and_eq_true, Bool.or_eq_true, Bool.not_eq_true', Bool.not_eq_false', Bool.and_eq_false_iff, Bool.or_eq_false_iff, decide_eq_true_eq, decide_eq_false_iff_not]; omega) ?_
      refine h_ite (fun g1 => ?_) (fun g1 => ?_)
      · simp only [Env.sets, Env.set, BE.den, IE.den, DE.den, DV.int, DV.bool, DV.list, LOp.den, List.map_cons, List.map_nil, Nat.reduceEqDiff, ↓reduceIte, reduceCtorEq, Bool.and_eq_true, Bool.or_eq_true, Bool.not_eq_true', Bool.not_eq_false', Bool.and_eq_false_iff, Bool.or_eq_false_iff, decide_eq_true_eq, decide_eq_false_iff_not] at g1
        rw [if_pos g1] at hm
        iterate 2 refine h_need (by simp only [Env.sets, Env.set, BE.den, IE.den, DE.den, DV.int, DV.bool, DV.list, LOp.den, List.map_cons, List.map_nil, Nat.reduceEqDiff, ↓reduceIte, reduceCtorEq, Bool.and_eq_true, Bool.or_eq_true, Bool.not_eq_true', Bool.not_eq_false', Bool.and_eq_false_iff, Bool.or_eq_false_iff, decide_eq_true_eq, decide_eq_false_iff_not]; omega) ?_
        refine h_callg (c := c19) rfl (fun g => ?_) fun rs hk hr => ?_
        · simp only [Env.sets, Env.set, BE.den, IE.den, DE.den, DV.int, DV.bool, DV.list, LOp.den, List.map_cons, List.map_nil, Nat.reduceEqDiff, ↓reduceIte, reduceCtorEq, Bool.and_eq_true, Bool.or_eq_true, Bool.not_eq_true', Bool.not_eq_false', Bool.and_eq_false_iff, Bool.or_eq_false_iff, decide_eq_true_eq, decide_eq_false_iff_not] at g
          exact (show mayP ax ay ∧ mayP bx b' ∧ nearP x 0 ∧ ax ≠ bx from ⟨q1, q2, by unfold nearP; omega, by omega⟩)
        obtain ⟨z, rfl⟩ := kinds1i hk
        have hr : (decide (min ax bx ≤ 256 * x + 128) && decide (256 * x + 128 < max ax bx)) = true → [DV.i z] = [DV.i (crossI ax ay bx b' x)] := hr
        refine retB (X := (decide (min ax bx ≤ 256 * x + 128) && decide (256 * x + 128 < max ax bx)) && decide (z = y)) (P := meetsP ax ay bx b' x y) ?_
        rw [hm]
        simp only [Bool.and_eq_true, decide_eq_true_eq] at hr ⊢
        constructor
        · rintro ⟨a, b⟩
          exact ⟨a, by rw [← i_of (hr a)]; exact b⟩
        · rintro ⟨a, b⟩
          exact ⟨a, by rw [i_of (hr a)]; exact b⟩
      · simp only [Env.sets, Env.set, BE.den, IE.den, DE.den, DV.int, DV.bool, DV.list, LOp.den, List.map_cons, List.map_nil, Nat.reduceEqDiff, ↓reduceIte, reduceCtorEq, Bool.and_eq_true, Bool.or_eq_true, Bool.not_eq_true', Bool.not_eq_false', Bool.and_eq_false_iff, Bool.or_eq_false_iff, decide_eq_true_eq, decide_eq_false_iff_not] at g1
        rw [if_neg g1] at hm
        iterate 2 refine h_need (by simp only [Env.sets, Env.set, BE.den, IE.den, DE.den, DV.int, DV.bool, DV.list, LOp.den, List.map_cons, List.map_nil, Nat.reduceEqDiff, ↓reduceIte, reduceCtorEq, Bool.and_eq_true, Bool.or_eq_true, Bool.not_eq_true', Bool.not_eq_false', Bool.and_eq_false_iff, Bool.or_eq_false_iff, decide_eq_true_eq, decide_eq_false_iff_not]; omega) ?_
        refine h_ite (fun g2 => ?_) (fun g2 => ?_)
        · simp only [Env.sets, Env.set, BE.den, IE.den, DE.den, DV.int, DV.bool, DV.list, LOp.den, List.map_cons, List.map_nil, Nat.reduceEqDiff, ↓reduceIte, reduceCtorEq, Bool.and_eq_true, Bool.or_eq_true, Bool.not_eq_true', Bool.not_eq_false', Bool.and_eq_false_iff, Bool.or_eq_false_iff, decide_eq_true_eq, decide_eq_false_iff_not] at g2
          exact retN (P := meetsP ax ay bx b' x y) (fun h => by have := (hm.1 h).1; omega)
        · simp only [Env.sets, Env.set, BE.den, IE.den, DE.den, DV.int, DV.bool, DV.list, LOp.den, List.map_cons, List.map_nil, Nat.reduceEqDiff, ↓reduceIte, reduceCtorEq, Bool.and_eq_true, Bool.or_eq_true, Bool.not_eq_true', Bool.not_eq_false', Bool.and_eq_false_iff, Bool.or_eq_false_iff, decide_eq_true_eq, decide_eq_false_iff_not] at g2
          have gm : min ay b' ≤ 256 * y + 128 ∧ 256 * y + 128 < max ay b' := by omega
          simp only [gm, true_and] at hm
          have m1 := mul_bd (a := ax) (b := b' - ay) (A := 536870912) (B := 1073741824) (by omega) (by omega) (by omega) (by omega)
          have m2 := mul_bd (a := ax) (b := 0 - (b' - ay)) (A := 536870912) (B := 1073741824) (by omega) (by omega) (by omega) (by omega)
          have m3 := mul_bd (a := bx - ax) (b := 256 * y + 128 - ay) (A := 1073741824) (B := 1610612864) (by omega) (by omega) (by omega) (by omega)
          have m4 := mul_bd (a := 0 - (bx - ax)) (b := 256 * y + 128 - ay) (A := 1073741824) (B := 1610612864) (by omega) (by omega) (by omega) (by omega)
          refine h_ite (fun g3 => ?_) (fun g3 => ?_)
          · simp only [Env.sets, Env.set, BE.den, IE.den, DE.den, DV.int, DV.bool, DV.list, LOp.den, List.map_cons, List.map_nil, Nat.reduceEqDiff, ↓reduceIte, reduceCtorEq, Bool.and_eq_true, Bool.or_eq_true, Bool.not_eq_true', Bool.not_eq_false', Bool.and_eq_false_iff, Bool.or_eq_false_iff, decide_eq_true_eq, decide_eq_false_iff_not] at g3
            rw [if_pos g3] at hm
            iterate 6 refine h_need (by simp only [Env.sets, Env.set, BE.den, IE.den, DE.den, DV.int, DV.bool, DV.list, LOp.den, List.map_cons, List.map_nil, Nat.reduceEqDiff, ↓reduceIte, reduceCtorEq, Bool.and_eq_true, Bool.or_eq_true, Bool.not_eq_true', Bool.not_eq_false', Bool.and_eq_false_iff, Bool.or_eq_false_iff, decide_eq_true_eq, decide_eq_false_iff_not]; omega) ?_
            refine h_call (c := c20) rfl (show 0 < 256 * (0 - (b' - ay)) ∧ bigP (ax * (0 - (b' - ay)) + (0 - (bx - ax)) * (256 * y + 128 - ay) - 1) by unfold bigP; omega) fun rs hk hr => ?_
            have hr : rs = [.i ((ax * (0 - (b' - ay)) + (0 - (bx - ax)) * (256 * y + 128 - ay) - 1) / (256 * (0 - (b' - ay))))] := hr
            subst hr
            refine retB (X := decide ((ax * (0 - (b' - ay)) + (0 - (bx - ax)) * (256 * y + 128 - ay) - 1) / (256 * (0 - (b' - ay))) = x)) (P := meetsP ax ay bx b' x y) ?_
            rw [hm, decide_eq_true_eq]
          · simp only [Env.sets, Env.set, BE.den, IE.den, DE.den, DV.int, DV.bool, DV.list, LOp.den, List.map_cons, List.map_nil, Nat.reduceEqDiff, ↓reduceIte, reduceCtorEq, Bool.and_eq_true, Bool.or_eq_true, Bool.not_eq_true', Bool.not_eq_false', Bool.and_eq_false_iff, Bool.or_eq_false_iff, decide_eq_true_eq, decide_eq_false_iff_not] at g3
            rw [if_neg g3] at hm
            iterate 6 refine h_need (by simp only [Env.sets, Env.set, BE.den, IE.den, DE.den, DV.int, DV.bool, DV.list, LOp.den, List.map_cons, List.map_nil, Nat.reduceEqDiff, ↓reduceIte, reduceCtorEq, Bool.and_eq_true, Bool.or_eq_true, Bool.not_eq_true', Bool.not_eq_false', Bool.and_eq_false_iff, Bool.or_eq_false_iff, decide_eq_true_eq, decide_eq_false_iff_not]; omega) ?_
            refine h_call (c := c20) rfl (show 0 < 256 * (b' - ay) ∧ bigP (ax * (b' - ay) + (bx - ax) * (256 * y + 128 - ay) - 1) by unfold bigP; omega) fun rs hk hr => ?_
            have hr : rs = [.i ((ax * (b' - ay) + (bx - ax) * (256 * y + 128 - ay) - 1) / (256 * (b' - ay)))] := hr
            subst hr
            refine retB (X := decide ((ax * (b' - ay) + (bx - ax) * (256 * y + 128 - ay) - 1) / (256 * (b' - ay)) = x)) (P := meetsP ax ay bx b' x y) ?_
            rw [hm, decide_eq_true_eq]
  · cases hp
theorem ok15 : ContractOk Try.prog 15 (cExits sg15) := by
  refine contract_of (Γ := knownOf [(18, c18), (12, cMeets sg12)]) (known_cons ok18 rfl (known_cons ok12 rfl known_nil)) Try.func15 rfl rfl is15 fun ds hk hp => ?_
  split at hp
  · skip
    rename_i ax ay bx b' x y
    obtain ⟨p1, p2, p3⟩ := hp
    refine h_call (c := c18) rfl p2 fun rs hk hr => ?_
    have hr : rs = [.b (decide (inP bx b' x y))] := hr
    subst hr
    refine h_callg (c := cMeets sg12) rfl (fun _ => ⟨p1, p2, p3⟩) fun rs hk hr2 => ?_
    obtain ⟨i2, rfl⟩ := kinds1b hk
    have hr2 : (!decide (inP bx b' x y)) = true → [DV.b i2] = [DV.b (decide (meetsP ax ay bx b' x y))] := hr2
    show [DV.b (!decide (inP bx b' x y) && i2)] = [DV.b (decide (meetsP ax ay bx b' x y) && !decide (inP bx b' x y))]
    cases h : decide (inP bx b' x y)
    · rw [h] at hr2
      rw [b_of (hr2 rfl)]
      simp
    · simp
  · cases hp
end Go.Proofs.Ytokmmjhnhmealaa.Fns

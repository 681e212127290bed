/- Layer 13: what each function does: the document's meets, the example. -/
import Derived.Test.YtokmmjhnhmealaaFns3
set_option linter.unusedVariables false
set_option linter.unusedSimpArgs false
set_option maxRecDepth 10000
namespace Go.Proofs.Ytokmmjhnhmealaa.Fns
open Go.Sx Go.Proofs.Ytokmmjhnhmealaa.Trees Go.Proofs.Ytokmmjhnhmealaa.Plain

theorem s3 {a b c : Int} : (sign3 a b c < 0 ↔ (a < 0 ∨ (a = 0 ∧ (b < 0 ∨ (b = 0 ∧ c < 0))))) ∧ (0 < sign3 a b c ↔ (0 < a ∨ (a = 0 ∧ (0 < b ∨ (b = 0 ∧ 0 < c))))) := by unfold sign3; grind
theorem ok14 : ContractOk Try.prog 14 (cMeets sg14) := by
  refine contract_of (Γ := knownOf [(21, c21), (22, c22)]) (known_cons ok21 rfl (known_cons ok22 rfl known_nil)) Try.func14 rfl rfl is14 fun ds hk hp => ?_
  split at hp
  · skip
    rename_i ax ay bx b' x y
    obtain ⟨p1, p2, p3⟩ := hp
    unfold mayP at p1 p2
    unfold nearP at p3
    have m1 := mul_bd (a := ((bx - 256*x - 128) - (ax - 256*x - 128))) (b := (ay - 256*y - 128)) (A := 1073741824) (B := 1610612864) (by omega) (by omega) (by omega) (by omega)
    have m2 := mul_bd (a := ((b' - 256*y - 128) - (ay - 256*y - 128))) (b := (ax - 256*x - 128)) (A := 1073741824) (B := 1610612864) (by omega) (by omega) (by omega) (by omega)
    have hM : meetsP ax ay bx b' x y ↔ R1 (ax - 256*x - 128) (ay - 256*y - 128) (bx - 256*x - 128) (b' - 256*y - 128) ∧ (((ax - 256*x - 128) = (bx - 256*x - 128) ∧ (ay - 256*y - 128) = (b' - 256*y - 128)) ∨ Band ((bx - 256*x - 128) - (ax - 256*x - 128)) ((b' - 256*y - 128) - (ay - 256*y - 128)) (ax - 256*x - 128) (ay - 256*y - 128)) := Iff.rfl
    iterate 13 refine h_need (by simp only [Env.sets, Env.set, BE.den, IE.den, DE.den, DV.int, DV.bool, DV.list, LOp.den, List.map_cons, List.map_nil, Nat.reduceEqDiff, ↓reduceIte, reduceCtorEq, Bool.and_eq_true, Bool.or_eq_true, Bool.not_eq_true', Bool.not_eq_false', Bool.and_eq_false_iff, Bool.or_eq_false_iff, decide_eq_true_eq, decide_eq_false_iff_not]; omega) ?_
    refine h_call (c := c21) rfl trivial fun rs hk hr => ?_
    obtain ⟨t1, rfl⟩ := kinds1i hk
    have hr : [DV.i t1] = [.i (sign3 (min ((ax - 256*x - 128) + (ay - 256*y - 128)) ((bx - 256*x - 128) + (b' - 256*y - 128)) - 128) (-1) (-1))] := hr
    have e1 := s1 (n := min ((ax - 256*x - 128) + (ay - 256*y - 128)) ((bx - 256*x - 128) + (b' - 256*y - 128)) - 128)
    rw [← i_of hr] at e1
    clear hr
    iterate 3 refine h_need (by simp only [Env.sets, Env.set, BE.den, IE.den, DE.den, DV.int, DV.bool, DV.list, LOp.den, List.map_cons, List.map_nil, Nat.reduceEqDiff, ↓reduceIte, reduceCtorEq, Bool.and_eq_true, Bool.or_eq_true, Bool.not_eq_true', Bool.not_eq_false', Bool.and_eq_false_iff, Bool.or_eq_false_iff, decide_eq_true_eq, decide_eq_false_iff_not]; omega) ?_
    refine h_callg (c := c21) rfl (fun _ => trivial) fun rs hk hr => ?_
    obtain ⟨t2, rfl⟩ := kinds1i hk
    have hr : (!decide (0 ≤ t1)) = true → [DV.i t2] = [.i (sign3 (max ((ax - 256*x - 128) + (ay - 256*y - 128)) ((bx - 256*x - 128) + (b' - 256*y - 128)) + 128) (-1) (-1))] := hr
    have e2 := s1 (n := max ((ax - 256*x - 128) + (ay - 256*y - 128)) ((bx - 256*x - 128) + (b' - 256*y - 128)) + 128)
    refine h_ite (fun g0 => ?_) (fun g0 => ?_)
    · simp only [Env.sets, Env.set, BE.den, IE.den, DE.den, DV.int, DV.bool, DV.list, LOp.den, List.map_cons, List.map_nil, Nat.reduceEqDiff, ↓reduceIte, reduceCtorEq, Bool.and_eq_true, Bool.or_eq_true, Bool.not_eq_true', Bool.not_eq_false', Bool.and_eq_false_iff, Bool.or_eq_false_iff, decide_eq_true_eq, decide_eq_false_iff_not] at g0
      refine retN (P := meetsP ax ay bx b' x y) (fun h => ?_)
      obtain ⟨⟨⟨r1, r2⟩, r3, r4⟩, _⟩ := hM.1 h
      have h1 : t1 < 0 := e1.1.2 (by omega)
      have h2 := i_of (hr (by simp; omega))
      rw [← h2] at e2
      have := e2.2.2 (by omega)
      omega
    · simp only [Env.sets, Env.set, BE.den, IE.den, DE.den, DV.int, DV.bool, DV.list, LOp.den, List.map_cons, List.map_nil, Nat.reduceEqDiff, ↓reduceIte, reduceCtorEq, Bool.and_eq_true, Bool.or_eq_true, Bool.not_eq_true', Bool.not_eq_false', Bool.and_eq_false_iff, Bool.or_eq_false_iff, decide_eq_true_eq, decide_eq_false_iff_not] at g0
      have h2 := i_of (hr (by simp; omega))
      rw [← h2] at e2
      clear hr
      iterate 3 refine h_need (by simp only [Env.sets, Env.set, BE.den, IE.den, DE.den, DV.int, DV.bool, DV.list, LOp.den, List.map_cons, List.map_nil, Nat.reduceEqDiff, ↓reduceIte, reduceCtorEq, Bool.and_eq_true, Bool.or_eq_true, Bool.not_eq_true', Bool.not_eq_false', Bool.and_eq_false_iff, Bool.or_eq_false_iff, decide_eq_true_eq, decide_eq_false_iff_not]; omega) ?_
      refine h_call (c := c21) rfl trivial fun rs hk hr => ?_
      obtain ⟨t3, rfl⟩ := kinds1i hk
      have hr : [DV.i t3] = [.i (sign3 (min ((ax - 256*x - 128) - (ay - 256*y - 128)) ((bx - 256*x - 128) - (b' - 256*y - 128)) - 128) (-1) 1)] := hr
      have e3 := s2 (n := min ((ax - 256*x - 128) - (ay - 256*y - 128)) ((bx - 256*x - 128) - (b' - 256*y - 128)) - 128)
      rw [← i_of hr] at e3
      clear hr
      iterate 3 refine h_need (by simp only [Env.sets, Env.set, BE.den, IE.den, DE.den, DV.int, DV.bool, DV.list, LOp.den, List.map_cons, List.map_nil, Nat.reduceEqDiff, ↓reduceIte, reduceCtorEq, Bool.and_eq_true, Bool.or_eq_true, Bool.not_eq_true', Bool.not_eq_false', Bool.and_eq_false_iff, Bool.or_eq_false_iff, decide_eq_true_eq, decide_eq_false_iff_not]; omega) ?_
      refine h_callg (c := c21) rfl (fun _ => trivial) fun rs hk hr => ?_
      obtain ⟨t4, rfl⟩ := kinds1i hk
      have hr : (!decide (0 ≤ t3)) = true → [DV.i t4] = [.i (sign3 (max ((ax - 256*x - 128) - (ay - 256*y - 128)) ((bx - 256*x - 128) - (b' - 256*y - 128)) + 128) (-1) 1)] := hr
      have e4 := s2 (n := max ((ax - 256*x - 128) - (ay - 256*y - 128)) ((bx - 256*x - 128) - (b' - 256*y - 128)) + 128)
      refine h_ite (fun g1 => ?_) (fun g1 => ?_)
      · simp only [Env.sets, Env.set, BE.den, IE.den, DE.den, DV.int, DV.bool, DV.list, LOp.den, List.map_cons, List.map_nil, Nat.reduceEqDiff, ↓reduceIte, reduceCtorEq, Bool.and_eq_true, Bool.or_eq_true, Bool.not_eq_true', Bool.not_eq_false', Bool.and_eq_false_iff, Bool.or_eq_false_iff, decide_eq_true_eq, decide_eq_false_iff_not] at g1
        refine retN (P := meetsP ax ay bx b' x y) (fun h => ?_)
        obtain ⟨⟨⟨r1, r2⟩, r3, r4⟩, _⟩ := hM.1 h
        have h1 : t3 < 0 := e3.1.2 (by omega)
        have h2 := i_of (hr (by simp; omega))
        rw [← h2] at e4
        have := e4.2.2 (by omega)
        omega
      · simp only [Env.sets, Env.set, BE.den, IE.den, DE.den, DV.int, DV.bool, DV.list, LOp.den, List.map_cons, List.map_nil, Nat.reduceEqDiff, ↓reduceIte, reduceCtorEq, Bool.and_eq_true, Bool.or_eq_true, Bool.not_eq_true', Bool.not_eq_false', Bool.and_eq_false_iff, Bool.or_eq_false_iff, decide_eq_true_eq, decide_eq_false_iff_not] at g1
        have h4 := i_of (hr (by simp; omega))
        rw [← h4] at e4
        clear hr
        have hR : R1 (ax - 256*x - 128) (ay - 256*y - 128) (bx - 256*x - 128) (b' - 256*y - 128) := by
          refine ⟨⟨?_, ?_⟩, ?_, ?_⟩
          · have := e1.1.1 (by omega); omega
          · have := e2.2.1 (by omega); omega
          · have := e3.1.1 (by omega); omega
          · have := e4.2.1 (by omega); omega
        simp only [hR, true_and] at hM
        refine h_ite (fun g2 => ?_) (fun g2 => ?_)
        · simp only [Env.sets, Env.set, BE.den, IE.den, DE.den, DV.int, DV.bool, DV.list, LOp.den, List.map_cons, List.map_nil, Nat.reduceEqDiff, ↓reduceIte, reduceCtorEq, Bool.and_eq_true, Bool.or_eq_true, Bool.not_eq_true', Bool.not_eq_false', Bool.and_eq_false_iff, Bool.or_eq_false_iff, decide_eq_true_eq, decide_eq_false_iff_not] at g2
          exact retT (P := meetsP ax ay bx b' x y) (hM.2 (.inl (by omega)))
        · simp only [Env.sets, Env.set, BE.den, IE.den, DE.den, DV.int, DV.bool, DV.list, LOp.den, List.map_cons, List.map_nil, Nat.reduceEqDiff, ↓reduceIte, reduceCtorEq, Bool.and_eq_true, Bool.or_eq_true, Bool.not_eq_true', Bool.not_eq_false', Bool.and_eq_false_iff, Bool.or_eq_false_iff, decide_eq_true_eq, decide_eq_false_iff_not] at g2
          have hne : ¬ ((ax - 256*x - 128) = (bx - 256*x - 128) ∧ (ay - 256*y - 128) = (b' - 256*y - 128)) := by omega
          simp only [hne, false_or] at hM
          iterate 5 refine h_need (by simp only [Env.sets, Env.set, BE.den, IE.den, DE.den, DV.int, DV.bool, DV.list, LOp.den, List.map_cons, List.map_nil, Nat.reduceEqDiff, ↓reduceIte, reduceCtorEq, Bool.and_eq_true, Bool.or_eq_true, Bool.not_eq_true', Bool.not_eq_false', Bool.and_eq_false_iff, Bool.or_eq_false_iff, decide_eq_true_eq, decide_eq_false_iff_not]; omega) ?_
          refine h_call (c := c22) rfl (show bigP ((bx - 256*x - 128) - (ax - 256*x - 128)) by unfold bigP; omega) fun rs hk hr => ?_
          have hr : rs = [.i (max ((bx - 256*x - 128) - (ax - 256*x - 128)) (0 - ((bx - 256*x - 128) - (ax - 256*x - 128))))] := hr
          subst hr
          refine h_call (c := c22) rfl (show bigP ((b' - 256*y - 128) - (ay - 256*y - 128)) by unfold bigP; omega) fun rs hk hr => ?_
          have hr : rs = [.i (max ((b' - 256*y - 128) - (ay - 256*y - 128)) (0 - ((b' - 256*y - 128) - (ay - 256*y - 128))))] := hr
          subst hr
          iterate 3 refine h_need (by simp only [Env.sets, Env.set, BE.den, IE.den, DE.den, DV.int, DV.bool, DV.list, LOp.den, List.map_cons, List.map_nil, Nat.reduceEqDiff, ↓reduceIte, reduceCtorEq, Bool.and_eq_true, Bool.or_eq_true, Bool.not_eq_true', Bool.not_eq_false', Bool.and_eq_false_iff, Bool.or_eq_false_iff, decide_eq_true_eq, decide_eq_false_iff_not]; omega) ?_
          refine h_call (c := c21) rfl trivial fun rs hk hr => ?_
          obtain ⟨t5, rfl⟩ := kinds1i hk
          have hr : [DV.i t5] = [.i (sign3 ((((bx - 256*x - 128) - (ax - 256*x - 128)) * (ay - 256*y - 128) - ((b' - 256*y - 128) - (ay - 256*y - 128)) * (ax - 256*x - 128)) - (128 * max (max ((bx - 256*x - 128) - (ax - 256*x - 128)) (0 - ((bx - 256*x - 128) - (ax - 256*x - 128)))) (max ((b' - 256*y - 128) - (ay - 256*y - 128)) (0 - ((b' - 256*y - 128) - (ay - 256*y - 128)))))) ((b' - 256*y - 128) - (ay - 256*y - 128)) (0 - ((bx - 256*x - 128) - (ax - 256*x - 128))))] := hr
          have e5 := s3 (a := (((bx - 256*x - 128) - (ax - 256*x - 128)) * (ay - 256*y - 128) - ((b' - 256*y - 128) - (ay - 256*y - 128)) * (ax - 256*x - 128)) - (128 * max (max ((bx - 256*x - 128) - (ax - 256*x - 128)) (0 - ((bx - 256*x - 128) - (ax - 256*x - 128)))) (max ((b' - 256*y - 128) - (ay - 256*y - 128)) (0 - ((b' - 256*y - 128) - (ay - 256*y - 128)))))) (b := ((b' - 256*y - 128) - (ay - 256*y - 128))) (c := 0 - ((bx - 256*x - 128) - (ax - 256*x - 128)))
          rw [← i_of hr] at e5
          clear hr
          iterate 2 refine h_need (by simp only [Env.sets, Env.set, BE.den, IE.den, DE.den, DV.int, DV.bool, DV.list, LOp.den, List.map_cons, List.map_nil, Nat.reduceEqDiff, ↓reduceIte, reduceCtorEq, Bool.and_eq_true, Bool.or_eq_true, Bool.not_eq_true', Bool.not_eq_false', Bool.and_eq_false_iff, Bool.or_eq_false_iff, decide_eq_true_eq, decide_eq_false_iff_not]; omega) ?_
          refine h_callg (c := c21) rfl (fun _ => trivial) fun rs hk hr => ?_
          obtain ⟨t6, rfl⟩ := kinds1i hk
          have hr : decide (t5 < 0) = true → [DV.i t6] = [.i (sign3 ((((bx - 256*x - 128) - (ax - 256*x - 128)) * (ay - 256*y - 128) - ((b' - 256*y - 128) - (ay - 256*y - 128)) * (ax - 256*x - 128)) + (128 * max (max ((bx - 256*x - 128) - (ax - 256*x - 128)) (0 - ((bx - 256*x - 128) - (ax - 256*x - 128)))) (max ((b' - 256*y - 128) - (ay - 256*y - 128)) (0 - ((b' - 256*y - 128) - (ay - 256*y - 128)))))) ((b' - 256*y - 128) - (ay - 256*y - 128)) (0 - ((bx - 256*x - 128) - (ax - 256*x - 128))))] := hr
          have e6 := s3 (a := (((bx - 256*x - 128) - (ax - 256*x - 128)) * (ay - 256*y - 128) - ((b' - 256*y - 128) - (ay - 256*y - 128)) * (ax - 256*x - 128)) + (128 * max (max ((bx - 256*x - 128) - (ax - 256*x - 128)) (0 - ((bx - 256*x - 128) - (ax - 256*x - 128)))) (max ((b' - 256*y - 128) - (ay - 256*y - 128)) (0 - ((b' - 256*y - 128) - (ay - 256*y - 128)))))) (b := ((b' - 256*y - 128) - (ay - 256*y - 128))) (c := 0 - ((bx - 256*x - 128) - (ax - 256*x - 128)))
          refine retB (X := decide (t5 < 0) && decide (0 < t6)) (P := meetsP ax ay bx b' x y) ?_
          rw [hM, Bool.and_eq_true, decide_eq_true_eq, decide_eq_true_eq]
          unfold Band
          generalize (((bx - 256*x - 128) - (ax - 256*x - 128)) * (ay - 256*y - 128) - ((b' - 256*y - 128) - (ay - 256*y - 128)) * (ax - 256*x - 128)) = off at *
          generalize (128 * max (max ((bx - 256*x - 128) - (ax - 256*x - 128)) (0 - ((bx - 256*x - 128) - (ax - 256*x - 128)))) (max ((b' - 256*y - 128) - (ay - 256*y - 128)) (0 - ((b' - 256*y - 128) - (ay - 256*y - 128))))) = far at *
          generalize ((bx - 256*x - 128) - (ax - 256*x - 128)) = w at *
          generalize ((b' - 256*y - 128) - (ay - 256*y - 128)) = h at *
          constructor
          · rintro ⟨a, b⟩
            rw [i_of (hr (by simp [a]))] at b
            have k1 := e5.1.1 a
            have k2 := e6.2.1 b
            omega
          · rintro ⟨a, b⟩
            have k1 : t5 < 0 := e5.1.2 (by omega)
            refine ⟨k1, ?_⟩
            rw [i_of (hr (by simp [k1]))]
            exact e6.2.2 (by omega)
  · cases hp
theorem ok16 : ContractOk Try.prog 16 (cExits sg16) := by
  refine contract_of (Γ := knownOf [(14, cMeets sg14), (17, c17)]) (known_cons ok14 rfl (known_cons ok17 rfl known_nil)) Try.func16 rfl rfl is16 fun ds hk hp => ?_
  split at hp
  · skip
    rename_i ax ay bx b' x y
    obtain ⟨p1, p2, p3⟩ := hp
    refine h_call (c := cMeets sg14) rfl ⟨p1, p2, p3⟩ fun rs hk hr => ?_
    have hr : rs = [.b (decide (meetsP ax ay bx b' x y))] := hr
    subst hr
    refine h_callg (c := c17) rfl (fun _ => ⟨p2, p3⟩) fun rs hk hr2 => ?_
    obtain ⟨i2, rfl⟩ := kinds1b hk
    have hr2 : decide (meetsP ax ay bx b' x y) = true → [DV.b i2] = [DV.b (decide (inP bx b' x y))] := hr2
    show [DV.b (decide (meetsP ax ay bx b' x y) && !i2)] = [DV.b (decide (meetsP ax ay bx b' x y) && !decide (inP bx b' x y))]
    cases h : decide (meetsP ax ay bx b' x y)
    · simp
    · rw [h] at hr2
      rw [b_of (hr2 rfl)]
  · cases hp
def c9 : Contract := CFn sg9 (fun | [] => True | _ => False) (fun | [] => [.b true] | _ => [])
theorem ok9 : ContractOk Try.prog 9 c9 := by
  refine contract_of (Γ := knownOf [(10, c10), (12, cMeets sg12)]) (known_cons ok10 rfl (known_cons ok12 rfl known_nil)) Try.func9 rfl rfl is9 fun ds hk hp => ?_
  split at hp
  · skip
    refine h_call (c := c10) rfl (show bigP 256 ∧ bigP 128 by unfold bigP; omega) fun rs hk hr => ?_
    have hr : rs = [.i 0, .i 0, .b true] := hr
    subst hr
    refine h_call (c := c10) rfl (show bigP 0 ∧ bigP 128 by unfold bigP; omega) fun rs hk hr => ?_
    have hr : rs = [.i (-1), .i 0, .b true] := hr
    subst hr
    refine h_cally (c := cMeets sg12) rfl (by simp [Env.sets, Env.set, BE.den, IE.den, DV.bool, DV.int]) (show mayP 0 128 ∧ mayP 999 128 ∧ nearP 2 0 by unfold mayP nearP; omega) fun rs hk hr => ?_
    have hr : rs = [.b (decide (meetsP 0 128 999 128 2 0))] := hr
    rw [show decide (meetsP 0 128 999 128 2 0) = true by decide] at hr
    subst hr
    refine h_cally (c := cMeets sg12) rfl (by simp [Env.sets, Env.set, BE.den, IE.den, DV.bool, DV.int]) (show mayP 0 128 ∧ mayP 999 128 ∧ nearP 2 1 by unfold mayP nearP; omega) fun rs hk hr => ?_
    have hr : rs = [.b (decide (meetsP 0 128 999 128 2 1))] := hr
    rw [show decide (meetsP 0 128 999 128 2 1) = false by decide] at hr
    subst hr
    simp [Tree.holds, DE.den, BE.den, IE.den, Env.sets, Env.set, DV.bool, DV.int]
  · cases hp
end Go.Proofs.Ytokmmjhnhmealaa.Fns

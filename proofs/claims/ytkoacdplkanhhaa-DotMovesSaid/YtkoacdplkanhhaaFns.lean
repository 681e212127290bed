/- Layer 19: what the rectangles' functions do. -/
import Derived.Test.YtkoacdplkanhhaaSxH2
import Derived.Test.YtkoacdplkanhhaaTrees
set_option linter.unusedVariables false
set_option linter.unusedSimpArgs false
set_option maxRecDepth 10000
namespace Go.Proofs.Ytkoacdplkanhhaa.Fns
open Go.Sx Go.Proofs.Ytkoacdplkanhhaa.Trees

/-! ### Plain -/
def rightP (x0 y0 x1 y1 : Int) : Prop := (-4194304 ≤ x0 ∧ x0 ≤ 4194304) ∧ (-4194304 ≤ x1 ∧ x1 ≤ 4194304) ∧ (-4194304 ≤ y0 ∧ y0 ≤ 4194304) ∧ (-4194304 ≤ y1 ∧ y1 ≤ 4194304) ∧ x0 < x1 ∧ y0 < y1
instance (x0 y0 x1 y1 : Int) : Decidable (rightP x0 y0 x1 y1) := inferInstanceAs (Decidable (_ ∧ _))
def rightB (x0 y0 x1 y1 : Int) : Bool := decide (rightP x0 y0 x1 y1)
def areaR (x0 y0 x1 y1 : Int) : Int := if rightB x0 y0 x1 y1 then (x1 - x0) * (y1 - y0) else 0
def hasB (x0 y0 x1 y1 x y : Int) : Bool := ((((rightB x0 y0 x1 y1 && decide (x0 ≤ x)) && decide (x < x1)) && decide (y0 ≤ y)) && decide (y < y1))
def cRight (sg : Sig) : Contract := CFn sg (fun | [.i a, .i b, .i c, .i d] => True | _ => False) (fun | [.i a, .i b, .i c, .i d] => [.b (rightB a b c d)] | _ => [])
def cArea (sg : Sig) : Contract := CFn sg (fun | [.i a, .i b, .i c, .i d] => True | _ => False) (fun | [.i a, .i b, .i c, .i d] => [.i (areaR a b c d)] | _ => [])
def cHas (sg : Sig) : Contract := CFn sg (fun | [.i a, .i b, .i c, .i d, .i x, .i y] => True | _ => False) (fun | [.i a, .i b, .i c, .i d, .i x, .i y] => [.b (hasB a b c d x y)] | _ => [])
theorem ok24 : ContractOk Try.prog 24 (cRight sg24) := by
  refine contract_of (Γ := knownOf []) known_nil Try.func24 rfl rfl is24 fun ds hk hp => ?_
  split at hp
  · simp only [tree24, Tree.holds, Env.sets, Env.set, BE.den, IE.den, DE.den, DV.int, List.map_cons, List.map_nil, Nat.reduceEqDiff, ↓reduceIte, reduceCtorEq, List.cons.injEq, DV.b.injEq, and_true, rightB, Bool.or_eq_true, Bool.or_eq_false_iff, decide_eq_true_eq, decide_eq_false_iff_not]
    have fls : ∀ p : Prop, [Decidable p] → ¬ p → false = decide p := fun p _ h => by simp [h]
    refine ⟨fun g => fls _ ?_, fun g0 => ⟨fun g => fls _ ?_, fun g1 => ⟨fun g => fls _ ?_, fun g2 => ⟨fun g => fls _ ?_, fun g3 => ?_⟩⟩⟩⟩
    all_goals first
      | (unfold rightP; omega)
      | (rw [← Bool.decide_and, decide_eq_decide]; unfold rightP; omega)
  · cases hp
theorem ok19 : ContractOk Try.prog 19 (cRight sg19) := by
  refine contract_of (Γ := knownOf []) known_nil Try.func19 rfl rfl is19 fun ds hk hp => ?_
  split at hp
  · simp only [tree19, Tree.holds, Env.sets, Env.set, BE.den, IE.den, DE.den, DV.int, List.map_cons, List.map_nil, Nat.reduceEqDiff, ↓reduceIte, reduceCtorEq, List.cons.injEq, DV.b.injEq, and_true, rightB, Bool.or_eq_true, Bool.or_eq_false_iff, decide_eq_true_eq, decide_eq_false_iff_not]
    have fls : ∀ p : Prop, [Decidable p] → ¬ p → false = decide p := fun p _ h => by simp [h]
    refine ⟨fun g => fls _ ?_, fun g0 => ⟨fun g => fls _ ?_, fun g1 => ⟨fun g => fls _ ?_, fun g2 => ⟨fun g => fls _ ?_, fun g3 => ?_⟩⟩⟩⟩
    all_goals first
      | (unfold rightP; omega)
      | (rw [← Bool.decide_and, decide_eq_decide]; unfold rightP; omega)
  · cases hp
theorem mul_bd0 {a b A B : Int} (h1 : 0 ≤ a) (h2 : a ≤ A) (h3 : -B ≤ b) (h4 : b ≤ B) : -(A * B) ≤ a * b ∧ a * b ≤ A * B := by
  have hB : 0 ≤ B := by omega
  have hA : 0 ≤ A := by omega
  constructor
  · have e1 : a * -B ≤ a * b := Int.mul_le_mul_of_nonneg_left h3 h1
    have e2 : a * B ≤ A * B := Int.mul_le_mul_of_nonneg_right h2 hB
    rw [Int.mul_neg] at e1
    omega
  · have e1 : a * b ≤ a * B := Int.mul_le_mul_of_nonneg_left h4 h1
    have e2 : a * B ≤ A * B := Int.mul_le_mul_of_nonneg_right h2 hB
    omega
theorem ok20 : ContractOk Try.prog 20 (cArea sg20) := by
  refine contract_of (Γ := knownOf [(19, cRight sg19)]) (known_cons ok19 rfl known_nil) Try.func20 rfl rfl is20 fun ds hk hp => ?_
  split at hp
  · rename_i a b c d
    refine h_call (c := cRight sg19) rfl trivial fun rs hk hr => ?_
    have hr : rs = [.b (rightB a b c d)] := hr
    subst hr
    refine h_ite (fun hc => ?_) (fun hc => ?_)
    · simp only [Env.sets, Env.set, BE.den, DV.bool, Nat.reduceEqDiff, ↓reduceIte, reduceCtorEq, Bool.not_eq_true'] at hc
      simp [Tree.holds, DE.den, IE.den, areaR, hc]
    · simp only [Env.sets, Env.set, BE.den, DV.bool, Nat.reduceEqDiff, ↓reduceIte, reduceCtorEq, Bool.not_eq_false'] at hc
      have hR : rightP a b c d := of_decide_eq_true hc
      unfold rightP at hR
      have hm := mul_bd0 (a := c - a) (b := d - b) (A := 8388608) (B := 8388608) (by omega) (by omega) (by omega) (by omega)
      iterate 3 refine h_need (by simp only [Env.sets, Env.set, BE.den, IE.den, DV.int, DV.bool, Nat.reduceEqDiff, ↓reduceIte, reduceCtorEq, Bool.and_eq_true, decide_eq_true_eq]; omega) ?_
      simp [Tree.holds, DE.den, IE.den, Env.sets, Env.set, DV.int, areaR, hc]
  · cases hp
theorem ok17 : ContractOk Try.prog 17 (cHas sg17) := by
  refine contract_of (Γ := knownOf [(19, cRight sg19)]) (known_cons ok19 rfl known_nil) Try.func17 rfl rfl is17 fun ds hk hp => ?_
  split at hp
  · rename_i a b c d x y
    refine h_call (c := cRight sg19) rfl trivial fun rs hk hr => ?_
    have hr : rs = [.b (rightB a b c d)] := hr
    subst hr
    simp [Tree.holds, DE.den, BE.den, IE.den, Env.sets, Env.set, DV.int, DV.bool, hasB]
  · cases hp
/-- What two have together. -/
def andOk (a b c d e f g h : Int) : Bool := rightB a b c d && (rightB e f g h && rightB (max a e) (max b f) (min c g) (min d h))
def andL (a b c d e f g h : Int) : List DV := if andOk a b c d e f g h then [.i (max a e), .i (max b f), .i (min c g), .i (min d h)] else [.i 0, .i 0, .i 0, .i 0]
def cAnd (sg : Sig) : Contract := CFn sg (fun | [.i a, .i b, .i c, .i d, .i e, .i f, .i g, .i h] => True | _ => False) (fun | [.i a, .i b, .i c, .i d, .i e, .i f, .i g, .i h] => andL a b c d e f g h | _ => [])
theorem ok27 : ContractOk Try.prog 27 (cAnd sg27) := by
  refine contract_of (Γ := knownOf [(24, cRight sg24)]) (known_cons ok24 rfl known_nil) Try.func27 rfl rfl is27 fun ds hk hp => ?_
  split at hp
  · rename_i a b c d e f g h
    refine h_call (c := cRight sg24) rfl trivial fun rs hk hr => ?_
    have hr : rs = [.b (rightB a b c d)] := hr
    subst hr
    refine h_callg (c := cRight sg24) rfl (fun _ => trivial) fun rs hk hr2 => ?_
    obtain ⟨b2, rfl⟩ := kinds1b hk
    have hr2 : rightB a b c d = true → [DV.b b2] = [DV.b (rightB e f g h)] := hr2
    refine h_ite (fun hc => ?_) (fun hc => ?_)
    · have hc : (!(rightB a b c d) || !b2) = true := hc
      have : andOk a b c d e f g h = false := by
        unfold andOk
        cases hR : rightB a b c d
        · rfl
        · have h2 := hr2 hR
          simp only [List.cons.injEq, DV.b.injEq, and_true] at h2
          rw [hR, h2] at hc
          simp only [Bool.not_true, Bool.false_or, Bool.not_eq_true'] at hc
          simp [hc]
      show _ = andL a b c d e f g h
      unfold andL
      rw [this]
      rfl
    · have hc : (!(rightB a b c d) || !b2) = false := hc
      simp only [Bool.or_eq_false_iff, Bool.not_eq_false'] at hc
      obtain ⟨hR, rfl⟩ := hc
      have h2 := hr2 hR
      simp only [List.cons.injEq, DV.b.injEq, and_true] at h2
      refine h_call (c := cRight sg24) rfl trivial fun rs hk hr => ?_
      have hr : rs = [.b (rightB (max a e) (max b f) (min c g) (min d h))] := hr
      subst hr
      have hok : andOk a b c d e f g h = rightB (max a e) (max b f) (min c g) (min d h) := by unfold andOk; rw [hR, ← h2]; simp
      refine h_ite (fun hc => ?_) (fun hc => ?_)
      · have hc : (!(rightB (max a e) (max b f) (min c g) (min d h))) = true := hc
        rw [Bool.not_eq_true'] at hc
        show _ = andL a b c d e f g h
        unfold andL
        rw [hok, hc]
        rfl
      · have hc : (!(rightB (max a e) (max b f) (min c g) (min d h))) = false := hc
        rw [Bool.not_eq_false'] at hc
        show _ = andL a b c d e f g h
        unfold andL
        rw [hok, hc]
        rfl
  · cases hp
theorem ok18 : ContractOk Try.prog 18 (cAnd sg18) := by
  refine contract_of (Γ := knownOf [(19, cRight sg19)]) (known_cons ok19 rfl known_nil) Try.func18 rfl rfl is18 fun ds hk hp => ?_
  split at hp
  · rename_i a b c d e f g h
    refine h_call (c := cRight sg19) rfl trivial fun rs hk hr => ?_
    have hr : rs = [.b (rightB a b c d)] := hr
    subst hr
    refine h_callg (c := cRight sg19) rfl (fun _ => trivial) fun rs hk hr2 => ?_
    obtain ⟨b2, rfl⟩ := kinds1b hk
    have hr2 : rightB a b c d = true → [DV.b b2] = [DV.b (rightB e f g h)] := hr2
    refine h_ite (fun hc => ?_) (fun hc => ?_)
    · have hc : (!(rightB a b c d) || !b2) = true := hc
      have : andOk a b c d e f g h = false := by
        unfold andOk
        cases hR : rightB a b c d
        · rfl
        · have h2 := hr2 hR
          simp only [List.cons.injEq, DV.b.injEq, and_true] at h2
          rw [hR, h2] at hc
          simp only [Bool.not_true, Bool.false_or, Bool.not_eq_true'] at hc
          simp [hc]
      show _ = andL a b c d e f g h
      unfold andL
      rw [this]
      rfl
    · have hc : (!(rightB a b c d) || !b2) = false := hc
      simp only [Bool.or_eq_false_iff, Bool.not_eq_false'] at hc
      obtain ⟨hR, rfl⟩ := hc
      have h2 := hr2 hR
      simp only [List.cons.injEq, DV.b.injEq, and_true] at h2
      refine h_call (c := cRight sg19) rfl trivial fun rs hk hr => ?_
      have hr : rs = [.b (rightB (max a e) (max b f) (min c g) (min d h))] := hr
      subst hr
      have hok : andOk a b c d e f g h = rightB (max a e) (max b f) (min c g) (min d h) := by unfold andOk; rw [hR, ← h2]; simp
      refine h_ite (fun hc => ?_) (fun hc => ?_)
      · have hc : (!(rightB (max a e) (max b f) (min c g) (min d h))) = true := hc
        rw [Bool.not_eq_true'] at hc
        show _ = andL a b c d e f g h
        unfold andL
        rw [hok, hc]
        rfl
      · have hc : (!(rightB (max a e) (max b f) (min c g) (min d h))) = false := hc
        rw [Bool.not_eq_false'] at hc
        show _ = andL a b c d e f g h
        unfold andL
        rw [hok, hc]
        rfl
  · cases hp
end Go.Proofs.Ytkoacdplkanhhaa.Fns

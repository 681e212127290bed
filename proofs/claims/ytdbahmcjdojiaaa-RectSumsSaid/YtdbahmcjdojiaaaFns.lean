/- Layer 12: what each function does. -/
import Derived.Test.YtdbahmcjdojiaaaSxH2
import Derived.Test.YtdbahmcjdojiaaaTrees
set_option linter.unusedVariables false
set_option linter.unusedSimpArgs false
set_option maxRecDepth 10000
namespace Go.Proofs.Ytdbahmcjdojiaaa.Fns
open Go.Sx Go.Proofs.Ytdbahmcjdojiaaa.Trees

/-! ### Plain -/
def rightP (x0 y0 x1 y1 : Int) : Prop := (-4194304 ≤ x0 ∧ x0 ≤ 4194304) ∧ (-4194304 ≤ x1 ∧ x1 ≤ 4194304) ∧ (-4194304 ≤ y0 ∧ y0 ≤ 4194304) ∧ (-4194304 ≤ y1 ∧ y1 ≤ 4194304) ∧ x0 < x1 ∧ y0 < y1
instance (x0 y0 x1 y1 : Int) : Decidable (rightP x0 y0 x1 y1) := inferInstanceAs (Decidable (_ ∧ _))
def rightB (x0 y0 x1 y1 : Int) : Bool := decide (rightP x0 y0 x1 y1)
def areaR (x0 y0 x1 y1 : Int) : Int := if rightB x0 y0 x1 y1 then (x1 - x0) * (y1 - y0) else 0
def hasB (x0 y0 x1 y1 x y : Int) : Bool := ((((rightB x0 y0 x1 y1 && decide (x0 ≤ x)) && decide (x < x1)) && decide (y0 ≤ y)) && decide (y < y1))

def cRight (sg : Sig) : Contract := CFn sg (fun | [.i a, .i b, .i c, .i d] => True | _ => False) (fun | [.i a, .i b, .i c, .i d] => [.b (rightB a b c d)] | _ => [])
def cArea (sg : Sig) : Contract := CFn sg (fun | [.i a, .i b, .i c, .i d] => True | _ => False) (fun | [.i a, .i b, .i c, .i d] => [.i (areaR a b c d)] | _ => [])
def cHas (sg : Sig) : Contract := CFn sg (fun | [.i a, .i b, .i c, .i d, .i x, .i y] => True | _ => False) (fun | [.i a, .i b, .i c, .i d, .i x, .i y] => [.b (hasB a b c d x y)] | _ => [])

theorem ok19 : ContractOk Try.prog 19 (cRight sg19) := by
  refine contract_of (Γ := knownOf []) known_nil Try.func19 rfl rfl is19 fun ds hk hp => ?_
  split at hp
  · simp only [tree19, Tree.holds, Env.sets, Env.set, BE.den, IE.den, DE.den, DV.int, List.map_cons, List.map_nil, Nat.reduceEqDiff, ↓reduceIte, reduceCtorEq, List.cons.injEq, DV.b.injEq, and_true, rightB, Bool.or_eq_true, Bool.or_eq_false_iff, decide_eq_true_eq, decide_eq_false_iff_not]
    have fls : ∀ p : Prop, [Decidable p] → ¬ p → false = decide p := fun p _ h => by simp [h]
    refine ⟨fun g => fls _ ?_, fun g0 => ⟨fun g => fls _ ?_, fun g1 => ⟨fun g => fls _ ?_, fun g2 => ⟨fun g => fls _ ?_, fun g3 => ?_⟩⟩⟩⟩
    all_goals first
      | (unfold rightP; omega)
      | (rw [← Bool.decide_and, decide_eq_decide]; unfold rightP; omega)
  · cases hp
theorem ok20 : ContractOk Try.prog 20 (cRight sg20) := by
  refine contract_of (Γ := knownOf []) known_nil Try.func20 rfl rfl is20 fun ds hk hp => ?_
  split at hp
  · simp only [tree20, Tree.holds, Env.sets, Env.set, BE.den, IE.den, DE.den, DV.int, List.map_cons, List.map_nil, Nat.reduceEqDiff, ↓reduceIte, reduceCtorEq, List.cons.injEq, DV.b.injEq, and_true, rightB, Bool.or_eq_true, Bool.or_eq_false_iff, decide_eq_true_eq, decide_eq_false_iff_not]
    have fls : ∀ p : Prop, [Decidable p] → ¬ p → false = decide p := fun p _ h => by simp [h]
    refine ⟨fun g => fls _ ?_, fun g0 => ⟨fun g => fls _ ?_, fun g1 => ⟨fun g => fls _ ?_, fun g2 => ⟨fun g => fls _ ?_, fun g3 => ?_⟩⟩⟩⟩
    all_goals first
      | (unfold rightP; omega)
      | (rw [← Bool.decide_and, decide_eq_decide]; unfold rightP; omega)
  · cases hp

theorem mul_bd {a b A B : Int} (h1 : 0 ≤ a) (h2 : a ≤ A) (h3 : -B ≤ b) (h4 : b ≤ B) : -(A * B) ≤ a * b ∧ a * b ≤ A * B := by
  have hB : 0 ≤ B := by omega
  have hA : 0 ≤ A := by omega
  constructor
  · have e1 : a * -B ≤ a * b := Int.mul_le_mul_of_nonneg_left h3 h1
    have e2 : a * B ≤ A * B := Int.mul_le_mul_of_nonneg_right h2 hB
    rw [Int.mul_neg] at e1
    omega
  · have e1 : a * b ≤ a * B := Int.mul_le_mul_of_nonneg_left h4 h1
    have e2 : a * B ≤ A * B := Int.mul_le_mul_of_nonneg_right h2 hB
    omega
theorem ok16 : ContractOk Try.prog 16 (cArea sg16) := by
  refine contract_of (Γ := knownOf [(19, cRight sg19)]) (known_cons ok19 rfl known_nil) Try.func16 rfl rfl is16 fun ds hk hp => ?_
  split at hp
  · rename_i a b c d
    refine h_call (c := cRight sg19) rfl trivial fun rs hk hr => ?_
    have hr : rs = [.b (rightB a b c d)] := hr
    subst hr
    refine h_ite (fun hc => ?_) (fun hc => ?_)
    · simp only [Env.sets, Env.set, BE.den, DV.bool, Nat.reduceEqDiff, ↓reduceIte, reduceCtorEq, Bool.not_eq_true'] at hc
      simp [Tree.holds, DE.den, IE.den, areaR, hc]
    · simp only [Env.sets, Env.set, BE.den, DV.bool, Nat.reduceEqDiff, ↓reduceIte, reduceCtorEq, Bool.not_eq_false'] at hc
      have hR : rightP a b c d := of_decide_eq_true hc
      unfold rightP at hR
      have hm := mul_bd (a := c - a) (b := d - b) (A := 8388608) (B := 8388608) (by omega) (by omega) (by omega) (by omega)
      iterate 3 refine h_need (by simp only [Env.sets, Env.set, BE.den, IE.den, DV.int, DV.bool, Nat.reduceEqDiff, ↓reduceIte, reduceCtorEq, Bool.and_eq_true, decide_eq_true_eq]; omega) ?_
      simp [Tree.holds, DE.den, IE.den, Env.sets, Env.set, DV.int, areaR, hc]
  · cases hp
theorem ok21 : ContractOk Try.prog 21 (cArea sg21) := by
  refine contract_of (Γ := knownOf [(20, cRight sg20)]) (known_cons ok20 rfl known_nil) Try.func21 rfl rfl is21 fun ds hk hp => ?_
  split at hp
  · rename_i a b c d
    refine h_call (c := cRight sg20) rfl trivial fun rs hk hr => ?_
    have hr : rs = [.b (rightB a b c d)] := hr
    subst hr
    refine h_ite (fun hc => ?_) (fun hc => ?_)
    · simp only [Env.sets, Env.set, BE.den, DV.bool, Nat.reduceEqDiff, ↓reduceIte, reduceCtorEq, Bool.not_eq_true'] at hc
      simp [Tree.holds, DE.den, IE.den, areaR, hc]
    · simp only [Env.sets, Env.set, BE.den, DV.bool, Nat.reduceEqDiff, ↓reduceIte, reduceCtorEq, Bool.not_eq_false'] at hc
      have hR : rightP a b c d := of_decide_eq_true hc
      unfold rightP at hR
      have hm := mul_bd (a := c - a) (b := d - b) (A := 8388608) (B := 8388608) (by omega) (by omega) (by omega) (by omega)
      iterate 3 refine h_need (by simp only [Env.sets, Env.set, BE.den, IE.den, DV.int, DV.bool, Nat.reduceEqDiff, ↓reduceIte, reduceCtorEq, Bool.and_eq_true, decide_eq_true_eq]; omega) ?_
      simp [Tree.holds, DE.den, IE.den, Env.sets, Env.set, DV.int, areaR, hc]
  · cases hp
theorem ok15 : ContractOk Try.prog 15 (cHas sg15) := by
  refine contract_of (Γ := knownOf [(19, cRight sg19)]) (known_cons ok19 rfl known_nil) Try.func15 rfl rfl is15 fun ds hk hp => ?_
  split at hp
  · rename_i a b c d x y
    refine h_call (c := cRight sg19) rfl trivial fun rs hk hr => ?_
    have hr : rs = [.b (rightB a b c d)] := hr
    subst hr
    simp [Tree.holds, DE.den, BE.den, IE.den, Env.sets, Env.set, DV.int, DV.bool, hasB]
  · cases hp
theorem ok22 : ContractOk Try.prog 22 (cHas sg22) := by
  refine contract_of (Γ := knownOf [(20, cRight sg20)]) (known_cons ok20 rfl known_nil) Try.func22 rfl rfl is22 fun ds hk hp => ?_
  split at hp
  · rename_i a b c d x y
    refine h_call (c := cRight sg20) rfl trivial fun rs hk hr => ?_
    have hr : rs = [.b (rightB a b c d)] := hr
    subst hr
    simp [Tree.holds, DE.den, BE.den, IE.den, Env.sets, Env.set, DV.int, DV.bool, hasB]
  · cases hp

end Go.Proofs.Ytdbahmcjdojiaaa.Fns

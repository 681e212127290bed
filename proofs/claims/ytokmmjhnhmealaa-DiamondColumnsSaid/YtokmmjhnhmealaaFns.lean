/- Layer 13: what each function does. -/
import Derived.Test.YtokmmjhnhmealaaPlain
import Derived.Test.YtokmmjhnhmealaaTrees
set_option linter.unusedVariables false
set_option linter.unusedSimpArgs false
set_option maxRecDepth 10000
namespace Go.Proofs.Ytokmmjhnhmealaa.Fns
open Go.Sx Go.Proofs.Ytokmmjhnhmealaa.Trees Go.Proofs.Ytokmmjhnhmealaa.Plain

def mayP (x y : Int) : Prop := -536870912 ≤ x ∧ x ≤ 536870912 ∧ -536870912 ≤ y ∧ y ≤ 536870912
instance (x y : Int) : Decidable (mayP x y) := inferInstanceAs (Decidable (_ ∧ _))
def nearP (x y : Int) : Prop := -4194304 ≤ x ∧ x ≤ 4194304 ∧ -4194304 ≤ y ∧ y ≤ 4194304
instance (x y : Int) : Decidable (nearP x y) := inferInstanceAs (Decidable (_ ∧ _))
def bigP (x : Int) : Prop := -4611686018427387904 ≤ x ∧ x ≤ 4611686018427387904
def c8 : Contract := CFn sg8 (fun | [.i x, .i y] => True | _ => False) (fun | [.i x, .i y] => [.b (decide (mayP x y))] | _ => [])
def c13 : Contract := CFn sg13 (fun | [.i x, .i y] => True | _ => False) (fun | [.i x, .i y] => [.b (decide (nearP x y))] | _ => [])
def c20 : Contract := CFn sg20 (fun | [.i n, .i d] => 0 < d ∧ bigP n | _ => False) (fun | [.i n, .i d] => [.i (n / d)] | _ => [])
def c21 : Contract := CFn sg21 (fun | [.i a, .i b, .i c] => True | _ => False) (fun | [.i a, .i b, .i c] => [.i (sign3 a b c)] | _ => [])
def c22 : Contract := CFn sg22 (fun | [.i a] => bigP a | _ => False) (fun | [.i a] => [.i (max a (0 - a))] | _ => [])
def c10 : Contract := CFn sg10 (fun | [.i x, .i y] => bigP x ∧ bigP y | _ => False) (fun | [.i x, .i y] => [.i (inT x y).1, .i (inT x y).2.1, .b (inT x y).2.2] | _ => [])
def c11 : Contract := CFn sg11 (fun | [.i x, .i y] => mayP x y | _ => False) (fun | [.i x, .i y] => [.i (inT x y).1, .i (inT x y).2.1, .b (inT x y).2.2] | _ => [])
def c18 : Contract := CFn sg18 (fun | [.i px, .i py, .i x, .i y] => mayP px py | _ => False) (fun | [.i px, .i py, .i x, .i y] => [.b (decide (inP px py x y))] | _ => [])
def c17 : Contract := CFn sg17 (fun | [.i px, .i py, .i x, .i y] => mayP px py ∧ nearP x y | _ => False) (fun | [.i px, .i py, .i x, .i y] => [.b (decide (inP px py x y))] | _ => [])
def c19 : Contract := CFn sg19 (fun | [.i ax, .i ay, .i bx, .i b', .i x] => mayP ax ay ∧ mayP bx b' ∧ nearP x 0 ∧ ax ≠ bx | _ => False) (fun | [.i ax, .i ay, .i bx, .i b', .i x] => [.i (crossI ax ay bx b' x)] | _ => [])
def cMeets (sg : Sig) : Contract := CFn sg (fun | [.i ax, .i ay, .i bx, .i b', .i x, .i y] => mayP ax ay ∧ mayP bx b' ∧ nearP x y | _ => False) (fun | [.i ax, .i ay, .i bx, .i b', .i x, .i y] => [.b (decide (meetsP ax ay bx b' x y))] | _ => [])
def cExits (sg : Sig) : Contract := CFn sg (fun | [.i ax, .i ay, .i bx, .i b', .i x, .i y] => mayP ax ay ∧ mayP bx b' ∧ nearP x y | _ => False) (fun | [.i ax, .i ay, .i bx, .i b', .i x, .i y] => [.b (decide (meetsP ax ay bx b' x y) && !decide (inP bx b' x y))] | _ => [])

theorem retB {X : Bool} {P : Prop} [Decidable P] (h : X = true ↔ P) : [DV.b X] = [DV.b (decide P)] := by
  by_cases hp : P
  · simp [hp, h.2 hp]
  · simp [hp, Bool.eq_false_iff.2 (fun hx => hp (h.1 hx))]
theorem eqb {p q : Prop} [Decidable p] [Decidable q] (h : p ↔ q) : decide p = decide q := by simp [h]

theorem ok8 : ContractOk Try.prog 8 c8 := by
  refine contract_of (Γ := knownOf []) known_nil Try.func8 rfl rfl is8 fun ds hk hp => ?_
  split at hp
  · skip
    rename_i x y
    refine retB (P := mayP x y) ?_
    simp only [Env.sets, Env.set, BE.den, IE.den, DE.den, DV.int, DV.bool, DV.list, LOp.den, List.map_cons, List.map_nil, Nat.reduceEqDiff, ↓reduceIte, reduceCtorEq, Bool.and_eq_true, Bool.or_eq_true, Bool.not_eq_true', Bool.not_eq_false', Bool.and_eq_false_iff, Bool.or_eq_false_iff, decide_eq_true_eq, decide_eq_false_iff_not]
    unfold mayP
    omega
  · cases hp
theorem ok13 : ContractOk Try.prog 13 c13 := by
  refine contract_of (Γ := knownOf []) known_nil Try.func13 rfl rfl is13 fun ds hk hp => ?_
  split at hp
  · skip
    rename_i x y
    refine retB (P := nearP x y) ?_
    simp only [Env.sets, Env.set, BE.den, IE.den, DE.den, DV.int, DV.bool, DV.list, LOp.den, List.map_cons, List.map_nil, Nat.reduceEqDiff, ↓reduceIte, reduceCtorEq, Bool.and_eq_true, Bool.or_eq_true, Bool.not_eq_true', Bool.not_eq_false', Bool.and_eq_false_iff, Bool.or_eq_false_iff, decide_eq_true_eq, decide_eq_false_iff_not]
    unfold nearP
    omega
  · cases hp
theorem ok20 : ContractOk Try.prog 20 c20 := by
  refine contract_of (Γ := knownOf []) known_nil Try.func20 rfl rfl is20 fun ds hk hp => ?_
  split at hp
  · skip
    rename_i n d
    obtain ⟨hd, h1, h2⟩ := hp
    have hf := floor_spec (n := n) hd
    have hb := tdiv_le hd h1 h2
    refine h_need (by simp only [Env.sets, Env.set, BE.den, IE.den, DE.den, DV.int, DV.bool, DV.list, LOp.den, List.map_cons, List.map_nil, Nat.reduceEqDiff, ↓reduceIte, reduceCtorEq, Bool.and_eq_true, Bool.or_eq_true, Bool.not_eq_true', Bool.not_eq_false', Bool.and_eq_false_iff, Bool.or_eq_false_iff, decide_eq_true_eq, decide_eq_false_iff_not]; omega) ?_
    refine h_ite (fun hc => ?_) (fun hc => ?_)
    · simp only [Env.sets, Env.set, BE.den, IE.den, DE.den, DV.int, DV.bool, DV.list, LOp.den, List.map_cons, List.map_nil, Nat.reduceEqDiff, ↓reduceIte, reduceCtorEq, Bool.and_eq_true, Bool.or_eq_true, Bool.not_eq_true', Bool.not_eq_false', Bool.and_eq_false_iff, Bool.or_eq_false_iff, decide_eq_true_eq, decide_eq_false_iff_not] at hc
      have := hf.1 hc
      refine h_need (by simp only [Env.sets, Env.set, BE.den, IE.den, DE.den, DV.int, DV.bool, DV.list, LOp.den, List.map_cons, List.map_nil, Nat.reduceEqDiff, ↓reduceIte, reduceCtorEq, Bool.and_eq_true, Bool.or_eq_true, Bool.not_eq_true', Bool.not_eq_false', Bool.and_eq_false_iff, Bool.or_eq_false_iff, decide_eq_true_eq, decide_eq_false_iff_not]; omega) ?_
      refine h_need (by simp only [Env.sets, Env.set, BE.den, IE.den, DE.den, DV.int, DV.bool, DV.list, LOp.den, List.map_cons, List.map_nil, Nat.reduceEqDiff, ↓reduceIte, reduceCtorEq, Bool.and_eq_true, Bool.or_eq_true, Bool.not_eq_true', Bool.not_eq_false', Bool.and_eq_false_iff, Bool.or_eq_false_iff, decide_eq_true_eq, decide_eq_false_iff_not]; omega) ?_
      show [DV.i _] = [DV.i (n / d)]
      simp only [Env.sets, Env.set, BE.den, IE.den, DE.den, DV.int, DV.bool, DV.list, LOp.den, List.map_cons, List.map_nil, Nat.reduceEqDiff, ↓reduceIte, reduceCtorEq, Bool.and_eq_true, Bool.or_eq_true, Bool.not_eq_true', Bool.not_eq_false', Bool.and_eq_false_iff, Bool.or_eq_false_iff, decide_eq_true_eq, decide_eq_false_iff_not, List.cons.injEq, DV.i.injEq, and_true]
      omega
    · simp only [Env.sets, Env.set, BE.den, IE.den, DE.den, DV.int, DV.bool, DV.list, LOp.den, List.map_cons, List.map_nil, Nat.reduceEqDiff, ↓reduceIte, reduceCtorEq, Bool.and_eq_true, Bool.or_eq_true, Bool.not_eq_true', Bool.not_eq_false', Bool.and_eq_false_iff, Bool.or_eq_false_iff, decide_eq_true_eq, decide_eq_false_iff_not] at hc
      have := hf.2 (by omega)
      refine h_need (by simp only [Env.sets, Env.set, BE.den, IE.den, DE.den, DV.int, DV.bool, DV.list, LOp.den, List.map_cons, List.map_nil, Nat.reduceEqDiff, ↓reduceIte, reduceCtorEq, Bool.and_eq_true, Bool.or_eq_true, Bool.not_eq_true', Bool.not_eq_false', Bool.and_eq_false_iff, Bool.or_eq_false_iff, decide_eq_true_eq, decide_eq_false_iff_not]; omega) ?_
      show [DV.i _] = [DV.i (n / d)]
      simp only [Env.sets, Env.set, BE.den, IE.den, DE.den, DV.int, DV.bool, DV.list, LOp.den, List.map_cons, List.map_nil, Nat.reduceEqDiff, ↓reduceIte, reduceCtorEq, Bool.and_eq_true, Bool.or_eq_true, Bool.not_eq_true', Bool.not_eq_false', Bool.and_eq_false_iff, Bool.or_eq_false_iff, decide_eq_true_eq, decide_eq_false_iff_not, List.cons.injEq, DV.i.injEq, and_true]
      omega
  · cases hp
theorem ok22 : ContractOk Try.prog 22 c22 := by
  refine contract_of (Γ := knownOf []) known_nil Try.func22 rfl rfl is22 fun ds hk hp => ?_
  split at hp
  · skip
    rename_i a
    unfold bigP at hp
    refine h_need (by simp only [Env.sets, Env.set, BE.den, IE.den, DE.den, DV.int, DV.bool, DV.list, LOp.den, List.map_cons, List.map_nil, Nat.reduceEqDiff, ↓reduceIte, reduceCtorEq, Bool.and_eq_true, Bool.or_eq_true, Bool.not_eq_true', Bool.not_eq_false', Bool.and_eq_false_iff, Bool.or_eq_false_iff, decide_eq_true_eq, decide_eq_false_iff_not]; omega) ?_
    rfl
  · cases hp
theorem ok21 : ContractOk Try.prog 21 c21 := by
  refine contract_of (Γ := knownOf []) known_nil Try.func21 rfl rfl is21 fun ds hk hp => ?_
  split at hp
  · skip
    rename_i a b c
    show Tree.holds _ _ _ _ _
    have hF : ∀ z, z = sign3 a b c → [DV.i z] = [DV.i (sign3 a b c)] := fun z h => by rw [h]
    refine h_ite (fun g0 => ?_) (fun g0 => h_ite (fun g1 => ?_) (fun g1 => h_ite (fun g2 => ?_) (fun g2 => h_ite (fun g3 => ?_) (fun g3 => h_ite (fun g4 => ?_) (fun g4 => h_ite (fun g5 => ?_) (fun g5 => ?_))))))
    all_goals
      simp only [Env.sets, Env.set, BE.den, IE.den, DE.den, DV.int, DV.bool, DV.list, LOp.den, List.map_cons, List.map_nil, Nat.reduceEqDiff, ↓reduceIte, reduceCtorEq, Bool.and_eq_true, Bool.or_eq_true, Bool.not_eq_true', Bool.not_eq_false', Bool.and_eq_false_iff, Bool.or_eq_false_iff, decide_eq_true_eq, decide_eq_false_iff_not] at *
      refine hF _ ?_
      simp only [Env.sets, Env.set, BE.den, IE.den, DE.den, DV.int, DV.bool, DV.list, LOp.den, List.map_cons, List.map_nil, Nat.reduceEqDiff, ↓reduceIte, reduceCtorEq, Bool.and_eq_true, Bool.or_eq_true, Bool.not_eq_true', Bool.not_eq_false', Bool.and_eq_false_iff, Bool.or_eq_false_iff, decide_eq_true_eq, decide_eq_false_iff_not]
      unfold sign3
      grind
  · cases hp
theorem ok10 : ContractOk Try.prog 10 c10 := by
  refine contract_of (Γ := knownOf []) known_nil Try.func10 rfl rfl is10 fun ds hk hp => ?_
  split at hp
  · skip
    rename_i x y
    unfold bigP at hp
    have hF : ∀ t : Int × Int × Bool, inT x y = t → [DV.i t.1, .i t.2.1, .b t.2.2] = [DV.i (inT x y).1, .i (inT x y).2.1, .b (inT x y).2.2] := fun t h => by rw [h]
    refine h_need (by simp only [Env.sets, Env.set, BE.den, IE.den, DE.den, DV.int, DV.bool, DV.list, LOp.den, List.map_cons, List.map_nil, Nat.reduceEqDiff, ↓reduceIte, reduceCtorEq, Bool.and_eq_true, Bool.or_eq_true, Bool.not_eq_true', Bool.not_eq_false', Bool.and_eq_false_iff, Bool.or_eq_false_iff, decide_eq_true_eq, decide_eq_false_iff_not]; omega) ?_
    refine h_need (by simp only [Env.sets, Env.set, BE.den, IE.den, DE.den, DV.int, DV.bool, DV.list, LOp.den, List.map_cons, List.map_nil, Nat.reduceEqDiff, ↓reduceIte, reduceCtorEq, Bool.and_eq_true, Bool.or_eq_true, Bool.not_eq_true', Bool.not_eq_false', Bool.and_eq_false_iff, Bool.or_eq_false_iff, decide_eq_true_eq, decide_eq_false_iff_not]; omega) ?_
    refine h_ite (fun g0 => ?_) (fun g0 => ?_)
    · simp only [Env.sets, Env.set, BE.den, IE.den, DE.den, DV.int, DV.bool, DV.list, LOp.den, List.map_cons, List.map_nil, Nat.reduceEqDiff, ↓reduceIte, reduceCtorEq, Bool.and_eq_true, Bool.or_eq_true, Bool.not_eq_true', Bool.not_eq_false', Bool.and_eq_false_iff, Bool.or_eq_false_iff, decide_eq_true_eq, decide_eq_false_iff_not] at g0
      refine h_need (by simp only [Env.sets, Env.set, BE.den, IE.den, DE.den, DV.int, DV.bool, DV.list, LOp.den, List.map_cons, List.map_nil, Nat.reduceEqDiff, ↓reduceIte, reduceCtorEq, Bool.and_eq_true, Bool.or_eq_true, Bool.not_eq_true', Bool.not_eq_false', Bool.and_eq_false_iff, Bool.or_eq_false_iff, decide_eq_true_eq, decide_eq_false_iff_not]; omega) ?_
      exact hF (x / 256 - 1, y / 256, true) (by unfold inT; rw [if_pos (by omega)])
    · simp only [Env.sets, Env.set, BE.den, IE.den, DE.den, DV.int, DV.bool, DV.list, LOp.den, List.map_cons, List.map_nil, Nat.reduceEqDiff, ↓reduceIte, reduceCtorEq, Bool.and_eq_true, Bool.or_eq_true, Bool.not_eq_true', Bool.not_eq_false', Bool.and_eq_false_iff, Bool.or_eq_false_iff, decide_eq_true_eq, decide_eq_false_iff_not] at g0
      refine h_need (by simp only [Env.sets, Env.set, BE.den, IE.den, DE.den, DV.int, DV.bool, DV.list, LOp.den, List.map_cons, List.map_nil, Nat.reduceEqDiff, ↓reduceIte, reduceCtorEq, Bool.and_eq_true, Bool.or_eq_true, Bool.not_eq_true', Bool.not_eq_false', Bool.and_eq_false_iff, Bool.or_eq_false_iff, decide_eq_true_eq, decide_eq_false_iff_not]; omega) ?_
      refine h_need (by simp only [Env.sets, Env.set, BE.den, IE.den, DE.den, DV.int, DV.bool, DV.list, LOp.den, List.map_cons, List.map_nil, Nat.reduceEqDiff, ↓reduceIte, reduceCtorEq, Bool.and_eq_true, Bool.or_eq_true, Bool.not_eq_true', Bool.not_eq_false', Bool.and_eq_false_iff, Bool.or_eq_false_iff, decide_eq_true_eq, decide_eq_false_iff_not]; omega) ?_
      refine h_need (by simp only [Env.sets, Env.set, BE.den, IE.den, DE.den, DV.int, DV.bool, DV.list, LOp.den, List.map_cons, List.map_nil, Nat.reduceEqDiff, ↓reduceIte, reduceCtorEq, Bool.and_eq_true, Bool.or_eq_true, Bool.not_eq_true', Bool.not_eq_false', Bool.and_eq_false_iff, Bool.or_eq_false_iff, decide_eq_true_eq, decide_eq_false_iff_not]; omega) ?_
      refine h_ite (fun g1 => ?_) (fun g1 => ?_)
      · simp only [Env.sets, Env.set, BE.den, IE.den, DE.den, DV.int, DV.bool, DV.list, LOp.den, List.map_cons, List.map_nil, Nat.reduceEqDiff, ↓reduceIte, reduceCtorEq, Bool.and_eq_true, Bool.or_eq_true, Bool.not_eq_true', Bool.not_eq_false', Bool.and_eq_false_iff, Bool.or_eq_false_iff, decide_eq_true_eq, decide_eq_false_iff_not] at g1
        exact hF (x / 256, y / 256, true) (by unfold inT; rw [if_neg (by omega), if_pos (by omega)])
      · simp only [Env.sets, Env.set, BE.den, IE.den, DE.den, DV.int, DV.bool, DV.list, LOp.den, List.map_cons, List.map_nil, Nat.reduceEqDiff, ↓reduceIte, reduceCtorEq, Bool.and_eq_true, Bool.or_eq_true, Bool.not_eq_true', Bool.not_eq_false', Bool.and_eq_false_iff, Bool.or_eq_false_iff, decide_eq_true_eq, decide_eq_false_iff_not] at g1
        exact hF (0, 0, false) (by unfold inT; rw [if_neg (by omega), if_neg (by omega)])
  · cases hp
theorem ok18 : ContractOk Try.prog 18 c18 := by
  refine contract_of (Γ := knownOf [(10, c10)]) (known_cons ok10 rfl known_nil) Try.func18 rfl rfl is18 fun ds hk hp => ?_
  split at hp
  · skip
    rename_i px py x y
    unfold mayP at hp
    refine h_call (c := c10) rfl (show bigP px ∧ bigP py by unfold bigP; omega) fun rs hk hr => ?_
    have hr : rs = [.i (inT px py).1, .i (inT px py).2.1, .b (inT px py).2.2] := hr
    subst hr
    have := inT_iff (px := px) (py := py) (x := x) (y := y)
    refine retB (X := (((inT px py).2.2 && decide ((inT px py).1 = x)) && decide ((inT px py).2.1 = y))) (P := inP px py x y) ?_
    unfold inP
    rw [← this]
    simp only [Env.sets, Env.set, BE.den, IE.den, DE.den, DV.int, DV.bool, DV.list, LOp.den, List.map_cons, List.map_nil, Nat.reduceEqDiff, ↓reduceIte, reduceCtorEq, Bool.and_eq_true, Bool.or_eq_true, Bool.not_eq_true', Bool.not_eq_false', Bool.and_eq_false_iff, Bool.or_eq_false_iff, decide_eq_true_eq, decide_eq_false_iff_not, and_assoc]
  · cases hp
end Go.Proofs.Ytokmmjhnhmealaa.Fns

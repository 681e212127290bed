/- Layer 12: make, same, the example. -/
import Derived.Test.YtdbahmcjdojiaaaFns3
set_option linter.unusedVariables false
set_option linter.unusedSimpArgs false
set_option maxRecDepth 10000
namespace Go.Proofs.Ytdbahmcjdojiaaa.Fns
open Go.Sx Go.Proofs.Ytdbahmcjdojiaaa.Trees

def smallB (x y w h : Int) : Bool := decide ((-8388608 ≤ x ∧ x ≤ 8388608) ∧ (-8388608 ≤ y ∧ y ≤ 8388608) ∧ (-8388608 ≤ w ∧ w ≤ 8388608) ∧ (-8388608 ≤ h ∧ h ≤ 8388608))
def makeL (x y w h : Int) : List DV := if smallB x y w h && rightB x y (x + w) (y + h) then [.i x, .i y, .i (x + w), .i (y + h), .b true] else [.i 0, .i 0, .i 0, .i 0, .b false]
def cMake (sg : Sig) : Contract := CFn sg (fun | [.i a, .i b, .i c, .i d] => True | _ => False) (fun | [.i a, .i b, .i c, .i d] => makeL a b c d | _ => [])
theorem make_bad {x y w h : Int} (hs : ¬ ((-8388608 ≤ x ∧ x ≤ 8388608) ∧ (-8388608 ≤ y ∧ y ≤ 8388608) ∧ (-8388608 ≤ w ∧ w ≤ 8388608) ∧ (-8388608 ≤ h ∧ h ≤ 8388608))) : makeL x y w h = [.i 0, .i 0, .i 0, .i 0, .b false] := by
  unfold makeL smallB
  simp [hs]
def same4 (a b : List (List Int)) : Bool := decide (a.length = b.length) && (List.range a.length).all fun (j : Nat) => decide (cellAt a (j : Int) 0 = cellAt b (j : Int) 0) && (decide (cellAt a (j : Int) 1 = cellAt b (j : Int) 1) && (decide (cellAt a (j : Int) 2 = cellAt b (j : Int) 2) && decide (cellAt a (j : Int) 3 = cellAt b (j : Int) 3)))
theorem same_self (a : List (List Int)) : same4 a a = true := by simp [same4]
def c10 : Contract := CFn sg10 (fun | [.l a, .l b] => a.length ≤ 1000000000 | _ => False) (fun | [.l a, .l b] => [.b (same4 a b)] | _ => [])

theorem ok10 : ContractOk Try.prog 10 c10 := by
  refine contract_of (Γ := knownOf []) known_nil Try.func10 rfl rfl is10 fun ds hk hp => ?_
  split at hp
  · rename_i a b
    refine h_ite (fun hc => ?_) (fun hc => ?_)
    · simp only [Env.sets, Env.set, BE.den, IE.den, DV.int, DV.list, Nat.reduceEqDiff, ↓reduceIte, reduceCtorEq, Bool.not_eq_true', decide_eq_false_iff_not] at hc
      have : a.length ≠ b.length := fun e => hc (by rw [e])
      simp [Tree.holds, DE.den, BE.den, same4, this]
    · simp only [Env.sets, Env.set, BE.den, IE.den, DV.int, DV.list, Nat.reduceEqDiff, ↓reduceIte, reduceCtorEq, Bool.not_eq_false', decide_eq_true_eq] at hc
      have hl : a.length = b.length := by omega
      refine h_loop (fun ds => ∃ (x : Bool) (i : Nat), ds = [.b x, .i i] ∧ i ≤ a.length ∧ ∀ j : Nat, j < i → cellAt a j 0 = cellAt b j 0 ∧ cellAt a j 1 = cellAt b j 1 ∧ cellAt a j 2 = cellAt b j 2 ∧ cellAt a j 3 = cellAt b j 3) (fun | [_, .i i] => ((a.length : Int) - i).toNat | _ => 0) ⟨false, 0, by simp [DE.den, BE.den, IE.den], by omega, fun j h => by omega⟩ ?_
      intro ds _ ⟨x, i, hds, hi, hall⟩
      subst hds
      refine h_ite (fun hc => ?_) (fun hc => ?_)
      · simp only [Env.sets, Env.set, BE.den, IE.den, DV.int, DV.list, Nat.reduceEqDiff, ↓reduceIte, reduceCtorEq, decide_eq_true_eq] at hc
        refine h_need (by simp [Env.sets, Env.set, BE.den, IE.den, DV.int]) (h_need (by simp [Env.sets, Env.set, BE.den, IE.den, DV.int, DV.list]; omega) (h_ite (fun hd => ?_) (fun hd => ?_)))
        · simp only [Env.sets, Env.set, BE.den, IE.den, DV.int, DV.list, Nat.reduceEqDiff, ↓reduceIte, reduceCtorEq, Bool.not_eq_true', Bool.and_eq_false_iff, decide_eq_false_iff_not] at hd
          simp only [Tree.holds, List.map_cons, List.map_nil, DE.den, BE.den, List.cons.injEq, DV.b.injEq, and_true]
          symm
          simp only [same4, Bool.and_eq_false_iff, List.all_eq_false, List.mem_range]
          refine .inr ⟨i, by omega, ?_⟩
          simp only [Bool.and_eq_true, decide_eq_true_eq]
          omega
        · simp only [Env.sets, Env.set, BE.den, IE.den, DV.int, DV.list, Nat.reduceEqDiff, ↓reduceIte, reduceCtorEq, Bool.not_eq_false', Bool.and_eq_true, decide_eq_true_eq] at hd
          refine h_need (by simp [Env.sets, Env.set, BE.den, IE.den, DV.int]; omega) (h_again ⟨⟨x, i + 1, ?_, by omega, fun j hj => ?_⟩, ?_⟩)
          · simp [Env.sets, Env.set, BE.den, IE.den, DE.den, DV.int, DV.bool]
          · rcases Nat.lt_or_ge j i with h | h
            · exact hall j h
            · have : j = i := by omega
              subst this; exact hd
          · simp only [Env.sets, Env.set, BE.den, IE.den, DE.den, DV.int, List.map_cons, List.map_nil, Nat.reduceEqDiff, ↓reduceIte, reduceCtorEq]
            omega
      · simp only [Env.sets, Env.set, BE.den, IE.den, DV.int, DV.list, Nat.reduceEqDiff, ↓reduceIte, reduceCtorEq, decide_eq_false_iff_not] at hc
        have : i = a.length := by omega
        subst this
        simp only [Tree.holds, List.map_cons, List.map_nil, DE.den, BE.den, List.cons.injEq, DV.b.injEq, and_true]
        symm
        simp only [same4, Bool.and_eq_true, decide_eq_true_eq, List.all_eq_true, List.mem_range]
        exact ⟨hl, hall⟩
  · cases hp

theorem ok17 : ContractOk Try.prog 17 (cMake sg17) := by
  refine contract_of (Γ := knownOf [(19, cRight sg19)]) (known_cons ok19 rfl known_nil) Try.func17 rfl rfl is17 fun ds hk hp => ?_
  split at hp
  · rename_i x y w h
    refine h_ite (fun g0 => ?_) (fun g0 => h_ite (fun g1 => ?_) (fun g1 => h_ite (fun g2 => ?_) (fun g2 => h_ite (fun g3 => ?_) (fun g3 => ?_))))
    all_goals simp only [Env.sets, Env.set, BE.den, IE.den, DV.int, DV.list, Nat.reduceEqDiff, ↓reduceIte, reduceCtorEq, Bool.or_eq_true, Bool.or_eq_false_iff, decide_eq_true_eq, decide_eq_false_iff_not] at g0
    · exact (make_bad (x := x) (y := y) (w := w) (h := h) (by omega)).symm
    all_goals simp only [Env.sets, Env.set, BE.den, IE.den, DV.int, DV.list, Nat.reduceEqDiff, ↓reduceIte, reduceCtorEq, Bool.or_eq_true, Bool.or_eq_false_iff, decide_eq_true_eq, decide_eq_false_iff_not] at g1
    · exact (make_bad (x := x) (y := y) (w := w) (h := h) (by omega)).symm
    all_goals simp only [Env.sets, Env.set, BE.den, IE.den, DV.int, DV.list, Nat.reduceEqDiff, ↓reduceIte, reduceCtorEq, Bool.or_eq_true, Bool.or_eq_false_iff, decide_eq_true_eq, decide_eq_false_iff_not] at g2
    · exact (make_bad (x := x) (y := y) (w := w) (h := h) (by omega)).symm
    all_goals simp only [Env.sets, Env.set, BE.den, IE.den, DV.int, DV.list, Nat.reduceEqDiff, ↓reduceIte, reduceCtorEq, Bool.or_eq_true, Bool.or_eq_false_iff, decide_eq_true_eq, decide_eq_false_iff_not] at g3
    · exact (make_bad (x := x) (y := y) (w := w) (h := h) (by omega)).symm
    · have hsm : smallB x y w h = true := by unfold smallB; rw [decide_eq_true_eq]; omega
      iterate 2 refine h_need (by simp only [Env.sets, Env.set, BE.den, IE.den, DV.int, DV.bool, Nat.reduceEqDiff, ↓reduceIte, reduceCtorEq, Bool.and_eq_true, decide_eq_true_eq]; omega) ?_
      refine h_call (c := cRight sg19) rfl trivial fun rs hk hr => ?_
      have hr : rs = [.b (rightB x y (x + w) (y + h))] := hr
      subst hr
      refine h_ite (fun hc => ?_) (fun hc => ?_)
      · have hc : (!(rightB x y (x + w) (y + h))) = true := hc
        rw [Bool.not_eq_true'] at hc
        show _ = makeL x y w h
        unfold makeL
        rw [hsm, hc]
        rfl
      · have hc : (!(rightB x y (x + w) (y + h))) = false := hc
        rw [Bool.not_eq_false'] at hc
        show _ = makeL x y w h
        unfold makeL
        rw [hsm, hc]
        rfl
  · cases hp

theorem ok18 : ContractOk Try.prog 18 (cMake sg18) := by
  refine contract_of (Γ := knownOf [(20, cRight sg20)]) (known_cons ok20 rfl known_nil) Try.func18 rfl rfl is18 fun ds hk hp => ?_
  split at hp
  · rename_i x y w h
    refine h_ite (fun g0 => ?_) (fun g0 => h_ite (fun g1 => ?_) (fun g1 => h_ite (fun g2 => ?_) (fun g2 => h_ite (fun g3 => ?_) (fun g3 => ?_))))
    all_goals simp only [Env.sets, Env.set, BE.den, IE.den, DV.int, DV.list, Nat.reduceEqDiff, ↓reduceIte, reduceCtorEq, Bool.or_eq_true, Bool.or_eq_false_iff, decide_eq_true_eq, decide_eq_false_iff_not] at g0
    · exact (make_bad (x := x) (y := y) (w := w) (h := h) (by omega)).symm
    all_goals simp only [Env.sets, Env.set, BE.den, IE.den, DV.int, DV.list, Nat.reduceEqDiff, ↓reduceIte, reduceCtorEq, Bool.or_eq_true, Bool.or_eq_false_iff, decide_eq_true_eq, decide_eq_false_iff_not] at g1
    · exact (make_bad (x := x) (y := y) (w := w) (h := h) (by omega)).symm
    all_goals simp only [Env.sets, Env.set, BE.den, IE.den, DV.int, DV.list, Nat.reduceEqDiff, ↓reduceIte, reduceCtorEq, Bool.or_eq_true, Bool.or_eq_false_iff, decide_eq_true_eq, decide_eq_false_iff_not] at g2
    · exact (make_bad (x := x) (y := y) (w := w) (h := h) (by omega)).symm
    all_goals simp only [Env.sets, Env.set, BE.den, IE.den, DV.int, DV.list, Nat.reduceEqDiff, ↓reduceIte, reduceCtorEq, Bool.or_eq_true, Bool.or_eq_false_iff, decide_eq_true_eq, decide_eq_false_iff_not] at g3
    · exact (make_bad (x := x) (y := y) (w := w) (h := h) (by omega)).symm
    · have hsm : smallB x y w h = true := by unfold smallB; rw [decide_eq_true_eq]; omega
      iterate 2 refine h_need (by simp only [Env.sets, Env.set, BE.den, IE.den, DV.int, DV.bool, Nat.reduceEqDiff, ↓reduceIte, reduceCtorEq, Bool.and_eq_true, decide_eq_true_eq]; omega) ?_
      refine h_call (c := cRight sg20) rfl trivial fun rs hk hr => ?_
      have hr : rs = [.b (rightB x y (x + w) (y + h))] := hr
      subst hr
      refine h_ite (fun hc => ?_) (fun hc => ?_)
      · have hc : (!(rightB x y (x + w) (y + h))) = true := hc
        rw [Bool.not_eq_true'] at hc
        show _ = makeL x y w h
        unfold makeL
        rw [hsm, hc]
        rfl
      · have hc : (!(rightB x y (x + w) (y + h))) = false := hc
        rw [Bool.not_eq_false'] at hc
        show _ = makeL x y w h
        unfold makeL
        rw [hsm, hc]
        rfl
  · cases hp

end Go.Proofs.Ytdbahmcjdojiaaa.Fns

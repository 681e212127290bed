/- Layer 6: the stacks' functions, second part. -/
import Derived.Test.YtnpmcfjagijkgaaFns2
set_option linter.unusedVariables false
set_option linter.unusedSimpArgs false
set_option maxRecDepth 10000
namespace Go.Proofs.Ytnpmcfjagijkgaa.Fns
open Go.Sx Go.Proofs.Ytnpmcfjagijkgaa.Trees

theorem ok9 : ContractOk Try.prog 9 (cPush sg9) := by
  refine contract_of (Γ := knownOf [(22, cRightS sg22), (14, cTop sg14), (30, cOwn sg30)]) (known_cons ok22 rfl (known_cons ok14 rfl (known_cons ok30 rfl known_nil))) Try.func9 rfl rfl is9 fun ds hk hp => ?_
  split at hp
  · skip
    rename_i m a b
    refine h_call (c := cRightS sg22) rfl trivial fun rs hk hr => ?_
    have hr : rs = [.b (decide (rightS m a b))] := hr
    subst hr
    refine h_ite (fun g => ?_) (fun g => ?_)
    · have g : (!decide (rightS m a b)) = true := g
      rw [Bool.not_eq_true', decide_eq_false_iff_not] at g
      show _ = pushF m a b
      unfold pushF
      rw [if_neg g]
      rfl
    have g : (!decide (rightS m a b)) = false := g
    rw [Bool.not_eq_false', decide_eq_true_eq] at g
    have hR := g
    clear g
    have hl := rightS_len hR
    rcases rightS_mode hR with hm | hm
    · subst hm
      refine h_ite (fun _ => ?_) (fun g => absurd (show decide ((0 : Int) = 0) = false from g) (by decide))
      refine h_ite (fun g => ?_) (fun g => ?_)
      · have g : decide ((a.length : Int) = 8) = true := g
        rw [decide_eq_true_eq] at g
        show _ = pushF 0 a b
        unfold pushF
        rw [if_pos hR, if_pos (show (cur 0 a b).length = 8 by show a.length = 8; omega)]
        rfl
      have g : decide ((a.length : Int) = 8) = false := g
      rw [decide_eq_false_iff_not] at g
      refine h_call (c := cTop sg14) rfl trivial fun rs hk hr => ?_
      have hr : rs = topF 0 a b 0 := hr
      rw [topF_ok hR (by omega) (by omega)] at hr
      have hr : rs = [.i ((cellAt a (((a.length : Int) - 1)) 0)), .i ((cellAt a (((a.length : Int) - 1)) 1)), .i ((cellAt a (((a.length : Int) - 1)) 2)), .i ((cellAt a (((a.length : Int) - 1)) 3)), .i ((cellAt a (((a.length : Int) - 1)) 4)), .i ((cellAt a (((a.length : Int) - 1)) 5)), .i ((cellAt a (((a.length : Int) - 1)) 6)), .i ((cellAt a (((a.length : Int) - 1)) 7)), .i ((cellAt a (((a.length : Int) - 1)) 8)), .i ((cellAt a (((a.length : Int) - 1)) 9)), .i ((cellAt a (((a.length : Int) - 1)) 10)), .i ((cellAt a (((a.length : Int) - 1)) 11)), .i ((cellAt a (((a.length : Int) - 1)) 12)), .i ((cellAt a (((a.length : Int) - 1)) 13)), .i ((cellAt a (((a.length : Int) - 1)) 14)), .i ((cellAt a (((a.length : Int) - 1)) 15)), .i 0] := hr
      subst hr
      refine h_call (c := cOwn sg30) rfl (show a.length ≤ 1000000000 ∧ b.length ≤ 1000000000 by omega) fun rs hk hr => ?_
      have hr : rs = [.i 0, .l a, .l b] := hr
      subst hr
      refine h_ite (fun _ => ?_) (fun g => absurd (show decide ((0 : Int) = 0) = false from g) (by decide))
      refine h_letE (M := [lastOf a]) rfl ?_
      refine h_letE (M := a ++ [lastOf a]) rfl ?_
      refine h_need (by simp only [Env.sets, Env.set, BE.den, IE.den, DE.den, DV.int, DV.bool, DV.list, LOp.den, List.map_cons, List.map_nil, Nat.reduceEqDiff, ↓reduceIte, reduceCtorEq, Bool.and_eq_true, Bool.or_eq_true, Bool.not_eq_true', Bool.not_eq_false', Bool.and_eq_false_iff, Bool.or_eq_false_iff, decide_eq_true_eq, decide_eq_false_iff_not, List.length_singleton]; omega) ?_
      show _ = pushF 0 a b
      unfold pushF
      rw [if_pos hR, if_neg (show ¬ (cur 0 a b).length = 8 by show ¬ a.length = 8; omega)]
      rfl
    · subst hm
      refine h_ite (fun g => absurd (show decide ((1 : Int) = 0) = true from g) (by decide)) (fun _ => ?_)
      refine h_ite (fun _ => ?_) (fun g => absurd (show decide ((1 : Int) = 1) = false from g) (by decide))
      refine h_ite (fun g => ?_) (fun g => ?_)
      · have g : decide ((b.length : Int) = 8) = true := g
        rw [decide_eq_true_eq] at g
        show _ = pushF 1 a b
        unfold pushF
        rw [if_pos hR, if_pos (show (cur 1 a b).length = 8 by show b.length = 8; omega)]
        rfl
      have g : decide ((b.length : Int) = 8) = false := g
      rw [decide_eq_false_iff_not] at g
      refine h_call (c := cTop sg14) rfl trivial fun rs hk hr => ?_
      have hr : rs = topF 1 a b 1 := hr
      rw [topF_ok hR (by omega) (by omega)] at hr
      have hr : rs = [.i ((cellAt b (((b.length : Int) - 1)) 0)), .i ((cellAt b (((b.length : Int) - 1)) 1)), .i ((cellAt b (((b.length : Int) - 1)) 2)), .i ((cellAt b (((b.length : Int) - 1)) 3)), .i ((cellAt b (((b.length : Int) - 1)) 4)), .i ((cellAt b (((b.length : Int) - 1)) 5)), .i ((cellAt b (((b.length : Int) - 1)) 6)), .i ((cellAt b (((b.length : Int) - 1)) 7)), .i ((cellAt b (((b.length : Int) - 1)) 8)), .i ((cellAt b (((b.length : Int) - 1)) 9)), .i ((cellAt b (((b.length : Int) - 1)) 10)), .i ((cellAt b (((b.length : Int) - 1)) 11)), .i ((cellAt b (((b.length : Int) - 1)) 12)), .i ((cellAt b (((b.length : Int) - 1)) 13)), .i ((cellAt b (((b.length : Int) - 1)) 14)), .i ((cellAt b (((b.length : Int) - 1)) 15)), .i 0] := hr
      subst hr
      refine h_call (c := cOwn sg30) rfl (show a.length ≤ 1000000000 ∧ b.length ≤ 1000000000 by omega) fun rs hk hr => ?_
      have hr : rs = [.i 1, .l a, .l b] := hr
      subst hr
      refine h_ite (fun g => absurd (show decide ((1 : Int) = 0) = true from g) (by decide)) (fun _ => ?_)
      refine h_ite (fun _ => ?_) (fun g => absurd (show decide ((1 : Int) = 1) = false from g) (by decide))
      refine h_letE (M := [lastOf b]) rfl ?_
      refine h_letE (M := b ++ [lastOf b]) rfl ?_
      refine h_need (by simp only [Env.sets, Env.set, BE.den, IE.den, DE.den, DV.int, DV.bool, DV.list, LOp.den, List.map_cons, List.map_nil, Nat.reduceEqDiff, ↓reduceIte, reduceCtorEq, Bool.and_eq_true, Bool.or_eq_true, Bool.not_eq_true', Bool.not_eq_false', Bool.and_eq_false_iff, Bool.or_eq_false_iff, decide_eq_true_eq, decide_eq_false_iff_not, List.length_singleton]; omega) ?_
      show _ = pushF 1 a b
      unfold pushF
      rw [if_pos hR, if_neg (show ¬ (cur 1 a b).length = 8 by show ¬ b.length = 8; omega)]
      rfl
  · cases hp
theorem ok20 : ContractOk Try.prog 20 (cPush sg20) := by
  refine contract_of (Γ := knownOf [(23, cRightS sg23), (15, cTop sg15), (33, cOwn sg33)]) (known_cons ok23 rfl (known_cons ok15 rfl (known_cons ok33 rfl known_nil))) Try.func20 rfl rfl is20 fun ds hk hp => ?_
  split at hp
  · skip
    rename_i m a b
    refine h_call (c := cRightS sg23) rfl trivial fun rs hk hr => ?_
    have hr : rs = [.b (decide (rightS m a b))] := hr
    subst hr
    refine h_ite (fun g => ?_) (fun g => ?_)
    · have g : (!decide (rightS m a b)) = true := g
      rw [Bool.not_eq_true', decide_eq_false_iff_not] at g
      show _ = pushF m a b
      unfold pushF
      rw [if_neg g]
      rfl
    have g : (!decide (rightS m a b)) = false := g
    rw [Bool.not_eq_false', decide_eq_true_eq] at g
    have hR := g
    clear g
    have hl := rightS_len hR
    rcases rightS_mode hR with hm | hm
    · subst hm
      refine h_ite (fun _ => ?_) (fun g => absurd (show decide ((0 : Int) = 0) = false from g) (by decide))
      refine h_ite (fun g => ?_) (fun g => ?_)
      · have g : decide ((a.length : Int) = 8) = true := g
        rw [decide_eq_true_eq] at g
        show _ = pushF 0 a b
        unfold pushF
        rw [if_pos hR, if_pos (show (cur 0 a b).length = 8 by show a.length = 8; omega)]
        rfl
      have g : decide ((a.length : Int) = 8) = false := g
      rw [decide_eq_false_iff_not] at g
      refine h_call (c := cTop sg15) rfl trivial fun rs hk hr => ?_
      have hr : rs = topF 0 a b 0 := hr
      rw [topF_ok hR (by omega) (by omega)] at hr
      have hr : rs = [.i ((cellAt a (((a.length : Int) - 1)) 0)), .i ((cellAt a (((a.length : Int) - 1)) 1)), .i ((cellAt a (((a.length : Int) - 1)) 2)), .i ((cellAt a (((a.length : Int) - 1)) 3)), .i ((cellAt a (((a.length : Int) - 1)) 4)), .i ((cellAt a (((a.length : Int) - 1)) 5)), .i ((cellAt a (((a.length : Int) - 1)) 6)), .i ((cellAt a (((a.length : Int) - 1)) 7)), .i ((cellAt a (((a.length : Int) - 1)) 8)), .i ((cellAt a (((a.length : Int) - 1)) 9)), .i ((cellAt a (((a.length : Int) - 1)) 10)), .i ((cellAt a (((a.length : Int) - 1)) 11)), .i ((cellAt a (((a.length : Int) - 1)) 12)), .i ((cellAt a (((a.length : Int) - 1)) 13)), .i ((cellAt a (((a.length : Int) - 1)) 14)), .i ((cellAt a (((a.length : Int) - 1)) 15)), .i 0] := hr
      subst hr
      refine h_call (c := cOwn sg33) rfl (show a.length ≤ 1000000000 ∧ b.length ≤ 1000000000 by omega) fun rs hk hr => ?_
      have hr : rs = [.i 0, .l a, .l b] := hr
      subst hr
      refine h_ite (fun _ => ?_) (fun g => absurd (show decide ((0 : Int) = 0) = false from g) (by decide))
      refine h_letE (M := [lastOf a]) rfl ?_
      refine h_letE (M := a ++ [lastOf a]) rfl ?_
      refine h_need (by simp only [Env.sets, Env.set, BE.den, IE.den, DE.den, DV.int, DV.bool, DV.list, LOp.den, List.map_cons, List.map_nil, Nat.reduceEqDiff, ↓reduceIte, reduceCtorEq, Bool.and_eq_true, Bool.or_eq_true, Bool.not_eq_true', Bool.not_eq_false', Bool.and_eq_false_iff, Bool.or_eq_false_iff, decide_eq_true_eq, decide_eq_false_iff_not, List.length_singleton]; omega) ?_
      show _ = pushF 0 a b
      unfold pushF
      rw [if_pos hR, if_neg (show ¬ (cur 0 a b).length = 8 by show ¬ a.length = 8; omega)]
      rfl
    · subst hm
      refine h_ite (fun g => absurd (show decide ((1 : Int) = 0) = true from g) (by decide)) (fun _ => ?_)
      refine h_ite (fun _ => ?_) (fun g => absurd (show decide ((1 : Int) = 1) = false from g) (by decide))
      refine h_ite (fun g => ?_) (fun g => ?_)
      · have g : decide ((b.length : Int) = 8) = true := g
        rw [decide_eq_true_eq] at g
        show _ = pushF 1 a b
        unfold pushF
        rw [if_pos hR, if_pos (show (cur 1 a b).length = 8 by show b.length = 8; omega)]
        rfl
      have g : decide ((b.length : Int) = 8) = false := g
      rw [decide_eq_false_iff_not] at g
      refine h_call (c := cTop sg15) rfl trivial fun rs hk hr => ?_
      have hr : rs = topF 1 a b 1 := hr
      rw [topF_ok hR (by omega) (by omega)] at hr
      have hr : rs = [.i ((cellAt b (((b.length : Int) - 1)) 0)), .i ((cellAt b (((b.length : Int) - 1)) 1)), .i ((cellAt b (((b.length : Int) - 1)) 2)), .i ((cellAt b (((b.length : Int) - 1)) 3)), .i ((cellAt b (((b.length : Int) - 1)) 4)), .i ((cellAt b (((b.length : Int) - 1)) 5)), .i ((cellAt b (((b.length : Int) - 1)) 6)), .i ((cellAt b (((b.length : Int) - 1)) 7)), .i ((cellAt b (((b.length : Int) - 1)) 8)), .i ((cellAt b (((b.length : Int) - 1)) 9)), .i ((cellAt b (((b.length : Int) - 1)) 10)), .i ((cellAt b (((b.length : Int) - 1)) 11)), .i ((cellAt b (((b.length : Int) - 1)) 12)), .i ((cellAt b (((b.length : Int) - 1)) 13)), .i ((cellAt b (((b.length : Int) - 1)) 14)), .i ((cellAt b (((b.length : Int) - 1)) 15)), .i 0] := hr
      subst hr
      refine h_call (c := cOwn sg33) rfl (show a.length ≤ 1000000000 ∧ b.length ≤ 1000000000 by omega) fun rs hk hr => ?_
      have hr : rs = [.i 1, .l a, .l b] := hr
      subst hr
      refine h_ite (fun g => absurd (show decide ((1 : Int) = 0) = true from g) (by decide)) (fun _ => ?_)
      refine h_ite (fun _ => ?_) (fun g => absurd (show decide ((1 : Int) = 1) = false from g) (by decide))
      refine h_letE (M := [lastOf b]) rfl ?_
      refine h_letE (M := b ++ [lastOf b]) rfl ?_
      refine h_need (by simp only [Env.sets, Env.set, BE.den, IE.den, DE.den, DV.int, DV.bool, DV.list, LOp.den, List.map_cons, List.map_nil, Nat.reduceEqDiff, ↓reduceIte, reduceCtorEq, Bool.and_eq_true, Bool.or_eq_true, Bool.not_eq_true', Bool.not_eq_false', Bool.and_eq_false_iff, Bool.or_eq_false_iff, decide_eq_true_eq, decide_eq_false_iff_not, List.length_singleton]; omega) ?_
      show _ = pushF 1 a b
      unfold pushF
      rw [if_pos hR, if_neg (show ¬ (cur 1 a b).length = 8 by show ¬ b.length = 8; omega)]
      rfl
  · cases hp
theorem ok12 : ContractOk Try.prog 12 (cPop sg12) := by
  refine contract_of (Γ := knownOf [(22, cRightS sg22), (30, cOwn sg30)]) (known_cons ok22 rfl (known_cons ok30 rfl known_nil)) Try.func12 rfl rfl is12 fun ds hk hp => ?_
  split at hp
  · skip
    rename_i m a b
    refine h_call (c := cRightS sg22) rfl trivial fun rs hk hr => ?_
    have hr : rs = [.b (decide (rightS m a b))] := hr
    subst hr
    refine h_ite (fun g => ?_) (fun g => ?_)
    · have g : (!decide (rightS m a b)) = true := g
      rw [Bool.not_eq_true', decide_eq_false_iff_not] at g
      show _ = popF m a b
      unfold popF
      rw [if_neg g]
      rfl
    have g : (!decide (rightS m a b)) = false := g
    rw [Bool.not_eq_false', decide_eq_true_eq] at g
    have hR := g
    clear g
    have hl := rightS_len hR
    rcases rightS_mode hR with hm | hm
    · subst hm
      refine h_ite (fun _ => ?_) (fun g => absurd (show decide ((0 : Int) = 0) = false from g) (by decide))
      refine h_needR ((a.length : Int) - 1) rfl (by unfold ok64; omega) ?_
      refine h_ite (fun g => ?_) (fun g => ?_)
      · have g : decide ((a.length : Int) - 1 = 0) = true := g
        rw [decide_eq_true_eq] at g
        show _ = popF 0 a b
        unfold popF
        rw [if_pos hR, if_pos (show (cur 0 a b).length = 1 by show a.length = 1; omega)]
        rfl
      have g : decide ((a.length : Int) - 1 = 0) = false := g
      rw [decide_eq_false_iff_not] at g
      refine h_call (c := cOwn sg30) rfl (show a.length ≤ 1000000000 ∧ b.length ≤ 1000000000 by omega) fun rs hk hr => ?_
      have hr : rs = [.i 0, .l a, .l b] := hr
      subst hr
      refine h_ite (fun _ => ?_) (fun g => absurd (show decide ((0 : Int) = 0) = false from g) (by decide))
      refine h_letE (M := cutLast a) rfl ?_
      iterate 2 refine h_need (by simp only [Env.sets, Env.set, BE.den, IE.den, DE.den, DV.int, DV.bool, DV.list, LOp.den, List.map_cons, List.map_nil, Nat.reduceEqDiff, ↓reduceIte, reduceCtorEq, Bool.and_eq_true, Bool.or_eq_true, Bool.not_eq_true', Bool.not_eq_false', Bool.and_eq_false_iff, Bool.or_eq_false_iff, decide_eq_true_eq, decide_eq_false_iff_not]; omega) ?_
      show _ = popF 0 a b
      unfold popF
      rw [if_pos hR, if_neg (show ¬ (cur 0 a b).length = 1 by show ¬ a.length = 1; omega)]
      rfl
    · subst hm
      refine h_ite (fun g => absurd (show decide ((1 : Int) = 0) = true from g) (by decide)) (fun _ => ?_)
      refine h_ite (fun _ => ?_) (fun g => absurd (show decide ((1 : Int) = 1) = false from g) (by decide))
      refine h_needR ((b.length : Int) - 1) rfl (by unfold ok64; omega) ?_
      refine h_ite (fun g => ?_) (fun g => ?_)
      · have g : decide ((b.length : Int) - 1 = 0) = true := g
        rw [decide_eq_true_eq] at g
        show _ = popF 1 a b
        unfold popF
        rw [if_pos hR, if_pos (show (cur 1 a b).length = 1 by show b.length = 1; omega)]
        rfl
      have g : decide ((b.length : Int) - 1 = 0) = false := g
      rw [decide_eq_false_iff_not] at g
      refine h_call (c := cOwn sg30) rfl (show a.length ≤ 1000000000 ∧ b.length ≤ 1000000000 by omega) fun rs hk hr => ?_
      have hr : rs = [.i 1, .l a, .l b] := hr
      subst hr
      refine h_ite (fun g => absurd (show decide ((1 : Int) = 0) = true from g) (by decide)) (fun _ => ?_)
      refine h_ite (fun _ => ?_) (fun g => absurd (show decide ((1 : Int) = 1) = false from g) (by decide))
      refine h_letE (M := cutLast b) rfl ?_
      iterate 2 refine h_need (by simp only [Env.sets, Env.set, BE.den, IE.den, DE.den, DV.int, DV.bool, DV.list, LOp.den, List.map_cons, List.map_nil, Nat.reduceEqDiff, ↓reduceIte, reduceCtorEq, Bool.and_eq_true, Bool.or_eq_true, Bool.not_eq_true', Bool.not_eq_false', Bool.and_eq_false_iff, Bool.or_eq_false_iff, decide_eq_true_eq, decide_eq_false_iff_not]; omega) ?_
      show _ = popF 1 a b
      unfold popF
      rw [if_pos hR, if_neg (show ¬ (cur 1 a b).length = 1 by show ¬ b.length = 1; omega)]
      rfl
  · cases hp
theorem ok21 : ContractOk Try.prog 21 (cPop sg21) := by
  refine contract_of (Γ := knownOf [(23, cRightS sg23), (33, cOwn sg33)]) (known_cons ok23 rfl (known_cons ok33 rfl known_nil)) Try.func21 rfl rfl is21 fun ds hk hp => ?_
  split at hp
  · skip
    rename_i m a b
    refine h_call (c := cRightS sg23) rfl trivial fun rs hk hr => ?_
    have hr : rs = [.b (decide (rightS m a b))] := hr
    subst hr
    refine h_ite (fun g => ?_) (fun g => ?_)
    · have g : (!decide (rightS m a b)) = true := g
      rw [Bool.not_eq_true', decide_eq_false_iff_not] at g
      show _ = popF m a b
      unfold popF
      rw [if_neg g]
      rfl
    have g : (!decide (rightS m a b)) = false := g
    rw [Bool.not_eq_false', decide_eq_true_eq] at g
    have hR := g
    clear g
    have hl := rightS_len hR
    rcases rightS_mode hR with hm | hm
    · subst hm
      refine h_ite (fun _ => ?_) (fun g => absurd (show decide ((0 : Int) = 0) = false from g) (by decide))
      refine h_needR ((a.length : Int) - 1) rfl (by unfold ok64; omega) ?_
      refine h_ite (fun g => ?_) (fun g => ?_)
      · have g : decide ((a.length : Int) - 1 = 0) = true := g
        rw [decide_eq_true_eq] at g
        show _ = popF 0 a b
        unfold popF
        rw [if_pos hR, if_pos (show (cur 0 a b).length = 1 by show a.length = 1; omega)]
        rfl
      have g : decide ((a.length : Int) - 1 = 0) = false := g
      rw [decide_eq_false_iff_not] at g
      refine h_call (c := cOwn sg33) rfl (show a.length ≤ 1000000000 ∧ b.length ≤ 1000000000 by omega) fun rs hk hr => ?_
      have hr : rs = [.i 0, .l a, .l b] := hr
      subst hr
      refine h_ite (fun _ => ?_) (fun g => absurd (show decide ((0 : Int) = 0) = false from g) (by decide))
      refine h_letE (M := cutLast a) rfl ?_
      iterate 2 refine h_need (by simp only [Env.sets, Env.set, BE.den, IE.den, DE.den, DV.int, DV.bool, DV.list, LOp.den, List.map_cons, List.map_nil, Nat.reduceEqDiff, ↓reduceIte, reduceCtorEq, Bool.and_eq_true, Bool.or_eq_true, Bool.not_eq_true', Bool.not_eq_false', Bool.and_eq_false_iff, Bool.or_eq_false_iff, decide_eq_true_eq, decide_eq_false_iff_not]; omega) ?_
      show _ = popF 0 a b
      unfold popF
      rw [if_pos hR, if_neg (show ¬ (cur 0 a b).length = 1 by show ¬ a.length = 1; omega)]
      rfl
    · subst hm
      refine h_ite (fun g => absurd (show decide ((1 : Int) = 0) = true from g) (by decide)) (fun _ => ?_)
      refine h_ite (fun _ => ?_) (fun g => absurd (show decide ((1 : Int) = 1) = false from g) (by decide))
      refine h_needR ((b.length : Int) - 1) rfl (by unfold ok64; omega) ?_
      refine h_ite (fun g => ?_) (fun g => ?_)
      · have g : decide ((b.length : Int) - 1 = 0) = true := g
        rw [decide_eq_true_eq] at g
        show _ = popF 1 a b
        unfold popF
        rw [if_pos hR, if_pos (show (cur 1 a b).length = 1 by show b.length = 1; omega)]
        rfl
      have g : decide ((b.length : Int) - 1 = 0) = false := g
      rw [decide_eq_false_iff_not] at g
      refine h_call (c := cOwn sg33) rfl (show a.length ≤ 1000000000 ∧ b.length ≤ 1000000000 by omega) fun rs hk hr => ?_
      have hr : rs = [.i 1, .l a, .l b] := hr
      subst hr
      refine h_ite (fun g => absurd (show decide ((1 : Int) = 0) = true from g) (by decide)) (fun _ => ?_)
      refine h_ite (fun _ => ?_) (fun g => absurd (show decide ((1 : Int) = 1) = false from g) (by decide))
      refine h_letE (M := cutLast b) rfl ?_
      iterate 2 refine h_need (by simp only [Env.sets, Env.set, BE.den, IE.den, DE.den, DV.int, DV.bool, DV.list, LOp.den, List.map_cons, List.map_nil, Nat.reduceEqDiff, ↓reduceIte, reduceCtorEq, Bool.and_eq_true, Bool.or_eq_true, Bool.not_eq_true', Bool.not_eq_false', Bool.and_eq_false_iff, Bool.or_eq_false_iff, decide_eq_true_eq, decide_eq_false_iff_not]; omega) ?_
      show _ = popF 1 a b
      unfold popF
      rw [if_pos hR, if_neg (show ¬ (cur 1 a b).length = 1 by show ¬ b.length = 1; omega)]
      rfl
  · cases hp
theorem ok11 : ContractOk Try.prog 11 (cMult sg11) := by
  refine contract_of (Γ := knownOf [(22, cRightS sg22), (31, cRight sg31), (14, cTop sg14), (32, cMul sg32), (10, cLoad sg10)]) (known_cons ok22 rfl (known_cons ok31 rfl (known_cons ok14 rfl (known_cons ok32 rfl (known_cons ok10 rfl known_nil))))) Try.func11 rfl rfl is11 fun ds hk hp => ?_
  split at hp
  · skip
    rename_i m a b x0 x1 x2 x3 x4 x5 x6 x7 x8 x9 x10 x11 x12 x13 x14 x15
    refine h_call (c := cRightS sg22) rfl trivial fun rs hk hr => ?_
    have hr : rs = [.b (decide (rightS m a b))] := hr
    subst hr
    refine h_callg (c := cRight sg31) rfl (fun _ => trivial) fun rs hk hr2 => ?_
    obtain ⟨i2, rfl⟩ := kinds1b hk
    have hr2 : decide (rightS m a b) = true → [DV.b i2] = [DV.b (decide (rightP [x0, x1, x2, x3, x4, x5, x6, x7, x8, x9, x10, x11, x12, x13, x14, x15]))] := hr2
    refine h_ite (fun g => ?_) (fun g => ?_)
    · have g : (!decide (rightS m a b) || !i2) = true := g
      show _ = multF m a b [x0, x1, x2, x3, x4, x5, x6, x7, x8, x9, x10, x11, x12, x13, x14, x15]
      unfold multF
      rw [if_neg (fun ⟨h1, h2⟩ => by
        rw [b_of (hr2 (by simpa using h1))] at g
        simp [h1, h2] at g)]
      rfl
    have g : (!decide (rightS m a b) || !i2) = false := g
    simp only [Bool.or_eq_false_iff, Bool.not_eq_false', decide_eq_true_eq] at g
    obtain ⟨hR, rfl⟩ := g
    have hX : rightP [x0, x1, x2, x3, x4, x5, x6, x7, x8, x9, x10, x11, x12, x13, x14, x15] := by have := b_of (hr2 (by simpa using hR)); simpa using this.symm
    clear hr2
    have hl := rightS_len hR
    have hm := rightS_mode hR
    refine h_call (c := cTop sg14) rfl trivial fun rs hk hr => ?_
    have hr : rs = topF m a b m := hr
    rw [topF_ok hR (by omega) (by omega)] at hr
    have hr : rs = [.i ((cellAt (cur m a b) (((cur m a b).length : Int) - 1) 0)), .i ((cellAt (cur m a b) (((cur m a b).length : Int) - 1) 1)), .i ((cellAt (cur m a b) (((cur m a b).length : Int) - 1) 2)), .i ((cellAt (cur m a b) (((cur m a b).length : Int) - 1) 3)), .i ((cellAt (cur m a b) (((cur m a b).length : Int) - 1) 4)), .i ((cellAt (cur m a b) (((cur m a b).length : Int) - 1) 5)), .i ((cellAt (cur m a b) (((cur m a b).length : Int) - 1) 6)), .i ((cellAt (cur m a b) (((cur m a b).length : Int) - 1) 7)), .i ((cellAt (cur m a b) (((cur m a b).length : Int) - 1) 8)), .i ((cellAt (cur m a b) (((cur m a b).length : Int) - 1) 9)), .i ((cellAt (cur m a b) (((cur m a b).length : Int) - 1) 10)), .i ((cellAt (cur m a b) (((cur m a b).length : Int) - 1) 11)), .i ((cellAt (cur m a b) (((cur m a b).length : Int) - 1) 12)), .i ((cellAt (cur m a b) (((cur m a b).length : Int) - 1) 13)), .i ((cellAt (cur m a b) (((cur m a b).length : Int) - 1) 14)), .i ((cellAt (cur m a b) (((cur m a b).length : Int) - 1) 15)), .i 0] := hr
    subst hr
    refine h_call (c := cMul sg32) rfl trivial fun rs hk hr => ?_
    have hr : rs = [.i (mulI (lastOf (cur m a b)) [x0, x1, x2, x3, x4, x5, x6, x7, x8, x9, x10, x11, x12, x13, x14, x15] 0), .i (mulI (lastOf (cur m a b)) [x0, x1, x2, x3, x4, x5, x6, x7, x8, x9, x10, x11, x12, x13, x14, x15] 1), .i (mulI (lastOf (cur m a b)) [x0, x1, x2, x3, x4, x5, x6, x7, x8, x9, x10, x11, x12, x13, x14, x15] 2), .i (mulI (lastOf (cur m a b)) [x0, x1, x2, x3, x4, x5, x6, x7, x8, x9, x10, x11, x12, x13, x14, x15] 3), .i (mulI (lastOf (cur m a b)) [x0, x1, x2, x3, x4, x5, x6, x7, x8, x9, x10, x11, x12, x13, x14, x15] 4), .i (mulI (lastOf (cur m a b)) [x0, x1, x2, x3, x4, x5, x6, x7, x8, x9, x10, x11, x12, x13, x14, x15] 5), .i (mulI (lastOf (cur m a b)) [x0, x1, x2, x3, x4, x5, x6, x7, x8, x9, x10, x11, x12, x13, x14, x15] 6), .i (mulI (lastOf (cur m a b)) [x0, x1, x2, x3, x4, x5, x6, x7, x8, x9, x10, x11, x12, x13, x14, x15] 7), .i (mulI (lastOf (cur m a b)) [x0, x1, x2, x3, x4, x5, x6, x7, x8, x9, x10, x11, x12, x13, x14, x15] 8), .i (mulI (lastOf (cur m a b)) [x0, x1, x2, x3, x4, x5, x6, x7, x8, x9, x10, x11, x12, x13, x14, x15] 9), .i (mulI (lastOf (cur m a b)) [x0, x1, x2, x3, x4, x5, x6, x7, x8, x9, x10, x11, x12, x13, x14, x15] 10), .i (mulI (lastOf (cur m a b)) [x0, x1, x2, x3, x4, x5, x6, x7, x8, x9, x10, x11, x12, x13, x14, x15] 11), .i (mulI (lastOf (cur m a b)) [x0, x1, x2, x3, x4, x5, x6, x7, x8, x9, x10, x11, x12, x13, x14, x15] 12), .i (mulI (lastOf (cur m a b)) [x0, x1, x2, x3, x4, x5, x6, x7, x8, x9, x10, x11, x12, x13, x14, x15] 13), .i (mulI (lastOf (cur m a b)) [x0, x1, x2, x3, x4, x5, x6, x7, x8, x9, x10, x11, x12, x13, x14, x15] 14), .i (mulI (lastOf (cur m a b)) [x0, x1, x2, x3, x4, x5, x6, x7, x8, x9, x10, x11, x12, x13, x14, x15] 15), .i (mulE (lastOf (cur m a b)) [x0, x1, x2, x3, x4, x5, x6, x7, x8, x9, x10, x11, x12, x13, x14, x15])] := hr
    subst hr
    refine h_ite (fun g => ?_) (fun g => ?_)
    · have g : (!decide (mulE (lastOf (cur m a b)) [x0, x1, x2, x3, x4, x5, x6, x7, x8, x9, x10, x11, x12, x13, x14, x15] = 0)) = true := g
      rw [Bool.not_eq_true', decide_eq_false_iff_not] at g
      show _ = multF m a b [x0, x1, x2, x3, x4, x5, x6, x7, x8, x9, x10, x11, x12, x13, x14, x15]
      unfold multF
      rw [if_pos ⟨hR, hX⟩, if_neg g]
      rfl
    have g : (!decide (mulE (lastOf (cur m a b)) [x0, x1, x2, x3, x4, x5, x6, x7, x8, x9, x10, x11, x12, x13, x14, x15] = 0)) = false := g
    rw [Bool.not_eq_false', decide_eq_true_eq] at g
    refine h_call (c := cLoad sg10) rfl trivial fun rs hk hr => ?_
    have hr : rs = loadF m a b (mulL (lastOf (cur m a b)) [x0, x1, x2, x3, x4, x5, x6, x7, x8, x9, x10, x11, x12, x13, x14, x15]) := hr
    obtain ⟨m', a', b', e', rfl⟩ := kinds4 hk
    show _ = multF m a b [x0, x1, x2, x3, x4, x5, x6, x7, x8, x9, x10, x11, x12, x13, x14, x15]
    unfold multF
    rw [if_pos ⟨hR, hX⟩, if_pos g, ← hr]
    rfl
  · cases hp
theorem ok19 : ContractOk Try.prog 19 (cMult sg19) := by
  refine contract_of (Γ := knownOf [(23, cRightS sg23), (28, cRight sg28), (15, cTop sg15), (29, cMul sg29), (18, cLoad sg18)]) (known_cons ok23 rfl (known_cons ok28 rfl (known_cons ok15 rfl (known_cons ok29 rfl (known_cons ok18 rfl known_nil))))) Try.func19 rfl rfl is19 fun ds hk hp => ?_
  split at hp
  · skip
    rename_i m a b x0 x1 x2 x3 x4 x5 x6 x7 x8 x9 x10 x11 x12 x13 x14 x15
    refine h_call (c := cRightS sg23) rfl trivial fun rs hk hr => ?_
    have hr : rs = [.b (decide (rightS m a b))] := hr
    subst hr
    refine h_callg (c := cRight sg28) rfl (fun _ => trivial) fun rs hk hr2 => ?_
    obtain ⟨i2, rfl⟩ := kinds1b hk
    have hr2 : decide (rightS m a b) = true → [DV.b i2] = [DV.b (decide (rightP [x0, x1, x2, x3, x4, x5, x6, x7, x8, x9, x10, x11, x12, x13, x14, x15]))] := hr2
    refine h_ite (fun g => ?_) (fun g => ?_)
    · have g : (!decide (rightS m a b) || !i2) = true := g
      show _ = multF m a b [x0, x1, x2, x3, x4, x5, x6, x7, x8, x9, x10, x11, x12, x13, x14, x15]
      unfold multF
      rw [if_neg (fun ⟨h1, h2⟩ => by
        rw [b_of (hr2 (by simpa using h1))] at g
        simp [h1, h2] at g)]
      rfl
    have g : (!decide (rightS m a b) || !i2) = false := g
    simp only [Bool.or_eq_false_iff, Bool.not_eq_false', decide_eq_true_eq] at g
    obtain ⟨hR, rfl⟩ := g
    have hX : rightP [x0, x1, x2, x3, x4, x5, x6, x7, x8, x9, x10, x11, x12, x13, x14, x15] := by have := b_of (hr2 (by simpa using hR)); simpa using this.symm
    clear hr2
    have hl := rightS_len hR
    have hm := rightS_mode hR
    refine h_call (c := cTop sg15) rfl trivial fun rs hk hr => ?_
    have hr : rs = topF m a b m := hr
    rw [topF_ok hR (by omega) (by omega)] at hr
    have hr : rs = [.i ((cellAt (cur m a b) (((cur m a b).length : Int) - 1) 0)), .i ((cellAt (cur m a b) (((cur m a b).length : Int) - 1) 1)), .i ((cellAt (cur m a b) (((cur m a b).length : Int) - 1) 2)), .i ((cellAt (cur m a b) (((cur m a b).length : Int) - 1) 3)), .i ((cellAt (cur m a b) (((cur m a b).length : Int) - 1) 4)), .i ((cellAt (cur m a b) (((cur m a b).length : Int) - 1) 5)), .i ((cellAt (cur m a b) (((cur m a b).length : Int) - 1) 6)), .i ((cellAt (cur m a b) (((cur m a b).length : Int) - 1) 7)), .i ((cellAt (cur m a b) (((cur m a b).length : Int) - 1) 8)), .i ((cellAt (cur m a b) (((cur m a b).length : Int) - 1) 9)), .i ((cellAt (cur m a b) (((cur m a b).length : Int) - 1) 10)), .i ((cellAt (cur m a b) (((cur m a b).length : Int) - 1) 11)), .i ((cellAt (cur m a b) (((cur m a b).length : Int) - 1) 12)), .i ((cellAt (cur m a b) (((cur m a b).length : Int) - 1) 13)), .i ((cellAt (cur m a b) (((cur m a b).length : Int) - 1) 14)), .i ((cellAt (cur m a b) (((cur m a b).length : Int) - 1) 15)), .i 0] := hr
    subst hr
    refine h_call (c := cMul sg29) rfl trivial fun rs hk hr => ?_
    have hr : rs = [.i (mulI (lastOf (cur m a b)) [x0, x1, x2, x3, x4, x5, x6, x7, x8, x9, x10, x11, x12, x13, x14, x15] 0), .i (mulI (lastOf (cur m a b)) [x0, x1, x2, x3, x4, x5, x6, x7, x8, x9, x10, x11, x12, x13, x14, x15] 1), .i (mulI (lastOf (cur m a b)) [x0, x1, x2, x3, x4, x5, x6, x7, x8, x9, x10, x11, x12, x13, x14, x15] 2), .i (mulI (lastOf (cur m a b)) [x0, x1, x2, x3, x4, x5, x6, x7, x8, x9, x10, x11, x12, x13, x14, x15] 3), .i (mulI (lastOf (cur m a b)) [x0, x1, x2, x3, x4, x5, x6, x7, x8, x9, x10, x11, x12, x13, x14, x15] 4), .i (mulI (lastOf (cur m a b)) [x0, x1, x2, x3, x4, x5, x6, x7, x8, x9, x10, x11, x12, x13, x14, x15] 5), .i (mulI (lastOf (cur m a b)) [x0, x1, x2, x3, x4, x5, x6, x7, x8, x9, x10, x11, x12, x13, x14, x15] 6), .i (mulI (lastOf (cur m a b)) [x0, x1, x2, x3, x4, x5, x6, x7, x8, x9, x10, x11, x12, x13, x14, x15] 7), .i (mulI (lastOf (cur m a b)) [x0, x1, x2, x3, x4, x5, x6, x7, x8, x9, x10, x11, x12, x13, x14, x15] 8), .i (mulI (lastOf (cur m a b)) [x0, x1, x2, x3, x4, x5, x6, x7, x8, x9, x10, x11, x12, x13, x14, x15] 9), .i (mulI (lastOf (cur m a b)) [x0, x1, x2, x3, x4, x5, x6, x7, x8, x9, x10, x11, x12, x13, x14, x15] 10), .i (mulI (lastOf (cur m a b)) [x0, x1, x2, x3, x4, x5, x6, x7, x8, x9, x10, x11, x12, x13, x14, x15] 11), .i (mulI (lastOf (cur m a b)) [x0, x1, x2, x3, x4, x5, x6, x7, x8, x9, x10, x11, x12, x13, x14, x15] 12), .i (mulI (lastOf (cur m a b)) [x0, x1, x2, x3, x4, x5, x6, x7, x8, x9, x10, x11, x12, x13, x14, x15] 13), .i (mulI (lastOf (cur m a b)) [x0, x1, x2, x3, x4, x5, x6, x7, x8, x9, x10, x11, x12, x13, x14, x15] 14), .i (mulI (lastOf (cur m a b)) [x0, x1, x2, x3, x4, x5, x6, x7, x8, x9, x10, x11, x12, x13, x14, x15] 15), .i (mulE (lastOf (cur m a b)) [x0, x1, x2, x3, x4, x5, x6, x7, x8, x9, x10, x11, x12, x13, x14, x15])] := hr
    subst hr
    refine h_ite (fun g => ?_) (fun g => ?_)
    · have g : (!decide (mulE (lastOf (cur m a b)) [x0, x1, x2, x3, x4, x5, x6, x7, x8, x9, x10, x11, x12, x13, x14, x15] = 0)) = true := g
      rw [Bool.not_eq_true', decide_eq_false_iff_not] at g
      show _ = multF m a b [x0, x1, x2, x3, x4, x5, x6, x7, x8, x9, x10, x11, x12, x13, x14, x15]
      unfold multF
      rw [if_pos ⟨hR, hX⟩, if_neg g]
      rfl
    have g : (!decide (mulE (lastOf (cur m a b)) [x0, x1, x2, x3, x4, x5, x6, x7, x8, x9, x10, x11, x12, x13, x14, x15] = 0)) = false := g
    rw [Bool.not_eq_false', decide_eq_true_eq] at g
    refine h_call (c := cLoad sg18) rfl trivial fun rs hk hr => ?_
    have hr : rs = loadF m a b (mulL (lastOf (cur m a b)) [x0, x1, x2, x3, x4, x5, x6, x7, x8, x9, x10, x11, x12, x13, x14, x15]) := hr
    obtain ⟨m', a', b', e', rfl⟩ := kinds4 hk
    show _ = multF m a b [x0, x1, x2, x3, x4, x5, x6, x7, x8, x9, x10, x11, x12, x13, x14, x15]
    unfold multF
    rw [if_pos ⟨hR, hX⟩, if_pos g, ← hr]
    rfl
  · cases hp
theorem ok24 : ContractOk Try.prog 24 (cNew sg24) := by
  refine contract_of (Γ := knownOf [(34, cUnit sg34)]) (known_cons ok34 rfl known_nil) Try.func24 rfl rfl is24 fun ds hk hp => ?_
  split at hp
  · skip
    refine h_call (c := cUnit sg34) rfl trivial fun rs hk hr => ?_
    have hr : rs = [.i 65536, .i 0, .i 0, .i 0, .i 0, .i 65536, .i 0, .i 0, .i 0, .i 0, .i 65536, .i 0, .i 0, .i 0, .i 0, .i 65536] := hr
    subst hr
    refine h_letE (M := [unitL]) rfl ?_
    refine h_call (c := cUnit sg34) rfl trivial fun rs hk hr => ?_
    have hr : rs = [.i 65536, .i 0, .i 0, .i 0, .i 0, .i 65536, .i 0, .i 0, .i 0, .i 0, .i 65536, .i 0, .i 0, .i 0, .i 0, .i 65536] := hr
    subst hr
    refine h_letE (M := [unitL]) rfl ?_
    rfl
  · cases hp
theorem ok25 : ContractOk Try.prog 25 (cNew sg25) := by
  refine contract_of (Γ := knownOf [(35, cUnit sg35)]) (known_cons ok35 rfl known_nil) Try.func25 rfl rfl is25 fun ds hk hp => ?_
  split at hp
  · skip
    refine h_call (c := cUnit sg35) rfl trivial fun rs hk hr => ?_
    have hr : rs = [.i 65536, .i 0, .i 0, .i 0, .i 0, .i 65536, .i 0, .i 0, .i 0, .i 0, .i 65536, .i 0, .i 0, .i 0, .i 0, .i 65536] := hr
    subst hr
    refine h_letE (M := [unitL]) rfl ?_
    refine h_call (c := cUnit sg35) rfl trivial fun rs hk hr => ?_
    have hr : rs = [.i 65536, .i 0, .i 0, .i 0, .i 0, .i 65536, .i 0, .i 0, .i 0, .i 0, .i 65536, .i 0, .i 0, .i 0, .i 0, .i 65536] := hr
    subst hr
    refine h_letE (M := [unitL]) rfl ?_
    rfl
  · cases hp
theorem ok26 : ContractOk Try.prog 26 (cDo sg26) := by
  refine contract_of (Γ := knownOf [(16, cChoose sg16), (10, cLoad sg10), (11, cMult sg11), (9, cPush sg9), (12, cPop sg12)]) (known_cons ok16 rfl (known_cons ok10 rfl (known_cons ok11 rfl (known_cons ok9 rfl (known_cons ok12 rfl known_nil))))) Try.func26 rfl rfl is26 fun ds hk hp => ?_
  split at hp
  · skip
    rename_i m a b k n x0 x1 x2 x3 x4 x5 x6 x7 x8 x9 x10 x11 x12 x13 x14 x15
    refine h_ite (fun h0 => ?_) (fun h0 => ?_)
    · have h0 : decide (k = 0) = true := h0
      rw [decide_eq_true_eq] at h0
      refine h_call (c := cChoose sg16) rfl trivial fun rs hk hr => ?_
      have hr : rs = chooseF m a b n := hr
      obtain ⟨m', a', b', e', rfl⟩ := kinds4 hk
      show _ = doF m a b k n [x0, x1, x2, x3, x4, x5, x6, x7, x8, x9, x10, x11, x12, x13, x14, x15]
      unfold doF
      rw [if_pos h0, ← hr]
      rfl
    have h0 : decide (k = 0) = false := h0
    rw [decide_eq_false_iff_not] at h0
    refine h_ite (fun h1 => ?_) (fun h1 => ?_)
    · have h1 : decide (k = 1) = true := h1
      rw [decide_eq_true_eq] at h1
      refine h_call (c := cLoad sg10) rfl trivial fun rs hk hr => ?_
      have hr : rs = loadF m a b [x0, x1, x2, x3, x4, x5, x6, x7, x8, x9, x10, x11, x12, x13, x14, x15] := hr
      obtain ⟨m', a', b', e', rfl⟩ := kinds4 hk
      show _ = doF m a b k n [x0, x1, x2, x3, x4, x5, x6, x7, x8, x9, x10, x11, x12, x13, x14, x15]
      unfold doF
      rw [if_neg h0, if_pos h1, ← hr]
      rfl
    have h1 : decide (k = 1) = false := h1
    rw [decide_eq_false_iff_not] at h1
    refine h_ite (fun h2 => ?_) (fun h2 => ?_)
    · have h2 : decide (k = 2) = true := h2
      rw [decide_eq_true_eq] at h2
      refine h_call (c := cMult sg11) rfl trivial fun rs hk hr => ?_
      have hr : rs = multF m a b [x0, x1, x2, x3, x4, x5, x6, x7, x8, x9, x10, x11, x12, x13, x14, x15] := hr
      obtain ⟨m', a', b', e', rfl⟩ := kinds4 hk
      show _ = doF m a b k n [x0, x1, x2, x3, x4, x5, x6, x7, x8, x9, x10, x11, x12, x13, x14, x15]
      unfold doF
      rw [if_neg h0, if_neg h1, if_pos h2, ← hr]
      rfl
    have h2 : decide (k = 2) = false := h2
    rw [decide_eq_false_iff_not] at h2
    refine h_ite (fun h3 => ?_) (fun h3 => ?_)
    · have h3 : decide (k = 3) = true := h3
      rw [decide_eq_true_eq] at h3
      refine h_call (c := cPush sg9) rfl trivial fun rs hk hr => ?_
      have hr : rs = pushF m a b := hr
      obtain ⟨m', a', b', e', rfl⟩ := kinds4 hk
      show _ = doF m a b k n [x0, x1, x2, x3, x4, x5, x6, x7, x8, x9, x10, x11, x12, x13, x14, x15]
      unfold doF
      rw [if_neg h0, if_neg h1, if_neg h2, if_pos h3, ← hr]
      rfl
    have h3 : decide (k = 3) = false := h3
    rw [decide_eq_false_iff_not] at h3
    refine h_call (c := cPop sg12) rfl trivial fun rs hk hr => ?_
    have hr : rs = popF m a b := hr
    obtain ⟨m', a', b', e', rfl⟩ := kinds4 hk
    show _ = doF m a b k n [x0, x1, x2, x3, x4, x5, x6, x7, x8, x9, x10, x11, x12, x13, x14, x15]
    unfold doF
    rw [if_neg h0, if_neg h1, if_neg h2, if_neg h3, ← hr]
    rfl
  · cases hp
theorem ok27 : ContractOk Try.prog 27 (cDo sg27) := by
  refine contract_of (Γ := knownOf [(17, cChoose sg17), (18, cLoad sg18), (19, cMult sg19), (20, cPush sg20), (21, cPop sg21)]) (known_cons ok17 rfl (known_cons ok18 rfl (known_cons ok19 rfl (known_cons ok20 rfl (known_cons ok21 rfl known_nil))))) Try.func27 rfl rfl is27 fun ds hk hp => ?_
  split at hp
  · skip
    rename_i m a b k n x0 x1 x2 x3 x4 x5 x6 x7 x8 x9 x10 x11 x12 x13 x14 x15
    refine h_ite (fun h0 => ?_) (fun h0 => ?_)
    · have h0 : decide (k = 0) = true := h0
      rw [decide_eq_true_eq] at h0
      refine h_call (c := cChoose sg17) rfl trivial fun rs hk hr => ?_
      have hr : rs = chooseF m a b n := hr
      obtain ⟨m', a', b', e', rfl⟩ := kinds4 hk
      show _ = doF m a b k n [x0, x1, x2, x3, x4, x5, x6, x7, x8, x9, x10, x11, x12, x13, x14, x15]
      unfold doF
      rw [if_pos h0, ← hr]
      rfl
    have h0 : decide (k = 0) = false := h0
    rw [decide_eq_false_iff_not] at h0
    refine h_ite (fun h1 => ?_) (fun h1 => ?_)
    · have h1 : decide (k = 1) = true := h1
      rw [decide_eq_true_eq] at h1
      refine h_call (c := cLoad sg18) rfl trivial fun rs hk hr => ?_
      have hr : rs = loadF m a b [x0, x1, x2, x3, x4, x5, x6, x7, x8, x9, x10, x11, x12, x13, x14, x15] := hr
      obtain ⟨m', a', b', e', rfl⟩ := kinds4 hk
      show _ = doF m a b k n [x0, x1, x2, x3, x4, x5, x6, x7, x8, x9, x10, x11, x12, x13, x14, x15]
      unfold doF
      rw [if_neg h0, if_pos h1, ← hr]
      rfl
    have h1 : decide (k = 1) = false := h1
    rw [decide_eq_false_iff_not] at h1
    refine h_ite (fun h2 => ?_) (fun h2 => ?_)
    · have h2 : decide (k = 2) = true := h2
      rw [decide_eq_true_eq] at h2
      refine h_call (c := cMult sg19) rfl trivial fun rs hk hr => ?_
      have hr : rs = multF m a b [x0, x1, x2, x3, x4, x5, x6, x7, x8, x9, x10, x11, x12, x13, x14, x15] := hr
      obtain ⟨m', a', b', e', rfl⟩ := kinds4 hk
      show _ = doF m a b k n [x0, x1, x2, x3, x4, x5, x6, x7, x8, x9, x10, x11, x12, x13, x14, x15]
      unfold doF
      rw [if_neg h0, if_neg h1, if_pos h2, ← hr]
      rfl
    have h2 : decide (k = 2) = false := h2
    rw [decide_eq_false_iff_not] at h2
    refine h_ite (fun h3 => ?_) (fun h3 => ?_)
    · have h3 : decide (k = 3) = true := h3
      rw [decide_eq_true_eq] at h3
      refine h_call (c := cPush sg20) rfl trivial fun rs hk hr => ?_
      have hr : rs = pushF m a b := hr
      obtain ⟨m', a', b', e', rfl⟩ := kinds4 hk
      show _ = doF m a b k n [x0, x1, x2, x3, x4, x5, x6, x7, x8, x9, x10, x11, x12, x13, x14, x15]
      unfold doF
      rw [if_neg h0, if_neg h1, if_neg h2, if_pos h3, ← hr]
      rfl
    have h3 : decide (k = 3) = false := h3
    rw [decide_eq_false_iff_not] at h3
    refine h_call (c := cPop sg21) rfl trivial fun rs hk hr => ?_
    have hr : rs = popF m a b := hr
    obtain ⟨m', a', b', e', rfl⟩ := kinds4 hk
    show _ = doF m a b k n [x0, x1, x2, x3, x4, x5, x6, x7, x8, x9, x10, x11, x12, x13, x14, x15]
    unfold doF
    rw [if_neg h0, if_neg h1, if_neg h2, if_neg h3, ← hr]
    rfl
  · cases hp
theorem ok13 : ContractOk Try.prog 13 cSame := by
  refine contract_of (Γ := knownOf []) known_nil Try.func13 rfl rfl is13 fun ds hk hp => ?_
  split at hp
  · skip
    rename_i m a b m1 a1 b1
    obtain ⟨⟨rfl, rfl, rfl⟩, ha, hb⟩ := hp
    refine h_ite (fun g => absurd (show (!decide (m1 = m1)) = true from g) (by simp)) (fun _ => ?_)
    refine h_ite (fun g => absurd (show (!decide ((a1.length : Int) = (a1.length : Int))) = true from g) (by simp)) (fun _ => ?_)
    refine h_loop (fun ds => ∃ (i : Nat) (x : Bool), ds = [.b x, .i i] ∧ i ≤ a1.length) (fun | _ :: .i i :: _ => ((a1.length : Int) - i).toNat | _ => 0) ⟨0, _, rfl, by omega⟩ ?_
    intro ds _ ⟨i, x, hds, hi⟩
    subst hds
    refine h_ite (fun hc => ?_) (fun hc => ?_)
    · have hc : decide ((i : Int) < (a1.length : Int)) = true := hc
      simp only [Env.sets, Env.set, BE.den, IE.den, DE.den, DV.int, DV.bool, DV.list, LOp.den, List.map_cons, List.map_nil, Nat.reduceEqDiff, ↓reduceIte, reduceCtorEq, Bool.and_eq_true, Bool.or_eq_true, Bool.not_eq_true', Bool.not_eq_false', Bool.and_eq_false_iff, Bool.or_eq_false_iff, decide_eq_true_eq, decide_eq_false_iff_not] at hc
      iterate 2 refine h_need (by simp only [Env.sets, Env.set, BE.den, IE.den, DE.den, DV.int, DV.bool, DV.list, LOp.den, List.map_cons, List.map_nil, Nat.reduceEqDiff, ↓reduceIte, reduceCtorEq, Bool.and_eq_true, Bool.or_eq_true, Bool.not_eq_true', Bool.not_eq_false', Bool.and_eq_false_iff, Bool.or_eq_false_iff, decide_eq_true_eq, decide_eq_false_iff_not]; omega) ?_
      refine h_ite (fun g => ?_) (fun g => ?_)
      · have g : (!(decide (cellAt a1 (i : Int) 0 = cellAt a1 (i : Int) 0) && (decide (cellAt a1 (i : Int) 1 = cellAt a1 (i : Int) 1) && (decide (cellAt a1 (i : Int) 2 = cellAt a1 (i : Int) 2) && (decide (cellAt a1 (i : Int) 3 = cellAt a1 (i : Int) 3) && (decide (cellAt a1 (i : Int) 4 = cellAt a1 (i : Int) 4) && (decide (cellAt a1 (i : Int) 5 = cellAt a1 (i : Int) 5) && (decide (cellAt a1 (i : Int) 6 = cellAt a1 (i : Int) 6) && (decide (cellAt a1 (i : Int) 7 = cellAt a1 (i : Int) 7) && (decide (cellAt a1 (i : Int) 8 = cellAt a1 (i : Int) 8) && (decide (cellAt a1 (i : Int) 9 = cellAt a1 (i : Int) 9) && (decide (cellAt a1 (i : Int) 10 = cellAt a1 (i : Int) 10) && (decide (cellAt a1 (i : Int) 11 = cellAt a1 (i : Int) 11) && (decide (cellAt a1 (i : Int) 12 = cellAt a1 (i : Int) 12) && (decide (cellAt a1 (i : Int) 13 = cellAt a1 (i : Int) 13) && (decide (cellAt a1 (i : Int) 14 = cellAt a1 (i : Int) 14) && (decide (cellAt a1 (i : Int) 15 = cellAt a1 (i : Int) 15)))))))))))))))))) = true := g
        simp at g
      · refine h_needR ((i : Int) + 1) rfl (by unfold ok64; omega) (h_again ⟨⟨i + 1, _, rfl, by omega⟩, ?_⟩)
        show ((a1.length : Int) - ((i : Int) + 1)).toNat < ((a1.length : Int) - (i : Int)).toNat
        omega
    · have hc : decide ((i : Int) < (a1.length : Int)) = false := hc
      simp only [Env.sets, Env.set, BE.den, IE.den, DE.den, DV.int, DV.bool, DV.list, LOp.den, List.map_cons, List.map_nil, Nat.reduceEqDiff, ↓reduceIte, reduceCtorEq, Bool.and_eq_true, Bool.or_eq_true, Bool.not_eq_true', Bool.not_eq_false', Bool.and_eq_false_iff, Bool.or_eq_false_iff, decide_eq_true_eq, decide_eq_false_iff_not] at hc
      refine h_ite (fun g => absurd (show (!decide ((b1.length : Int) = (b1.length : Int))) = true from g) (by simp)) (fun _ => ?_)
      refine h_loop (fun ds => ∃ (i : Nat) (x : Bool) (p q r : Int) (y : Bool), ds = [.b x, .i i, .i p, .i q, .i r, .b y] ∧ i ≤ b1.length) (fun | _ :: .i i :: _ => ((b1.length : Int) - i).toNat | _ => 0) ⟨0, _, _, _, _, _, rfl, by omega⟩ ?_
      intro ds _ ⟨i, x, p, q, r, y, hds, hi⟩
      subst hds
      refine h_ite (fun hc => ?_) (fun hc => ?_)
      · have hc : decide ((i : Int) < (b1.length : Int)) = true := hc
        simp only [Env.sets, Env.set, BE.den, IE.den, DE.den, DV.int, DV.bool, DV.list, LOp.den, List.map_cons, List.map_nil, Nat.reduceEqDiff, ↓reduceIte, reduceCtorEq, Bool.and_eq_true, Bool.or_eq_true, Bool.not_eq_true', Bool.not_eq_false', Bool.and_eq_false_iff, Bool.or_eq_false_iff, decide_eq_true_eq, decide_eq_false_iff_not] at hc
        iterate 2 refine h_need (by simp only [Env.sets, Env.set, BE.den, IE.den, DE.den, DV.int, DV.bool, DV.list, LOp.den, List.map_cons, List.map_nil, Nat.reduceEqDiff, ↓reduceIte, reduceCtorEq, Bool.and_eq_true, Bool.or_eq_true, Bool.not_eq_true', Bool.not_eq_false', Bool.and_eq_false_iff, Bool.or_eq_false_iff, decide_eq_true_eq, decide_eq_false_iff_not]; omega) ?_
        refine h_ite (fun g => ?_) (fun g => ?_)
        · have g : (!(decide (cellAt b1 (i : Int) 0 = cellAt b1 (i : Int) 0) && (decide (cellAt b1 (i : Int) 1 = cellAt b1 (i : Int) 1) && (decide (cellAt b1 (i : Int) 2 = cellAt b1 (i : Int) 2) && (decide (cellAt b1 (i : Int) 3 = cellAt b1 (i : Int) 3) && (decide (cellAt b1 (i : Int) 4 = cellAt b1 (i : Int) 4) && (decide (cellAt b1 (i : Int) 5 = cellAt b1 (i : Int) 5) && (decide (cellAt b1 (i : Int) 6 = cellAt b1 (i : Int) 6) && (decide (cellAt b1 (i : Int) 7 = cellAt b1 (i : Int) 7) && (decide (cellAt b1 (i : Int) 8 = cellAt b1 (i : Int) 8) && (decide (cellAt b1 (i : Int) 9 = cellAt b1 (i : Int) 9) && (decide (cellAt b1 (i : Int) 10 = cellAt b1 (i : Int) 10) && (decide (cellAt b1 (i : Int) 11 = cellAt b1 (i : Int) 11) && (decide (cellAt b1 (i : Int) 12 = cellAt b1 (i : Int) 12) && (decide (cellAt b1 (i : Int) 13 = cellAt b1 (i : Int) 13) && (decide (cellAt b1 (i : Int) 14 = cellAt b1 (i : Int) 14) && (decide (cellAt b1 (i : Int) 15 = cellAt b1 (i : Int) 15)))))))))))))))))) = true := g
          simp at g
        · refine h_needR ((i : Int) + 1) rfl (by unfold ok64; omega) (h_again ⟨⟨i + 1, _, _, _, _, _, rfl, by omega⟩, ?_⟩)
          show ((b1.length : Int) - ((i : Int) + 1)).toNat < ((b1.length : Int) - (i : Int)).toNat
          omega
      · have hc : decide ((i : Int) < (b1.length : Int)) = false := hc
        simp only [Env.sets, Env.set, BE.den, IE.den, DE.den, DV.int, DV.bool, DV.list, LOp.den, List.map_cons, List.map_nil, Nat.reduceEqDiff, ↓reduceIte, reduceCtorEq, Bool.and_eq_true, Bool.or_eq_true, Bool.not_eq_true', Bool.not_eq_false', Bool.and_eq_false_iff, Bool.or_eq_false_iff, decide_eq_true_eq, decide_eq_false_iff_not] at hc
        rfl
  · cases hp
theorem ok7 : ContractOk Try.prog 7 c7 := by
  refine contract_of (Γ := knownOf []) known_nil Try.func7 rfl rfl is7 fun ds hk hp => ?_
  split at hp
  · skip
    rename_i m a b
    refine retB (P := a.length ≤ 12 ∧ b.length ≤ 12) ?_
    simp only [Env.sets, Env.set, BE.den, IE.den, DE.den, DV.int, DV.bool, DV.list, LOp.den, List.map_cons, List.map_nil, Nat.reduceEqDiff, ↓reduceIte, reduceCtorEq, Bool.and_eq_true, Bool.or_eq_true, Bool.not_eq_true', Bool.not_eq_false', Bool.and_eq_false_iff, Bool.or_eq_false_iff, decide_eq_true_eq, decide_eq_false_iff_not]
    omega
  · cases hp
def c8 : Contract := CFn sg8 (fun | [] => True | _ => False) (fun | [] => [.b true] | _ => [])
theorem unit_right : rightP unitL := by decide
theorem new_right : rightS 0 [unitL] [unitL] := by decide
theorem push_right : rightS 0 [unitL, unitL] [unitL] := by decide
theorem new_pop : popF 0 [unitL] [unitL] = badS 7 := by unfold popF; rw [if_pos new_right, if_pos (by decide)]
theorem new_push : pushF 0 [unitL] [unitL] = [.i 0, .l [unitL, unitL], .l [unitL], .i 0] := by unfold pushF; rw [if_pos new_right, if_neg (by decide), if_pos rfl]; rfl
theorem ok8 : ContractOk Try.prog 8 c8 := by
  refine contract_of (Γ := knownOf [(24, cNew sg24), (12, cPop sg12), (9, cPush sg9), (22, cRightS sg22)]) (known_cons ok24 rfl (known_cons ok12 rfl (known_cons ok9 rfl (known_cons ok22 rfl known_nil)))) Try.func8 rfl rfl is8 fun ds hk hp => ?_
  split at hp
  · skip
    refine h_call (c := cNew sg24) rfl trivial fun rs hk hr => ?_
    have hr : rs = [.i 0, .l [unitL], .l [unitL]] := hr
    subst hr
    refine h_call (c := cPop sg12) rfl trivial fun rs hk hr => ?_
    have hr : rs = popF 0 [unitL] [unitL] := hr
    rw [new_pop] at hr
    have hr : rs = [.i 0, .l [], .l [], .i 7] := hr
    subst hr
    refine h_call (c := cNew sg24) rfl trivial fun rs hk hr => ?_
    have hr : rs = [.i 0, .l [unitL], .l [unitL]] := hr
    subst hr
    refine h_call (c := cPush sg9) rfl trivial fun rs hk hr => ?_
    have hr : rs = pushF 0 [unitL] [unitL] := hr
    rw [new_push] at hr
    subst hr
    refine h_cally (c := cRightS sg22) rfl rfl trivial fun rs hk hr => ?_
    have hr : rs = [.b (decide (rightS 0 [unitL, unitL] [unitL]))] := hr
    rw [decide_eq_true push_right] at hr
    subst hr
    rfl
  · cases hp
end Go.Proofs.Ytnpmcfjagijkgaa.Fns

/- Layer 19: the law DotCounts, as a function. -/
import Derived.Test.YtkoacdplkanhhaaLaws3
set_option linter.unusedVariables false
set_option linter.unusedSimpArgs false
set_option maxRecDepth 10000
namespace Go.Proofs.Ytkoacdplkanhhaa.Fns
open Go.Sx Go.Proofs.Ytkoacdplkanhhaa.Trees

theorem has_true {a b c d x y : Int} (h : rightP a b c d) (h1 : a ≤ x) (h2 : x < c) (h3 : b ≤ y) (h4 : y < d) : hasB a b c d x y = true := by
  unfold hasB rightB
  rw [decide_eq_true h, decide_eq_true h1, decide_eq_true h2, decide_eq_true h3, decide_eq_true h4]
  rfl
theorem square_cells {X Y Z p q r s a b K : Int} {w i : Nat} {L : List (List Int)} (hL : L = gridN (g0 X Y Z p q r s w K) a w b w) (hw : 0 < w) (hi : i < w * w) :
    cellAt L i 0 = a + ((i % w : Nat) : Int) ∧ cellAt L i 1 = b + ((i / w : Nat) : Int) ∧ cellAt L i 7 = 64 ∧ i % w < w ∧ i / w < w := by
  have get : ∀ (n : Nat), cellAt L (i : Int) n = (g0 X Y Z p q r s w K (a + ((i % w : Nat) : Int)) (b + ((i / w : Nat) : Int))).getD n 0 := fun n => by
    rw [hL]; exact cell_get (gridN_get hi)
  rw [get 0, get 1, get 7]
  exact ⟨rfl, rfl, rfl, Nat.mod_lt _ hw, Nat.div_lt_of_lt_mul hi⟩
theorem round_cells {X Y Z p q r s S : Int} {i : Nat} {L : List (List Int)} (hL : ∀ row ∈ L, ∃ x y, ((firstI X S - 2 ≤ x ∧ x < firstI X S + S + 2) ∧ (firstI Y S - 2 ≤ y ∧ y < firstI Y S + S + 2)) ∧ row = g1 X Y Z p q r s S x y ∧ 0 < cov X Y (S * 128 * (S * 128)) x y) (hi : i < L.length) :
    (firstI X S - 2 ≤ cellAt L i 0 ∧ cellAt L i 0 < firstI X S + S + 2) ∧ (firstI Y S - 2 ≤ cellAt L i 1 ∧ cellAt L i 1 < firstI Y S + S + 2) ∧ (1 ≤ cellAt L i 7 ∧ cellAt L i 7 ≤ 64) ∧ cellAt L i 3 = p ∧ cellAt L i 4 = q ∧ cellAt L i 5 = r ∧ cellAt L i 6 = s ∧ cellAt L i 2 = Z := by
  have hg : L[i]? = some L[i] := List.getElem?_eq_getElem hi
  obtain ⟨x, y, ⟨hx, hy⟩, he, hc⟩ := hL L[i] (List.getElem_mem hi)
  have get : ∀ (n : Nat), cellAt L (i : Int) n = (g1 X Y Z p q r s S x y).getD n 0 := fun n => by
    rw [cell_get hg, he]
  have hcov := cov_01 (X := X) (Y := Y) (Q := S * 128 * (S * 128)) (x := x) (y := y)
  rw [get 0, get 1, get 2, get 3, get 4, get 5, get 6, get 7]
  exact ⟨hx, hy, ⟨show 1 ≤ cov X Y (S * 128 * (S * 128)) x y by omega, hcov.2⟩, rfl, rfl, rfl, rfl, rfl⟩
theorem first_bd {u S : Int} (h : -268435456 ≤ u ∧ u ≤ 268435456) (s1 : 1 ≤ S) (s2 : S ≤ 64) : -2000000 ≤ firstI u S ∧ firstI u S ≤ 2000000 := by
  unfold firstI; omega
def c4 : Contract := CFn sg4 (fun | [.i X, .i Y, .i Z, .i p, .i q, .i r, .i s, .i S] => (in64 X ∧ in64 Y ∧ in64 Z ∧ in64 p ∧ in64 q ∧ in64 r ∧ in64 s) ∧ in64 S | _ => False) (fun _ => [.b true])
theorem ok4 : ContractOk Try.prog 4 c4 := by
  refine contract_of (Γ := knownOf [(8, c8), (10, cRightD sg10), (11, cBox sg11), (14, c14), (16, c16), (17, cHas sg17)]) (known_cons ok8 rfl (known_cons ok10 rfl (known_cons ok11 rfl (known_cons ok14 rfl (known_cons ok16 rfl (known_cons ok17 rfl known_nil)))))) Try.func4 rfl rfl is4 fun ds hk hp => ?_
  split at hp
  · skip
    rename_i X Y Z p q r s S
    refine h_call (c := cRightD sg10) rfl (show (in64 X ∧ in64 Y ∧ in64 Z ∧ in64 p ∧ in64 q ∧ in64 r ∧ in64 s) ∧ in64 S ∧ in64 0 from ⟨hp.1, hp.2, by unfold in64; omega⟩) fun rs hk hr => ?_
    have hr : rs = [.b (decide (rightD X Y Z p q r s S 0))] := hr
    subst hr
    refine h_ite (fun g => ?_) (fun g => ?_)
    · have g : (!decide (rightD X Y Z p q r s S 0)) = true := g
      rw [Bool.not_eq_true', decide_eq_false_iff_not] at g
      refine h_call (c := c8) rfl trivial fun rs hk hr => ?_
      have hr : rs = [.b true] := hr
      subst hr
      refine h_cally (c := c14) rfl rfl (show (in64 X ∧ in64 Y ∧ in64 Z ∧ in64 p ∧ in64 q ∧ in64 r ∧ in64 s) ∧ in64 S ∧ in64 0 from ⟨hp.1, hp.2, by unfold in64; omega⟩) fun rs hk hr => ?_
      have hr : rs = [.l (pointL X Y Z p q r s S 0 0 0 9 9)] := hr
      unfold pointL at hr
      rw [if_neg (fun h => g h.1)] at hr
      subst hr
      rfl
    have g : (!decide (rightD X Y Z p q r s S 0)) = false := g
    rw [Bool.not_eq_false', decide_eq_true_eq] at g
    have hsz := g.1
    obtain ⟨⟨_, x12, y12, _⟩, s1, s2⟩ := id hsz
    refine h_call (c := c16) rfl hsz fun rs hk hr => ?_
    have hr : rs = [.i (X.tdiv 256 - S - 2), .i (Y.tdiv 256 - S - 2), .i (X.tdiv 256 + S + 3), .i (Y.tdiv 256 + S + 3)] := hr
    subst hr
    obtain ⟨w, hw⟩ : ∃ w : Nat, S = (w : Int) := ⟨S.toNat, by omega⟩
    obtain ⟨fx1, fx2⟩ := first_bd x12 s1 s2
    obtain ⟨fy1, fy2⟩ := first_bd y12 s1 s2
    obtain ⟨hB, hB0, hBl⟩ := round_whole hsz
    have hA := square_whole (K := 0) hsz (.inl rfl)
    have hC := square_whole (K := 2) hsz (.inr rfl)
    subst hw
    rw [Int.toNat_natCast] at hA hC
    refine h_call (c := c14) rfl (show (in64 X ∧ in64 Y ∧ in64 Z ∧ in64 p ∧ in64 q ∧ in64 r ∧ in64 s) ∧ in64 w ∧ in64 0 from ⟨hp.1, hp.2, by unfold in64; omega⟩) fun rs hk hr => ?_
    have hr : rs = [.l (pointL X Y Z p q r s w 0 (X.tdiv 256 - w - 2) (Y.tdiv 256 - w - 2) (X.tdiv 256 + w + 3) (Y.tdiv 256 + w + 3))] := hr
    rw [hA] at hr
    obtain ⟨A, hAe⟩ : ∃ L, L = gridN (g0 X Y Z p q r s w 0) (firstI X w) w (firstI Y w) w := ⟨_, rfl⟩
    rw [← hAe] at hr
    subst hr
    refine h_call (c := c14) rfl (show (in64 X ∧ in64 Y ∧ in64 Z ∧ in64 p ∧ in64 q ∧ in64 r ∧ in64 s) ∧ in64 w ∧ in64 1 from ⟨hp.1, hp.2, by unfold in64; omega⟩) fun rs hk hr => ?_
    have hr : rs = [.l (pointL X Y Z p q r s w 1 (X.tdiv 256 - w - 2) (Y.tdiv 256 - w - 2) (X.tdiv 256 + w + 3) (Y.tdiv 256 + w + 3))] := hr
    obtain ⟨B, hBe⟩ : ∃ L, L = pointL X Y Z p q r s w 1 (X.tdiv 256 - w - 2) (Y.tdiv 256 - w - 2) (X.tdiv 256 + w + 3) (Y.tdiv 256 + w + 3) := ⟨_, rfl⟩
    rw [← hBe] at hr hB hB0 hBl
    subst hr
    refine h_call (c := c14) rfl (show (in64 X ∧ in64 Y ∧ in64 Z ∧ in64 p ∧ in64 q ∧ in64 r ∧ in64 s) ∧ in64 w ∧ in64 2 from ⟨hp.1, hp.2, by unfold in64; omega⟩) fun rs hk hr => ?_
    have hr : rs = [.l (pointL X Y Z p q r s w 2 (X.tdiv 256 - w - 2) (Y.tdiv 256 - w - 2) (X.tdiv 256 + w + 3) (Y.tdiv 256 + w + 3))] := hr
    rw [hC] at hr
    obtain ⟨C, hCe⟩ : ∃ L, L = gridN (g0 X Y Z p q r s w 2) (firstI X w) w (firstI Y w) w := ⟨_, rfl⟩
    rw [← hCe] at hr
    subst hr
    clear hA hC hBe
    refine h_call (c := cBox sg11) rfl (show _ ∧ _ from ⟨hp.1, hp.2⟩) fun rs hk hr => ?_
    have hr : rs = boxL X Y Z p q r s w := hr
    unfold boxL at hr
    rw [if_pos hsz] at hr
    subst hr
    have hlA : A.length = w * w := by rw [hAe, gridN_len]
    have hlC : C.length = w * w := by rw [hCe, gridN_len]
    have hww : w * w ≤ 64 * 64 := Nat.mul_le_mul (by omega) (by omega)
    have hcast : ((w * w : Nat) : Int) = (w : Int) * (w : Int) := Int.natCast_mul _ _
    have hw2 := mul_bd (a := (w : Int) + 2) (b := (w : Int) + 2) (A := 66) (B := 66) (by omega) (by omega) (by omega) (by omega)
    refine h_needR ((w : Int) * (w : Int)) rfl (by omega) ?_
    refine h_need (by simp only [Env.sets, Env.set, BE.den, IE.den, DE.den, DV.int, DV.bool, DV.list, LOp.den, List.map_cons, List.map_nil, Nat.reduceEqDiff, ↓reduceIte, reduceCtorEq, Bool.and_eq_true, Bool.or_eq_true, Bool.not_eq_true', Bool.not_eq_false', Bool.and_eq_false_iff, Bool.or_eq_false_iff, decide_eq_true_eq, decide_eq_false_iff_not, Bool.not_true, Bool.true_eq_false, false_or, or_false, not_true_eq_false]; omega) ?_
    refine h_need (by simp only [Env.sets, Env.set, BE.den, IE.den, DE.den, DV.int, DV.bool, DV.list, LOp.den, List.map_cons, List.map_nil, Nat.reduceEqDiff, ↓reduceIte, reduceCtorEq, Bool.and_eq_true, Bool.or_eq_true, Bool.not_eq_true', Bool.not_eq_false', Bool.and_eq_false_iff, Bool.or_eq_false_iff, decide_eq_true_eq, decide_eq_false_iff_not, Bool.not_true, Bool.true_eq_false, false_or, or_false, not_true_eq_false]; omega) ?_
    refine h_ite (fun h => ?_) (fun _ => ?_)
    · exfalso
      simp only [Env.sets, Env.set, BE.den, IE.den, DE.den, DV.int, DV.bool, DV.list, LOp.den, List.map_cons, List.map_nil, Nat.reduceEqDiff, ↓reduceIte, reduceCtorEq, Bool.and_eq_true, Bool.or_eq_true, Bool.not_eq_true', Bool.not_eq_false', Bool.and_eq_false_iff, Bool.or_eq_false_iff, decide_eq_true_eq, decide_eq_false_iff_not] at h
      omega
    refine h_loop (fun ds => ∃ i : Nat, ds = [.b false, .i i] ∧ i ≤ A.length) (fun | [_, .i i] => ((A.length : Int) - i).toNat | _ => 0) ⟨0, rfl, by omega⟩ ?_
    intro ds _ ⟨i, hds, hi⟩
    subst hds
    refine h_ite (fun hc => ?_) (fun _ => ?_)
    · have hc : decide ((i : Int) < (A.length : Int)) = true := hc
      rw [decide_eq_true_eq] at hc
      obtain ⟨a0, a1, a7, m1, m2⟩ := square_cells (i := i) hAe (by omega) (by omega)
      obtain ⟨c0, c1, c7, _, _⟩ := square_cells (i := i) hCe (by omega) (by omega)
      generalize i % w = mm at a0 c0 m1
      generalize i / w = nn at a1 c1 m2
      refine h_need (decide_eq_true (show (0 : Int) ≤ (i : Int) by omega)) ?_
      refine h_call (c := cHas sg17) rfl trivial fun rs hk hr => ?_
      have hr : rs = [.b (hasB (firstI X w) (firstI Y w) (firstI X w + w) (firstI Y w + w) (cellAt A i 0) (cellAt A i 1))] := hr
      rw [has_true (by unfold rightP; omega) (by omega) (by omega) (by omega) (by omega)] at hr
      subst hr
      refine h_need (by simp only [Env.sets, Env.set, BE.den, IE.den, DE.den, DV.int, DV.bool, DV.list, LOp.den, List.map_cons, List.map_nil, Nat.reduceEqDiff, ↓reduceIte, reduceCtorEq, Bool.and_eq_true, Bool.or_eq_true, Bool.not_eq_true', Bool.not_eq_false', Bool.and_eq_false_iff, Bool.or_eq_false_iff, decide_eq_true_eq, decide_eq_false_iff_not, Bool.not_true, Bool.true_eq_false, false_or, or_false, not_true_eq_false]; omega) ?_
      refine h_need (by simp only [Env.sets, Env.set, BE.den, IE.den, DE.den, DV.int, DV.bool, DV.list, LOp.den, List.map_cons, List.map_nil, Nat.reduceEqDiff, ↓reduceIte, reduceCtorEq, Bool.and_eq_true, Bool.or_eq_true, Bool.not_eq_true', Bool.not_eq_false', Bool.and_eq_false_iff, Bool.or_eq_false_iff, decide_eq_true_eq, decide_eq_false_iff_not, Bool.not_true, Bool.true_eq_false, false_or, or_false, not_true_eq_false]; omega) ?_
      refine h_need (by simp only [Env.sets, Env.set, BE.den, IE.den, DE.den, DV.int, DV.bool, DV.list, LOp.den, List.map_cons, List.map_nil, Nat.reduceEqDiff, ↓reduceIte, reduceCtorEq, Bool.and_eq_true, Bool.or_eq_true, Bool.not_eq_true', Bool.not_eq_false', Bool.and_eq_false_iff, Bool.or_eq_false_iff, decide_eq_true_eq, decide_eq_false_iff_not, Bool.not_true, Bool.true_eq_false, false_or, or_false, not_true_eq_false]; omega) ?_
      refine h_need (by simp only [Env.sets, Env.set, BE.den, IE.den, DE.den, DV.int, DV.bool, DV.list, LOp.den, List.map_cons, List.map_nil, Nat.reduceEqDiff, ↓reduceIte, reduceCtorEq, Bool.and_eq_true, Bool.or_eq_true, Bool.not_eq_true', Bool.not_eq_false', Bool.and_eq_false_iff, Bool.or_eq_false_iff, decide_eq_true_eq, decide_eq_false_iff_not, Bool.not_true, Bool.true_eq_false, false_or, or_false, not_true_eq_false]; omega) ?_
      refine h_need (by simp only [Env.sets, Env.set, BE.den, IE.den, DE.den, DV.int, DV.bool, DV.list, LOp.den, List.map_cons, List.map_nil, Nat.reduceEqDiff, ↓reduceIte, reduceCtorEq, Bool.and_eq_true, Bool.or_eq_true, Bool.not_eq_true', Bool.not_eq_false', Bool.and_eq_false_iff, Bool.or_eq_false_iff, decide_eq_true_eq, decide_eq_false_iff_not, Bool.not_true, Bool.true_eq_false, false_or, or_false, not_true_eq_false]; omega) ?_
      refine h_need (by simp only [Env.sets, Env.set, BE.den, IE.den, DE.den, DV.int, DV.bool, DV.list, LOp.den, List.map_cons, List.map_nil, Nat.reduceEqDiff, ↓reduceIte, reduceCtorEq, Bool.and_eq_true, Bool.or_eq_true, Bool.not_eq_true', Bool.not_eq_false', Bool.and_eq_false_iff, Bool.or_eq_false_iff, decide_eq_true_eq, decide_eq_false_iff_not, Bool.not_true, Bool.true_eq_false, false_or, or_false, not_true_eq_false]; omega) ?_
      refine h_need (by simp only [Env.sets, Env.set, BE.den, IE.den, DE.den, DV.int, DV.bool, DV.list, LOp.den, List.map_cons, List.map_nil, Nat.reduceEqDiff, ↓reduceIte, reduceCtorEq, Bool.and_eq_true, Bool.or_eq_true, Bool.not_eq_true', Bool.not_eq_false', Bool.and_eq_false_iff, Bool.or_eq_false_iff, decide_eq_true_eq, decide_eq_false_iff_not, Bool.not_true, Bool.true_eq_false, false_or, or_false, not_true_eq_false]; omega) ?_
      refine h_need (by simp only [Env.sets, Env.set, BE.den, IE.den, DE.den, DV.int, DV.bool, DV.list, LOp.den, List.map_cons, List.map_nil, Nat.reduceEqDiff, ↓reduceIte, reduceCtorEq, Bool.and_eq_true, Bool.or_eq_true, Bool.not_eq_true', Bool.not_eq_false', Bool.and_eq_false_iff, Bool.or_eq_false_iff, decide_eq_true_eq, decide_eq_false_iff_not, Bool.not_true, Bool.true_eq_false, false_or, or_false, not_true_eq_false]; omega) ?_
      refine h_need (by simp only [Env.sets, Env.set, BE.den, IE.den, DE.den, DV.int, DV.bool, DV.list, LOp.den, List.map_cons, List.map_nil, Nat.reduceEqDiff, ↓reduceIte, reduceCtorEq, Bool.and_eq_true, Bool.or_eq_true, Bool.not_eq_true', Bool.not_eq_false', Bool.and_eq_false_iff, Bool.or_eq_false_iff, decide_eq_true_eq, decide_eq_false_iff_not, Bool.not_true, Bool.true_eq_false, false_or, or_false, not_true_eq_false]; omega) ?_
      refine h_need (by simp only [Env.sets, Env.set, BE.den, IE.den, DE.den, DV.int, DV.bool, DV.list, LOp.den, List.map_cons, List.map_nil, Nat.reduceEqDiff, ↓reduceIte, reduceCtorEq, Bool.and_eq_true, Bool.or_eq_true, Bool.not_eq_true', Bool.not_eq_false', Bool.and_eq_false_iff, Bool.or_eq_false_iff, decide_eq_true_eq, decide_eq_false_iff_not, Bool.not_true, Bool.true_eq_false, false_or, or_false, not_true_eq_false]; omega) ?_
      refine h_ite (fun h => ?_) (fun _ => ?_)
      · exfalso
        simp only [Env.sets, Env.set, BE.den, IE.den, DE.den, DV.int, DV.bool, DV.list, LOp.den, List.map_cons, List.map_nil, Nat.reduceEqDiff, ↓reduceIte, reduceCtorEq, Bool.and_eq_true, Bool.or_eq_true, Bool.not_eq_true', Bool.not_eq_false', Bool.and_eq_false_iff, Bool.or_eq_false_iff, decide_eq_true_eq, decide_eq_false_iff_not, Bool.not_true, Bool.true_eq_false, false_or, or_false, not_true_eq_false] at h
        omega
      refine h_needR ((i : Int) + 1) rfl (by omega) (h_again ⟨⟨i + 1, rfl, by omega⟩, ?_⟩)
      show ((A.length : Int) - ((i : Int) + 1)).toNat < ((A.length : Int) - (i : Int)).toNat
      omega
    refine h_needR (firstI X w - 2) rfl (by omega) ?_
    refine h_needR (firstI Y w - 2) rfl (by omega) ?_
    refine h_needR (firstI X w + w + 2) rfl (by omega) ?_
    refine h_needR (firstI Y w + w + 2) rfl (by omega) ?_
    refine h_loop (fun ds => ∃ i : Nat, ds = [.b false, .i i] ∧ i ≤ B.length) (fun | [_, .i i] => ((B.length : Int) - i).toNat | _ => 0) ⟨0, rfl, by omega⟩ ?_
    intro ds _ ⟨i, hds, hi⟩
    subst hds
    refine h_ite (fun hc => ?_) (fun _ => ?_)
    · have hc : decide ((i : Int) < (B.length : Int)) = true := hc
      rw [decide_eq_true_eq] at hc
      obtain ⟨⟨b0, b0'⟩, ⟨b1, b1'⟩, ⟨b7, b7'⟩, b3, b4, b5, b6, b2⟩ := round_cells (i := i) hB (by omega)
      refine h_need (decide_eq_true (show (0 : Int) ≤ (i : Int) by omega)) ?_
      refine h_call (c := cHas sg17) rfl trivial fun rs hk hr => ?_
      have hr : rs = [.b (hasB (firstI X w - 2) (firstI Y w - 2) (firstI X w + w + 2) (firstI Y w + w + 2) (cellAt B i 0) (cellAt B i 1))] := hr
      rw [has_true (by unfold rightP; omega) (by omega) (by omega) (by omega) (by omega)] at hr
      subst hr
      refine h_need (by simp only [Env.sets, Env.set, BE.den, IE.den, DE.den, DV.int, DV.bool, DV.list, LOp.den, List.map_cons, List.map_nil, Nat.reduceEqDiff, ↓reduceIte, reduceCtorEq, Bool.and_eq_true, Bool.or_eq_true, Bool.not_eq_true', Bool.not_eq_false', Bool.and_eq_false_iff, Bool.or_eq_false_iff, decide_eq_true_eq, decide_eq_false_iff_not, Bool.not_true, Bool.true_eq_false, false_or, or_false, not_true_eq_false]; omega) ?_
      refine h_need (by simp only [Env.sets, Env.set, BE.den, IE.den, DE.den, DV.int, DV.bool, DV.list, LOp.den, List.map_cons, List.map_nil, Nat.reduceEqDiff, ↓reduceIte, reduceCtorEq, Bool.and_eq_true, Bool.or_eq_true, Bool.not_eq_true', Bool.not_eq_false', Bool.and_eq_false_iff, Bool.or_eq_false_iff, decide_eq_true_eq, decide_eq_false_iff_not, Bool.not_true, Bool.true_eq_false, false_or, or_false, not_true_eq_false]; omega) ?_
      refine h_need (by simp only [Env.sets, Env.set, BE.den, IE.den, DE.den, DV.int, DV.bool, DV.list, LOp.den, List.map_cons, List.map_nil, Nat.reduceEqDiff, ↓reduceIte, reduceCtorEq, Bool.and_eq_true, Bool.or_eq_true, Bool.not_eq_true', Bool.not_eq_false', Bool.and_eq_false_iff, Bool.or_eq_false_iff, decide_eq_true_eq, decide_eq_false_iff_not, Bool.not_true, Bool.true_eq_false, false_or, or_false, not_true_eq_false]; omega) ?_
      refine h_need (by simp only [Env.sets, Env.set, BE.den, IE.den, DE.den, DV.int, DV.bool, DV.list, LOp.den, List.map_cons, List.map_nil, Nat.reduceEqDiff, ↓reduceIte, reduceCtorEq, Bool.and_eq_true, Bool.or_eq_true, Bool.not_eq_true', Bool.not_eq_false', Bool.and_eq_false_iff, Bool.or_eq_false_iff, decide_eq_true_eq, decide_eq_false_iff_not, Bool.not_true, Bool.true_eq_false, false_or, or_false, not_true_eq_false]; omega) ?_
      refine h_need (by simp only [Env.sets, Env.set, BE.den, IE.den, DE.den, DV.int, DV.bool, DV.list, LOp.den, List.map_cons, List.map_nil, Nat.reduceEqDiff, ↓reduceIte, reduceCtorEq, Bool.and_eq_true, Bool.or_eq_true, Bool.not_eq_true', Bool.not_eq_false', Bool.and_eq_false_iff, Bool.or_eq_false_iff, decide_eq_true_eq, decide_eq_false_iff_not, Bool.not_true, Bool.true_eq_false, false_or, or_false, not_true_eq_false]; omega) ?_
      refine h_need (by simp only [Env.sets, Env.set, BE.den, IE.den, DE.den, DV.int, DV.bool, DV.list, LOp.den, List.map_cons, List.map_nil, Nat.reduceEqDiff, ↓reduceIte, reduceCtorEq, Bool.and_eq_true, Bool.or_eq_true, Bool.not_eq_true', Bool.not_eq_false', Bool.and_eq_false_iff, Bool.or_eq_false_iff, decide_eq_true_eq, decide_eq_false_iff_not, Bool.not_true, Bool.true_eq_false, false_or, or_false, not_true_eq_false]; omega) ?_
      refine h_need (by simp only [Env.sets, Env.set, BE.den, IE.den, DE.den, DV.int, DV.bool, DV.list, LOp.den, List.map_cons, List.map_nil, Nat.reduceEqDiff, ↓reduceIte, reduceCtorEq, Bool.and_eq_true, Bool.or_eq_true, Bool.not_eq_true', Bool.not_eq_false', Bool.and_eq_false_iff, Bool.or_eq_false_iff, decide_eq_true_eq, decide_eq_false_iff_not, Bool.not_true, Bool.true_eq_false, false_or, or_false, not_true_eq_false]; omega) ?_
      refine h_need (by simp only [Env.sets, Env.set, BE.den, IE.den, DE.den, DV.int, DV.bool, DV.list, LOp.den, List.map_cons, List.map_nil, Nat.reduceEqDiff, ↓reduceIte, reduceCtorEq, Bool.and_eq_true, Bool.or_eq_true, Bool.not_eq_true', Bool.not_eq_false', Bool.and_eq_false_iff, Bool.or_eq_false_iff, decide_eq_true_eq, decide_eq_false_iff_not, Bool.not_true, Bool.true_eq_false, false_or, or_false, not_true_eq_false]; omega) ?_
      refine h_ite (fun h => ?_) (fun _ => ?_)
      · exfalso
        simp only [Env.sets, Env.set, BE.den, IE.den, DE.den, DV.int, DV.bool, DV.list, LOp.den, List.map_cons, List.map_nil, Nat.reduceEqDiff, ↓reduceIte, reduceCtorEq, Bool.and_eq_true, Bool.or_eq_true, Bool.not_eq_true', Bool.not_eq_false', Bool.and_eq_false_iff, Bool.or_eq_false_iff, decide_eq_true_eq, decide_eq_false_iff_not, Bool.not_true, Bool.true_eq_false, false_or, or_false, not_true_eq_false] at h
        omega
      refine h_needR ((i : Int) + 1) rfl (by omega) (h_again ⟨⟨i + 1, rfl, by omega⟩, ?_⟩)
      show ((B.length : Int) - ((i : Int) + 1)).toNat < ((B.length : Int) - (i : Int)).toNat
      omega
    refine h_call (c := c8) rfl trivial fun rs hk hr => ?_
    have hr : rs = [.b true] := hr
    subst hr
    rfl
  · cases hp
theorem pre4 (dvs : List DV) (hh : dvsIn (cts sg4.args) dvs) : c4.pre dvs := by
  simp only [sg4, cts, List.flatMap_cons, List.flatMap_nil, VT.cts, List.append_nil, List.cons_append, List.nil_append] at hh
  match dvs, hh with
  | [.i X, .i Y, .i Z, .i p, .i q, .i r, .i s, .i S], hh => obtain ⟨h0, h1, h2, h3, h4, h5, h6, h7, _⟩ := hh; exact ⟨⟨h0, h1, h2, h3, h4, h5, h6⟩, h7⟩

end Go.Proofs.Ytkoacdplkanhhaa.Fns

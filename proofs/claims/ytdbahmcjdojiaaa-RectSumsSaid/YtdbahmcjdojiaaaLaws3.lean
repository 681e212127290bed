/- Layer 12: the laws RectOnce and RectSums, as functions. -/
import Derived.Test.YtdbahmcjdojiaaaOnce
set_option linter.unusedVariables false
set_option linter.unusedSimpArgs false
set_option maxRecDepth 10000
namespace Go.Proofs.Ytdbahmcjdojiaaa.Fns
open Go.Sx Go.Proofs.Ytdbahmcjdojiaaa.Trees

theorem cnt_step {px py : Int} {l : List (List Int)} {i : Nat} (h : i < l.length) : cnt px py (l.take (i + 1)) = cnt px py (l.take i) + if hasR px py (l.getD i []) then 1 else 0 := by
  rw [List.take_succ_eq_append_getElem h]
  have e : l.getD i [] = l[i] := by simp [List.getD, List.getElem?_eq_getElem h]
  rw [e]
  unfold cnt
  rw [List.countP_append, List.countP_cons, List.countP_nil]
  omega
theorem cnt_len (px py : Int) (l : List (List Int)) : cnt px py l ≤ l.length := List.countP_le_length
theorem areas_step {l : List (List Int)} {i : Nat} (h : i < l.length) : areas (l.take (i + 1)) = areas (l.take i) + areaRow (l.getD i []) := by
  rw [List.take_succ_eq_append_getElem h, areas_append]
  have e : l.getD i [] = l[i] := by simp [List.getD, List.getElem?_eq_getElem h]
  rw [e]
  simp [areas]
theorem area_bd (a b c d : Int) : 0 ≤ areaR a b c d ∧ areaR a b c d ≤ 70368744177664 := by
  unfold areaR
  by_cases h : rightB a b c d = true
  · rw [if_pos h]
    have h' : rightP a b c d := by simpa [rightB] using h
    unfold rightP at h'
    have e1 := mul_bd (a := c - a) (b := d - b) (A := 8388608) (B := 8388608) (by omega) (by omega) (by omega) (by omega)
    have e2 : 0 ≤ (c - a) * (d - b) := Int.mul_nonneg (by omega) (by omega)
    omega
  · rw [if_neg h]; omega
theorem areas_bd (l : List (List Int)) : 0 ≤ areas l ∧ areas l ≤ 70368744177664 * l.length := by
  induction l with
  | nil => simp [areas]
  | cons r l ih =>
    have := area_bd (r.getD 0 0) (r.getD 1 0) (r.getD 2 0) (r.getD 3 0)
    simp only [areas, areaRow, List.length_cons]
    omega

theorem h_letE {Γ : Known} {R : List DV → Prop} {env : Env} {F : Nat → List DV → Prop} {t : Tree} {id : Nat} {op : LOp} {M : List (List Int)} (e : op.den env = M) (ht : t.holds Γ R (env.set id (.l M)) F) : (Tree.ev (.letl id op) t).holds Γ R env F := by
  subst e; exact ht
def c4 : Contract := CFn sg4 (fun | [.i a, .i b, .i c, .i d, .i e, .i f, .i g, .i h, .i x, .i y, .i px, .i py] => True | _ => False) (fun _ => [.b true])
theorem ok4 : ContractOk Try.prog 4 c4 := by
  refine contract_of (Γ := knownOf [(15, cHas sg15), (13, cParts sg13), (8, cAnd sg8), (11, cMinus sg11), (7, c7)]) (known_cons ok15 rfl (known_cons ok13 rfl (known_cons ok8 rfl (known_cons ok11 rfl (known_cons ok7 rfl known_nil))))) Try.func4 rfl rfl is4 fun ds hk hp => ?_
  split at hp
  · rename_i a b c d e f g h x y px py
    obtain ⟨p, hp⟩ : ∃ p, andX a b c d e f g h = p := ⟨_, rfl⟩
    refine h_call (c := cHas sg15) rfl trivial fun rs hk hr => ?_
    have hr : rs = [.b (hasB a b c d px py)] := hr
    subst hr
    refine h_ite (fun hw => ?_) (fun hw => ?_)
    · have hw : hasB a b c d px py = true := hw
      refine h_call (c := cParts sg13) rfl trivial fun rs hk hr => ?_
      have hr : rs = [.l (partsL a b c d x y)] := hr
      subst hr
      have hpl := parts_len a b c d x y
      have hcp := cnt_parts a b c d x y px py
      have hcm := cnt_minus a b c d e f g h px py p hp
      rw [if_pos hw] at hcp hcm
      refine h_loop (fun ds => ∃ i : Nat, ds = [.i (cnt px py ((partsL a b c d x y).take i) : Nat), .i i] ∧ i ≤ (partsL a b c d x y).length) (fun | [_, .i i] => (((partsL a b c d x y).length : Int) - i).toNat | _ => 0) ⟨0, by simp [DE.den, IE.den, cnt], by omega⟩ ?_
      intro ds _ ⟨i, hds, hi⟩
      subst hds
      have hlen := cnt_len px py ((partsL a b c d x y).take i)
      rw [List.length_take] at hlen
      refine h_ite (fun hc => ?_) (fun hc => ?_)
      · simp only [Env.sets, Env.set, BE.den, IE.den, DE.den, DV.int, DV.bool, DV.list, LOp.den, List.map_cons, List.map_nil, Nat.reduceEqDiff, ↓reduceIte, reduceCtorEq, Bool.and_eq_true, Bool.or_eq_true, Bool.not_eq_true', Bool.not_eq_false', Bool.and_eq_false_iff, Bool.or_eq_false_iff, decide_eq_true_eq, decide_eq_false_iff_not] at hc
        have hlt : i < (partsL a b c d x y).length := by omega
        have hst := cnt_step (px := px) (py := py) hlt
        refine h_need (by simp only [Env.sets, Env.set, BE.den, IE.den, DE.den, DV.int, DV.bool, DV.list, LOp.den, List.map_cons, List.map_nil, Nat.reduceEqDiff, ↓reduceIte, reduceCtorEq, Bool.and_eq_true, Bool.or_eq_true, Bool.not_eq_true', Bool.not_eq_false', Bool.and_eq_false_iff, Bool.or_eq_false_iff, decide_eq_true_eq, decide_eq_false_iff_not]; omega) ?_
        refine h_call (c := cHas sg15) rfl trivial fun rs hk hr => ?_
        have hr : rs = [.b (hasR px py ((partsL a b c d x y).getD i []))] := hr
        subst hr
        refine h_ite (fun hc2 => ?_) (fun hc2 => ?_)
        · have hc2 : hasR px py ((partsL a b c d x y).getD i []) = true := hc2
          rw [if_pos hc2] at hst
          refine h_need (by simp only [Env.sets, Env.set, BE.den, IE.den, DE.den, DV.int, DV.bool, DV.list, LOp.den, List.map_cons, List.map_nil, Nat.reduceEqDiff, ↓reduceIte, reduceCtorEq, Bool.and_eq_true, Bool.or_eq_true, Bool.not_eq_true', Bool.not_eq_false', Bool.and_eq_false_iff, Bool.or_eq_false_iff, decide_eq_true_eq, decide_eq_false_iff_not]; omega) ?_
          refine h_need (by simp only [Env.sets, Env.set, BE.den, IE.den, DE.den, DV.int, DV.bool, DV.list, LOp.den, List.map_cons, List.map_nil, Nat.reduceEqDiff, ↓reduceIte, reduceCtorEq, Bool.and_eq_true, Bool.or_eq_true, Bool.not_eq_true', Bool.not_eq_false', Bool.and_eq_false_iff, Bool.or_eq_false_iff, decide_eq_true_eq, decide_eq_false_iff_not]; omega) ?_
          refine h_again ⟨⟨i + 1, ?_, by omega⟩, ?_⟩
          · rw [hst]
            simp [Env.sets, Env.set, DE.den, IE.den, DV.int]
          · simp only [Env.sets, Env.set, BE.den, IE.den, DE.den, DV.int, DV.bool, DV.list, LOp.den, List.map_cons, List.map_nil, Nat.reduceEqDiff, ↓reduceIte, reduceCtorEq, Bool.and_eq_true, Bool.or_eq_true, Bool.not_eq_true', Bool.not_eq_false', Bool.and_eq_false_iff, Bool.or_eq_false_iff, decide_eq_true_eq, decide_eq_false_iff_not]
            omega
        · have hc2 : hasR px py ((partsL a b c d x y).getD i []) = false := hc2
          rw [if_neg (by rw [hc2]; simp)] at hst
          refine h_need (by simp only [Env.sets, Env.set, BE.den, IE.den, DE.den, DV.int, DV.bool, DV.list, LOp.den, List.map_cons, List.map_nil, Nat.reduceEqDiff, ↓reduceIte, reduceCtorEq, Bool.and_eq_true, Bool.or_eq_true, Bool.not_eq_true', Bool.not_eq_false', Bool.and_eq_false_iff, Bool.or_eq_false_iff, decide_eq_true_eq, decide_eq_false_iff_not]; omega) ?_
          refine h_again ⟨⟨i + 1, ?_, by omega⟩, ?_⟩
          · rw [hst]
            simp [Env.sets, Env.set, DE.den, IE.den, DV.int]
          · simp only [Env.sets, Env.set, BE.den, IE.den, DE.den, DV.int, DV.bool, DV.list, LOp.den, List.map_cons, List.map_nil, Nat.reduceEqDiff, ↓reduceIte, reduceCtorEq, Bool.and_eq_true, Bool.or_eq_true, Bool.not_eq_true', Bool.not_eq_false', Bool.and_eq_false_iff, Bool.or_eq_false_iff, decide_eq_true_eq, decide_eq_false_iff_not]
            omega
      · simp only [Env.sets, Env.set, BE.den, IE.den, DE.den, DV.int, DV.bool, DV.list, LOp.den, List.map_cons, List.map_nil, Nat.reduceEqDiff, ↓reduceIte, reduceCtorEq, Bool.and_eq_true, Bool.or_eq_true, Bool.not_eq_true', Bool.not_eq_false', Bool.and_eq_false_iff, Bool.or_eq_false_iff, decide_eq_true_eq, decide_eq_false_iff_not] at hc
        have hi' : i = (partsL a b c d x y).length := by omega
        subst hi'
        rw [List.take_of_length_le (Nat.le_refl _)]
        rw [hcp]
        refine h_call (c := cAnd sg8) rfl trivial fun rs hk hr => ?_
        have hr : rs = andL a b c d e f g h := hr
        rw [andL_eq, hp] at hr
        subst hr
        refine h_let (h_call (c := cMinus sg11) rfl trivial fun rs hk hr => ?_)
        have hr : rs = [.l (minusL a b c d e f g h)] := hr
        subst hr
        have hml := minus_len a b c d e f g h
        obtain ⟨M, hM, hMl⟩ : ∃ M, [p.1, p.2.1, p.2.2.1, p.2.2.2] :: minusL a b c d e f g h = M ∧ M.length ≤ 5 := ⟨_, rfl, by rw [List.length_cons]; omega⟩
        rw [hM] at hcm
        refine h_letE (M := M) (by rw [← hM]; rfl) (h_need (by simp only [Env.sets, Env.set, BE.den, IE.den, DE.den, DV.int, DV.bool, DV.list, LOp.den, List.map_cons, List.map_nil, Nat.reduceEqDiff, ↓reduceIte, reduceCtorEq, Bool.and_eq_true, Bool.or_eq_true, Bool.not_eq_true', Bool.not_eq_false', Bool.and_eq_false_iff, Bool.or_eq_false_iff, decide_eq_true_eq, decide_eq_false_iff_not, List.length_cons, List.length_nil]; omega) ?_)
        refine h_loop (fun ds => ∃ i : Nat, ds = [.i (cnt px py ((M).take i) : Nat), .i i] ∧ i ≤ (M).length) (fun | [_, .i i] => (((M).length : Int) - i).toNat | _ => 0) ⟨0, by simp [DE.den, IE.den, cnt], by omega⟩ ?_
        intro ds _ ⟨i, hds, hi⟩
        subst hds
        have hlen := cnt_len px py ((M).take i)
        rw [List.length_take] at hlen
        refine h_ite (fun hc => ?_) (fun hc => ?_)
        · simp only [Env.sets, Env.set, BE.den, IE.den, DE.den, DV.int, DV.bool, DV.list, LOp.den, List.map_cons, List.map_nil, Nat.reduceEqDiff, ↓reduceIte, reduceCtorEq, Bool.and_eq_true, Bool.or_eq_true, Bool.not_eq_true', Bool.not_eq_false', Bool.and_eq_false_iff, Bool.or_eq_false_iff, decide_eq_true_eq, decide_eq_false_iff_not] at hc
          have hlt : i < (M).length := by omega
          have hst := cnt_step (px := px) (py := py) hlt
          refine h_need (by simp only [Env.sets, Env.set, BE.den, IE.den, DE.den, DV.int, DV.bool, DV.list, LOp.den, List.map_cons, List.map_nil, Nat.reduceEqDiff, ↓reduceIte, reduceCtorEq, Bool.and_eq_true, Bool.or_eq_true, Bool.not_eq_true', Bool.not_eq_false', Bool.and_eq_false_iff, Bool.or_eq_false_iff, decide_eq_true_eq, decide_eq_false_iff_not]; omega) ?_
          refine h_call (c := cHas sg15) rfl trivial fun rs hk hr => ?_
          have hr : rs = [.b (hasR px py ((M).getD i []))] := hr
          subst hr
          refine h_ite (fun hc2 => ?_) (fun hc2 => ?_)
          · have hc2 : hasR px py ((M).getD i []) = true := hc2
            rw [if_pos hc2] at hst
            refine h_need (by simp only [Env.sets, Env.set, BE.den, IE.den, DE.den, DV.int, DV.bool, DV.list, LOp.den, List.map_cons, List.map_nil, Nat.reduceEqDiff, ↓reduceIte, reduceCtorEq, Bool.and_eq_true, Bool.or_eq_true, Bool.not_eq_true', Bool.not_eq_false', Bool.and_eq_false_iff, Bool.or_eq_false_iff, decide_eq_true_eq, decide_eq_false_iff_not]; omega) ?_
            refine h_need (by simp only [Env.sets, Env.set, BE.den, IE.den, DE.den, DV.int, DV.bool, DV.list, LOp.den, List.map_cons, List.map_nil, Nat.reduceEqDiff, ↓reduceIte, reduceCtorEq, Bool.and_eq_true, Bool.or_eq_true, Bool.not_eq_true', Bool.not_eq_false', Bool.and_eq_false_iff, Bool.or_eq_false_iff, decide_eq_true_eq, decide_eq_false_iff_not]; omega) ?_
            refine h_again ⟨⟨i + 1, ?_, by omega⟩, ?_⟩
            · rw [hst]
              simp [Env.sets, Env.set, DE.den, IE.den, DV.int]
            · simp only [Env.sets, Env.set, BE.den, IE.den, DE.den, DV.int, DV.bool, DV.list, LOp.den, List.map_cons, List.map_nil, Nat.reduceEqDiff, ↓reduceIte, reduceCtorEq, Bool.and_eq_true, Bool.or_eq_true, Bool.not_eq_true', Bool.not_eq_false', Bool.and_eq_false_iff, Bool.or_eq_false_iff, decide_eq_true_eq, decide_eq_false_iff_not]
              omega
          · have hc2 : hasR px py ((M).getD i []) = false := hc2
            rw [if_neg (by rw [hc2]; simp)] at hst
            refine h_need (by simp only [Env.sets, Env.set, BE.den, IE.den, DE.den, DV.int, DV.bool, DV.list, LOp.den, List.map_cons, List.map_nil, Nat.reduceEqDiff, ↓reduceIte, reduceCtorEq, Bool.and_eq_true, Bool.or_eq_true, Bool.not_eq_true', Bool.not_eq_false', Bool.and_eq_false_iff, Bool.or_eq_false_iff, decide_eq_true_eq, decide_eq_false_iff_not]; omega) ?_
            refine h_again ⟨⟨i + 1, ?_, by omega⟩, ?_⟩
            · rw [hst]
              simp [Env.sets, Env.set, DE.den, IE.den, DV.int]
            · simp only [Env.sets, Env.set, BE.den, IE.den, DE.den, DV.int, DV.bool, DV.list, LOp.den, List.map_cons, List.map_nil, Nat.reduceEqDiff, ↓reduceIte, reduceCtorEq, Bool.and_eq_true, Bool.or_eq_true, Bool.not_eq_true', Bool.not_eq_false', Bool.and_eq_false_iff, Bool.or_eq_false_iff, decide_eq_true_eq, decide_eq_false_iff_not]
              omega
        · simp only [Env.sets, Env.set, BE.den, IE.den, DE.den, DV.int, DV.bool, DV.list, LOp.den, List.map_cons, List.map_nil, Nat.reduceEqDiff, ↓reduceIte, reduceCtorEq, Bool.and_eq_true, Bool.or_eq_true, Bool.not_eq_true', Bool.not_eq_false', Bool.and_eq_false_iff, Bool.or_eq_false_iff, decide_eq_true_eq, decide_eq_false_iff_not] at hc
          have hi' : i = (M).length := by omega
          subst hi'
          rw [List.take_of_length_le (Nat.le_refl _)]
          rw [hcm]
          refine h_call (c := c7) rfl trivial fun rs hk hr => ?_
          have hr : rs = [.b true] := hr
          subst hr
          simp [Tree.holds, Env.sets, Env.set, DE.den, BE.den, IE.den, DV.int, DV.bool]
    · have hw : hasB a b c d px py = false := hw
      refine h_call (c := cParts sg13) rfl trivial fun rs hk hr => ?_
      have hr : rs = [.l (partsL a b c d x y)] := hr
      subst hr
      have hpl := parts_len a b c d x y
      have hcp := cnt_parts a b c d x y px py
      have hcm := cnt_minus a b c d e f g h px py p hp
      rw [if_neg (by rw [hw]; simp)] at hcp hcm
      refine h_loop (fun ds => ∃ i : Nat, ds = [.i (cnt px py ((partsL a b c d x y).take i) : Nat), .i i] ∧ i ≤ (partsL a b c d x y).length) (fun | [_, .i i] => (((partsL a b c d x y).length : Int) - i).toNat | _ => 0) ⟨0, by simp [DE.den, IE.den, cnt], by omega⟩ ?_
      intro ds _ ⟨i, hds, hi⟩
      subst hds
      have hlen := cnt_len px py ((partsL a b c d x y).take i)
      rw [List.length_take] at hlen
      refine h_ite (fun hc => ?_) (fun hc => ?_)
      · simp only [Env.sets, Env.set, BE.den, IE.den, DE.den, DV.int, DV.bool, DV.list, LOp.den, List.map_cons, List.map_nil, Nat.reduceEqDiff, ↓reduceIte, reduceCtorEq, Bool.and_eq_true, Bool.or_eq_true, Bool.not_eq_true', Bool.not_eq_false', Bool.and_eq_false_iff, Bool.or_eq_false_iff, decide_eq_true_eq, decide_eq_false_iff_not] at hc
        have hlt : i < (partsL a b c d x y).length := by omega
        have hst := cnt_step (px := px) (py := py) hlt
        refine h_need (by simp only [Env.sets, Env.set, BE.den, IE.den, DE.den, DV.int, DV.bool, DV.list, LOp.den, List.map_cons, List.map_nil, Nat.reduceEqDiff, ↓reduceIte, reduceCtorEq, Bool.and_eq_true, Bool.or_eq_true, Bool.not_eq_true', Bool.not_eq_false', Bool.and_eq_false_iff, Bool.or_eq_false_iff, decide_eq_true_eq, decide_eq_false_iff_not]; omega) ?_
        refine h_call (c := cHas sg15) rfl trivial fun rs hk hr => ?_
        have hr : rs = [.b (hasR px py ((partsL a b c d x y).getD i []))] := hr
        subst hr
        refine h_ite (fun hc2 => ?_) (fun hc2 => ?_)
        · have hc2 : hasR px py ((partsL a b c d x y).getD i []) = true := hc2
          rw [if_pos hc2] at hst
          refine h_need (by simp only [Env.sets, Env.set, BE.den, IE.den, DE.den, DV.int, DV.bool, DV.list, LOp.den, List.map_cons, List.map_nil, Nat.reduceEqDiff, ↓reduceIte, reduceCtorEq, Bool.and_eq_true, Bool.or_eq_true, Bool.not_eq_true', Bool.not_eq_false', Bool.and_eq_false_iff, Bool.or_eq_false_iff, decide_eq_true_eq, decide_eq_false_iff_not]; omega) ?_
          refine h_need (by simp only [Env.sets, Env.set, BE.den, IE.den, DE.den, DV.int, DV.bool, DV.list, LOp.den, List.map_cons, List.map_nil, Nat.reduceEqDiff, ↓reduceIte, reduceCtorEq, Bool.and_eq_true, Bool.or_eq_true, Bool.not_eq_true', Bool.not_eq_false', Bool.and_eq_false_iff, Bool.or_eq_false_iff, decide_eq_true_eq, decide_eq_false_iff_not]; omega) ?_
          refine h_again ⟨⟨i + 1, ?_, by omega⟩, ?_⟩
          · rw [hst]
            simp [Env.sets, Env.set, DE.den, IE.den, DV.int]
          · simp only [Env.sets, Env.set, BE.den, IE.den, DE.den, DV.int, DV.bool, DV.list, LOp.den, List.map_cons, List.map_nil, Nat.reduceEqDiff, ↓reduceIte, reduceCtorEq, Bool.and_eq_true, Bool.or_eq_true, Bool.not_eq_true', Bool.not_eq_false', Bool.and_eq_false_iff, Bool.or_eq_false_iff, decide_eq_true_eq, decide_eq_false_iff_not]
            omega
        · have hc2 : hasR px py ((partsL a b c d x y).getD i []) = false := hc2
          rw [if_neg (by rw [hc2]; simp)] at hst
          refine h_need (by simp only [Env.sets, Env.set, BE.den, IE.den, DE.den, DV.int, DV.bool, DV.list, LOp.den, List.map_cons, List.map_nil, Nat.reduceEqDiff, ↓reduceIte, reduceCtorEq, Bool.and_eq_true, Bool.or_eq_true, Bool.not_eq_true', Bool.not_eq_false', Bool.and_eq_false_iff, Bool.or_eq_false_iff, decide_eq_true_eq, decide_eq_false_iff_not]; omega) ?_
          refine h_again ⟨⟨i + 1, ?_, by omega⟩, ?_⟩
          · rw [hst]
            simp [Env.sets, Env.set, DE.den, IE.den, DV.int]
          · simp only [Env.sets, Env.set, BE.den, IE.den, DE.den, DV.int, DV.bool, DV.list, LOp.den, List.map_cons, List.map_nil, Nat.reduceEqDiff, ↓reduceIte, reduceCtorEq, Bool.and_eq_true, Bool.or_eq_true, Bool.not_eq_true', Bool.not_eq_false', Bool.and_eq_false_iff, Bool.or_eq_false_iff, decide_eq_true_eq, decide_eq_false_iff_not]
            omega
      · simp only [Env.sets, Env.set, BE.den, IE.den, DE.den, DV.int, DV.bool, DV.list, LOp.den, List.map_cons, List.map_nil, Nat.reduceEqDiff, ↓reduceIte, reduceCtorEq, Bool.and_eq_true, Bool.or_eq_true, Bool.not_eq_true', Bool.not_eq_false', Bool.and_eq_false_iff, Bool.or_eq_false_iff, decide_eq_true_eq, decide_eq_false_iff_not] at hc
        have hi' : i = (partsL a b c d x y).length := by omega
        subst hi'
        rw [List.take_of_length_le (Nat.le_refl _)]
        rw [hcp]
        refine h_call (c := cAnd sg8) rfl trivial fun rs hk hr => ?_
        have hr : rs = andL a b c d e f g h := hr
        rw [andL_eq, hp] at hr
        subst hr
        refine h_let (h_call (c := cMinus sg11) rfl trivial fun rs hk hr => ?_)
        have hr : rs = [.l (minusL a b c d e f g h)] := hr
        subst hr
        have hml := minus_len a b c d e f g h
        obtain ⟨M, hM, hMl⟩ : ∃ M, [p.1, p.2.1, p.2.2.1, p.2.2.2] :: minusL a b c d e f g h = M ∧ M.length ≤ 5 := ⟨_, rfl, by rw [List.length_cons]; omega⟩
        rw [hM] at hcm
        refine h_letE (M := M) (by rw [← hM]; rfl) (h_need (by simp only [Env.sets, Env.set, BE.den, IE.den, DE.den, DV.int, DV.bool, DV.list, LOp.den, List.map_cons, List.map_nil, Nat.reduceEqDiff, ↓reduceIte, reduceCtorEq, Bool.and_eq_true, Bool.or_eq_true, Bool.not_eq_true', Bool.not_eq_false', Bool.and_eq_false_iff, Bool.or_eq_false_iff, decide_eq_true_eq, decide_eq_false_iff_not, List.length_cons, List.length_nil]; omega) ?_)
        refine h_loop (fun ds => ∃ i : Nat, ds = [.i (cnt px py ((M).take i) : Nat), .i i] ∧ i ≤ (M).length) (fun | [_, .i i] => (((M).length : Int) - i).toNat | _ => 0) ⟨0, by simp [DE.den, IE.den, cnt], by omega⟩ ?_
        intro ds _ ⟨i, hds, hi⟩
        subst hds
        have hlen := cnt_len px py ((M).take i)
        rw [List.length_take] at hlen
        refine h_ite (fun hc => ?_) (fun hc => ?_)
        · simp only [Env.sets, Env.set, BE.den, IE.den, DE.den, DV.int, DV.bool, DV.list, LOp.den, List.map_cons, List.map_nil, Nat.reduceEqDiff, ↓reduceIte, reduceCtorEq, Bool.and_eq_true, Bool.or_eq_true, Bool.not_eq_true', Bool.not_eq_false', Bool.and_eq_false_iff, Bool.or_eq_false_iff, decide_eq_true_eq, decide_eq_false_iff_not] at hc
          have hlt : i < (M).length := by omega
          have hst := cnt_step (px := px) (py := py) hlt
          refine h_need (by simp only [Env.sets, Env.set, BE.den, IE.den, DE.den, DV.int, DV.bool, DV.list, LOp.den, List.map_cons, List.map_nil, Nat.reduceEqDiff, ↓reduceIte, reduceCtorEq, Bool.and_eq_true, Bool.or_eq_true, Bool.not_eq_true', Bool.not_eq_false', Bool.and_eq_false_iff, Bool.or_eq_false_iff, decide_eq_true_eq, decide_eq_false_iff_not]; omega) ?_
          refine h_call (c := cHas sg15) rfl trivial fun rs hk hr => ?_
          have hr : rs = [.b (hasR px py ((M).getD i []))] := hr
          subst hr
          refine h_ite (fun hc2 => ?_) (fun hc2 => ?_)
          · have hc2 : hasR px py ((M).getD i []) = true := hc2
            rw [if_pos hc2] at hst
            refine h_need (by simp only [Env.sets, Env.set, BE.den, IE.den, DE.den, DV.int, DV.bool, DV.list, LOp.den, List.map_cons, List.map_nil, Nat.reduceEqDiff, ↓reduceIte, reduceCtorEq, Bool.and_eq_true, Bool.or_eq_true, Bool.not_eq_true', Bool.not_eq_false', Bool.and_eq_false_iff, Bool.or_eq_false_iff, decide_eq_true_eq, decide_eq_false_iff_not]; omega) ?_
            refine h_need (by simp only [Env.sets, Env.set, BE.den, IE.den, DE.den, DV.int, DV.bool, DV.list, LOp.den, List.map_cons, List.map_nil, Nat.reduceEqDiff, ↓reduceIte, reduceCtorEq, Bool.and_eq_true, Bool.or_eq_true, Bool.not_eq_true', Bool.not_eq_false', Bool.and_eq_false_iff, Bool.or_eq_false_iff, decide_eq_true_eq, decide_eq_false_iff_not]; omega) ?_
            refine h_again ⟨⟨i + 1, ?_, by omega⟩, ?_⟩
            · rw [hst]
              simp [Env.sets, Env.set, DE.den, IE.den, DV.int]
            · simp only [Env.sets, Env.set, BE.den, IE.den, DE.den, DV.int, DV.bool, DV.list, LOp.den, List.map_cons, List.map_nil, Nat.reduceEqDiff, ↓reduceIte, reduceCtorEq, Bool.and_eq_true, Bool.or_eq_true, Bool.not_eq_true', Bool.not_eq_false', Bool.and_eq_false_iff, Bool.or_eq_false_iff, decide_eq_true_eq, decide_eq_false_iff_not]
              omega
          · have hc2 : hasR px py ((M).getD i []) = false := hc2
            rw [if_neg (by rw [hc2]; simp)] at hst
            refine h_need (by simp only [Env.sets, Env.set, BE.den, IE.den, DE.den, DV.int, DV.bool, DV.list, LOp.den, List.map_cons, List.map_nil, Nat.reduceEqDiff, ↓reduceIte, reduceCtorEq, Bool.and_eq_true, Bool.or_eq_true, Bool.not_eq_true', Bool.not_eq_false', Bool.and_eq_false_iff, Bool.or_eq_false_iff, decide_eq_true_eq, decide_eq_false_iff_not]; omega) ?_
            refine h_again ⟨⟨i + 1, ?_, by omega⟩, ?_⟩
            · rw [hst]
              simp [Env.sets, Env.set, DE.den, IE.den, DV.int]
            · simp only [Env.sets, Env.set, BE.den, IE.den, DE.den, DV.int, DV.bool, DV.list, LOp.den, List.map_cons, List.map_nil, Nat.reduceEqDiff, ↓reduceIte, reduceCtorEq, Bool.and_eq_true, Bool.or_eq_true, Bool.not_eq_true', Bool.not_eq_false', Bool.and_eq_false_iff, Bool.or_eq_false_iff, decide_eq_true_eq, decide_eq_false_iff_not]
              omega
        · simp only [Env.sets, Env.set, BE.den, IE.den, DE.den, DV.int, DV.bool, DV.list, LOp.den, List.map_cons, List.map_nil, Nat.reduceEqDiff, ↓reduceIte, reduceCtorEq, Bool.and_eq_true, Bool.or_eq_true, Bool.not_eq_true', Bool.not_eq_false', Bool.and_eq_false_iff, Bool.or_eq_false_iff, decide_eq_true_eq, decide_eq_false_iff_not] at hc
          have hi' : i = (M).length := by omega
          subst hi'
          rw [List.take_of_length_le (Nat.le_refl _)]
          rw [hcm]
          refine h_call (c := c7) rfl trivial fun rs hk hr => ?_
          have hr : rs = [.b true] := hr
          subst hr
          simp [Tree.holds, Env.sets, Env.set, DE.den, BE.den, IE.den, DV.int, DV.bool]
  · cases hp
theorem pre4 (dvs : List DV) (hh : dvsIn (cts sg4.args) dvs) : c4.pre dvs := by
  simp only [sg4, cts, List.flatMap_cons, List.flatMap_nil, VT.cts, List.append_nil, List.cons_append, List.nil_append] at hh
  match dvs, hh with
  | [.i a, .i b, .i c, .i d, .i e, .i f, .i g, .i h, .i x, .i y, .i px, .i py], _ => exact trivial

theorem and_comm4 (a b c d e f g h : Int) : andX a b c d e f g h = andX e f g h a b c d := by
  have e1 : andOk a b c d e f g h = andOk e f g h a b c d := by
    apply Bool.eq_iff_iff.2
    rw [andOk_iff, andOk_iff, Int.max_comm a e, Int.max_comm b f, Int.min_comm c g, Int.min_comm d h]
    constructor <;> rintro ⟨a, b, c⟩ <;> exact ⟨b, a, c⟩
  unfold andX
  rw [e1, Int.max_comm a e, Int.max_comm b f, Int.min_comm c g, Int.min_comm d h]
theorem and_again (a b c d e f g h : Int) (p : Int × Int × Int × Int) (hp : andX a b c d e f g h = p) : andX p.1 p.2.1 p.2.2.1 p.2.2.2 a b c d = p := by
  unfold andX at hp
  by_cases hok : andOk a b c d e f g h = true
  · rw [if_pos hok] at hp
    subst hp
    obtain ⟨h1, h2, h3⟩ := andOk_iff.1 hok
    have e1 : max (max a e) a = max a e := by omega
    have e2 : max (max b f) b = max b f := by omega
    have e3 : min (min c g) c = min c g := by omega
    have e4 : min (min d h) d = min d h := by omega
    unfold andX
    rw [if_pos]
    · rw [e1, e2, e3, e4]
    · rw [andOk_iff]
      simp only [e1, e2, e3, e4]
      exact ⟨h3, h1, h3⟩
  · rw [if_neg hok] at hp
    subst hp
    unfold andX
    rw [if_neg]
    intro h
    obtain ⟨h1, _⟩ := andOk_iff.1 h
    revert h1
    unfold rightP
    simp
theorem area_zero (a b c d e f g h : Int) (p : Int × Int × Int × Int) (hp : andX a b c d e f g h = p) : areaR p.1 p.2.1 p.2.2.1 p.2.2.2 = 0 ↔ p.1 = 0 ∧ p.2.1 = 0 ∧ p.2.2.1 = 0 ∧ p.2.2.2 = 0 := by
  unfold andX at hp
  by_cases hok : andOk a b c d e f g h = true
  · rw [if_pos hok] at hp
    subst hp
    obtain ⟨h1, h2, h3⟩ := andOk_iff.1 hok
    have h3' : rightB (max a e) (max b f) (min c g) (min d h) = true := by simpa [rightB] using h3
    simp only [areaR, h3', if_true]
    unfold rightP at h3
    have := Int.mul_pos (show 0 < min c g - max a e by omega) (show 0 < min d h - max b f by omega)
    omega
  · rw [if_neg hok] at hp
    subst hp
    decide

def c5 : Contract := CFn sg5 (fun | [.i a, .i b, .i c, .i d, .i e, .i f, .i g, .i h, .i x, .i y] => True | _ => False) (fun _ => [.b true])
theorem ok5 : ContractOk Try.prog 5 c5 := by
  refine contract_of (Γ := knownOf [(16, cArea sg16), (13, cParts sg13), (8, cAnd sg8), (11, cMinus sg11), (7, c7)]) (known_cons ok16 rfl (known_cons ok13 rfl (known_cons ok8 rfl (known_cons ok11 rfl (known_cons ok7 rfl known_nil))))) Try.func5 rfl rfl is5 fun ds hk hp => ?_
  split at hp
  · rename_i a b c d e f g h x y
    obtain ⟨p, hp⟩ : ∃ p, andX a b c d e f g h = p := ⟨_, rfl⟩
    have hq : andX e f g h a b c d = p := by rw [and_comm4]; exact hp
    have hpp := and_again a b c d e f g h p hp
    have harea : decide (areaR p.1 p.2.1 p.2.2.1 p.2.2.2 = 0) = (decide (p.1 = 0) && (decide (p.2.1 = 0) && (decide (p.2.2.1 = 0) && decide (p.2.2.2 = 0)))) := by
      have := area_zero a b c d e f g h p hp
      rw [← Bool.decide_and, ← Bool.decide_and, ← Bool.decide_and, decide_eq_decide]
      exact this
    refine h_call (c := cAnd sg8) rfl trivial fun rs hk hr => ?_
    have hr : rs = andL a b c d e f g h := hr
    rw [andL_eq, hp] at hr
    subst hr
    refine h_call (c := cArea sg16) rfl trivial fun rs hk hr => ?_
    have hr : rs = [.i (areaR p.1 p.2.1 p.2.2.1 p.2.2.2)] := hr
    subst hr
    have hab := area_bd p.1 p.2.1 p.2.2.1 p.2.2.2
    refine h_call (c := cParts sg13) rfl trivial fun rs hk hr => ?_
    have hr : rs = [.l (partsL a b c d x y)] := hr
    subst hr
    have hpl := parts_len a b c d x y
    refine h_loop (fun ds => ∃ i : Nat, ds = [.i (0 + areas ((partsL a b c d x y).take i)), .i i] ∧ i ≤ (partsL a b c d x y).length) (fun | [_, .i i] => (((partsL a b c d x y).length : Int) - i).toNat | _ => 0) ⟨0, by simp [DE.den, IE.den, areas, Env.sets, Env.set, DV.int], by omega⟩ ?_
    intro ds _ ⟨i, hds, hi⟩
    subst hds
    have hbd := areas_bd ((partsL a b c d x y).take i)
    rw [List.length_take] at hbd
    refine h_ite (fun hc => ?_) (fun hc => ?_)
    · simp only [Env.sets, Env.set, BE.den, IE.den, DE.den, DV.int, DV.bool, DV.list, LOp.den, List.map_cons, List.map_nil, Nat.reduceEqDiff, ↓reduceIte, reduceCtorEq, Bool.and_eq_true, Bool.or_eq_true, Bool.not_eq_true', Bool.not_eq_false', Bool.and_eq_false_iff, Bool.or_eq_false_iff, decide_eq_true_eq, decide_eq_false_iff_not] at hc
      have hlt : i < (partsL a b c d x y).length := by omega
      have hst := areas_step hlt
      refine h_need (by simp only [Env.sets, Env.set, BE.den, IE.den, DE.den, DV.int, DV.bool, DV.list, LOp.den, List.map_cons, List.map_nil, Nat.reduceEqDiff, ↓reduceIte, reduceCtorEq, Bool.and_eq_true, Bool.or_eq_true, Bool.not_eq_true', Bool.not_eq_false', Bool.and_eq_false_iff, Bool.or_eq_false_iff, decide_eq_true_eq, decide_eq_false_iff_not]; omega) ?_
      refine h_call (c := cArea sg16) rfl trivial fun rs hk hr => ?_
      have hr : rs = [.i (areaRow ((partsL a b c d x y).getD i []))] := hr
      subst hr
      have hbd2 := area_bd (((partsL a b c d x y).getD i []).getD 0 0) (((partsL a b c d x y).getD i []).getD 1 0) (((partsL a b c d x y).getD i []).getD 2 0) (((partsL a b c d x y).getD i []).getD 3 0)
      have hbd3 : 0 ≤ areaRow ((partsL a b c d x y).getD i []) ∧ areaRow ((partsL a b c d x y).getD i []) ≤ 70368744177664 := hbd2
      refine h_need (by simp only [Env.sets, Env.set, BE.den, IE.den, DE.den, DV.int, DV.bool, DV.list, LOp.den, List.map_cons, List.map_nil, Nat.reduceEqDiff, ↓reduceIte, reduceCtorEq, Bool.and_eq_true, Bool.or_eq_true, Bool.not_eq_true', Bool.not_eq_false', Bool.and_eq_false_iff, Bool.or_eq_false_iff, decide_eq_true_eq, decide_eq_false_iff_not]; omega) ?_
      refine h_need (by simp only [Env.sets, Env.set, BE.den, IE.den, DE.den, DV.int, DV.bool, DV.list, LOp.den, List.map_cons, List.map_nil, Nat.reduceEqDiff, ↓reduceIte, reduceCtorEq, Bool.and_eq_true, Bool.or_eq_true, Bool.not_eq_true', Bool.not_eq_false', Bool.and_eq_false_iff, Bool.or_eq_false_iff, decide_eq_true_eq, decide_eq_false_iff_not]; omega) ?_
      refine h_again ⟨⟨i + 1, ?_, by omega⟩, ?_⟩
      · rw [hst]
        simp [Env.sets, Env.set, DE.den, IE.den, DV.int, Int.add_assoc]
      · simp only [Env.sets, Env.set, BE.den, IE.den, DE.den, DV.int, DV.bool, DV.list, LOp.den, List.map_cons, List.map_nil, Nat.reduceEqDiff, ↓reduceIte, reduceCtorEq, Bool.and_eq_true, Bool.or_eq_true, Bool.not_eq_true', Bool.not_eq_false', Bool.and_eq_false_iff, Bool.or_eq_false_iff, decide_eq_true_eq, decide_eq_false_iff_not]
        omega
    · simp only [Env.sets, Env.set, BE.den, IE.den, DE.den, DV.int, DV.bool, DV.list, LOp.den, List.map_cons, List.map_nil, Nat.reduceEqDiff, ↓reduceIte, reduceCtorEq, Bool.and_eq_true, Bool.or_eq_true, Bool.not_eq_true', Bool.not_eq_false', Bool.and_eq_false_iff, Bool.or_eq_false_iff, decide_eq_true_eq, decide_eq_false_iff_not] at hc
      have hi' : i = (partsL a b c d x y).length := by omega
      subst hi'
      rw [List.take_of_length_le (Nat.le_refl _)]
      rw [areas_parts, Int.zero_add]
      refine h_call (c := cMinus sg11) rfl trivial fun rs hk hr => ?_
      have hr : rs = [.l (minusL a b c d e f g h)] := hr
      subst hr
      have hml := minus_len a b c d e f g h
      refine h_loop (fun ds => ∃ i : Nat, ds = [.i (areaR p.1 p.2.1 p.2.2.1 p.2.2.2 + areas ((minusL a b c d e f g h).take i)), .i i] ∧ i ≤ (minusL a b c d e f g h).length) (fun | [_, .i i] => (((minusL a b c d e f g h).length : Int) - i).toNat | _ => 0) ⟨0, by simp [DE.den, IE.den, areas, Env.sets, Env.set, DV.int], by omega⟩ ?_
      intro ds _ ⟨i, hds, hi⟩
      subst hds
      have hbd := areas_bd ((minusL a b c d e f g h).take i)
      rw [List.length_take] at hbd
      refine h_ite (fun hc => ?_) (fun hc => ?_)
      · simp only [Env.sets, Env.set, BE.den, IE.den, DE.den, DV.int, DV.bool, DV.list, LOp.den, List.map_cons, List.map_nil, Nat.reduceEqDiff, ↓reduceIte, reduceCtorEq, Bool.and_eq_true, Bool.or_eq_true, Bool.not_eq_true', Bool.not_eq_false', Bool.and_eq_false_iff, Bool.or_eq_false_iff, decide_eq_true_eq, decide_eq_false_iff_not] at hc
        have hlt : i < (minusL a b c d e f g h).length := by omega
        have hst := areas_step hlt
        refine h_need (by simp only [Env.sets, Env.set, BE.den, IE.den, DE.den, DV.int, DV.bool, DV.list, LOp.den, List.map_cons, List.map_nil, Nat.reduceEqDiff, ↓reduceIte, reduceCtorEq, Bool.and_eq_true, Bool.or_eq_true, Bool.not_eq_true', Bool.not_eq_false', Bool.and_eq_false_iff, Bool.or_eq_false_iff, decide_eq_true_eq, decide_eq_false_iff_not]; omega) ?_
        refine h_call (c := cArea sg16) rfl trivial fun rs hk hr => ?_
        have hr : rs = [.i (areaRow ((minusL a b c d e f g h).getD i []))] := hr
        subst hr
        have hbd2 := area_bd (((minusL a b c d e f g h).getD i []).getD 0 0) (((minusL a b c d e f g h).getD i []).getD 1 0) (((minusL a b c d e f g h).getD i []).getD 2 0) (((minusL a b c d e f g h).getD i []).getD 3 0)
        have hbd3 : 0 ≤ areaRow ((minusL a b c d e f g h).getD i []) ∧ areaRow ((minusL a b c d e f g h).getD i []) ≤ 70368744177664 := hbd2
        refine h_need (by simp only [Env.sets, Env.set, BE.den, IE.den, DE.den, DV.int, DV.bool, DV.list, LOp.den, List.map_cons, List.map_nil, Nat.reduceEqDiff, ↓reduceIte, reduceCtorEq, Bool.and_eq_true, Bool.or_eq_true, Bool.not_eq_true', Bool.not_eq_false', Bool.and_eq_false_iff, Bool.or_eq_false_iff, decide_eq_true_eq, decide_eq_false_iff_not]; omega) ?_
        refine h_need (by simp only [Env.sets, Env.set, BE.den, IE.den, DE.den, DV.int, DV.bool, DV.list, LOp.den, List.map_cons, List.map_nil, Nat.reduceEqDiff, ↓reduceIte, reduceCtorEq, Bool.and_eq_true, Bool.or_eq_true, Bool.not_eq_true', Bool.not_eq_false', Bool.and_eq_false_iff, Bool.or_eq_false_iff, decide_eq_true_eq, decide_eq_false_iff_not]; omega) ?_
        refine h_again ⟨⟨i + 1, ?_, by omega⟩, ?_⟩
        · rw [hst]
          simp [Env.sets, Env.set, DE.den, IE.den, DV.int, Int.add_assoc]
        · simp only [Env.sets, Env.set, BE.den, IE.den, DE.den, DV.int, DV.bool, DV.list, LOp.den, List.map_cons, List.map_nil, Nat.reduceEqDiff, ↓reduceIte, reduceCtorEq, Bool.and_eq_true, Bool.or_eq_true, Bool.not_eq_true', Bool.not_eq_false', Bool.and_eq_false_iff, Bool.or_eq_false_iff, decide_eq_true_eq, decide_eq_false_iff_not]
          omega
      · simp only [Env.sets, Env.set, BE.den, IE.den, DE.den, DV.int, DV.bool, DV.list, LOp.den, List.map_cons, List.map_nil, Nat.reduceEqDiff, ↓reduceIte, reduceCtorEq, Bool.and_eq_true, Bool.or_eq_true, Bool.not_eq_true', Bool.not_eq_false', Bool.and_eq_false_iff, Bool.or_eq_false_iff, decide_eq_true_eq, decide_eq_false_iff_not] at hc
        have hi' : i = (minusL a b c d e f g h).length := by omega
        subst hi'
        rw [List.take_of_length_le (Nat.le_refl _)]
        rw [areas_minus a b c d e f g h p hp]
        refine h_call (c := cAnd sg8) rfl trivial fun rs hk hr => ?_
        have hr : rs = andL a b c d e f g h := hr
        rw [andL_eq, hp] at hr
        subst hr
        refine h_call (c := c7) rfl trivial fun rs hk hr => ?_
        have hr : rs = [.b true] := hr
        subst hr
        refine h_cally (c := cArea sg16) rfl (by simp [Env.sets, Env.set, BE.den, DV.bool]) trivial fun rs hk hr => ?_
        have hr : rs = [.i (areaR a b c d)] := hr
        subst hr
        refine h_cally (c := cAnd sg8) rfl (by simp [Env.sets, Env.set, BE.den, IE.den, DV.bool, DV.int]) trivial fun rs hk hr => ?_
        have hr : rs = andL e f g h a b c d := hr
        rw [andL_eq, hq] at hr
        subst hr
        refine h_cally (c := cArea sg16) rfl (by simp [Env.sets, Env.set, BE.den, IE.den, DV.bool, DV.int]) trivial fun rs hk hr => ?_
        have hr : rs = [.i (areaR p.1 p.2.1 p.2.2.1 p.2.2.2)] := hr
        subst hr
        refine h_cally (c := cAnd sg8) rfl (by simp [Env.sets, Env.set, BE.den, IE.den, DV.bool, DV.int]; exact harea) trivial fun rs hk hr => ?_
        have hr : rs = andL p.1 p.2.1 p.2.2.1 p.2.2.2 a b c d := hr
        rw [andL_eq, hpp] at hr
        subst hr
        simp [Tree.holds, Env.sets, Env.set, DE.den, BE.den, IE.den, DV.int, DV.bool]
        exact harea
  · cases hp
theorem pre5 (dvs : List DV) (hh : dvsIn (cts sg5.args) dvs) : c5.pre dvs := by
  simp only [sg5, cts, List.flatMap_cons, List.flatMap_nil, VT.cts, List.append_nil, List.cons_append, List.nil_append] at hh
  match dvs, hh with
  | [.i a, .i b, .i c, .i d, .i e, .i f, .i g, .i h, .i x, .i y], _ => exact trivial

end Go.Proofs.Ytdbahmcjdojiaaa.Fns

/- Layer 19: all of a point; the law DotSprites, as a function. -/
import Derived.Test.YtkoacdplkanhhaaLaws
import Derived.Test.YtkoacdplkanhhaaLaws2
set_option linter.unusedVariables false
set_option linter.unusedSimpArgs false
set_option maxRecDepth 10000
namespace Go.Proofs.Ytkoacdplkanhhaa.Fns
open Go.Sx Go.Proofs.Ytkoacdplkanhhaa.Trees

/-! ### Sprites, plain -/
theorem div_up {n S d : Int} (hS : 0 < S) (hd : 0 ≤ d) : n / S ≤ (n + d) / S ∧ (n + d) / S ≤ n / S + d / S + 1 := by
  constructor
  · exact Int.ediv_le_ediv hS (by omega)
  · have h1 := Int.mul_ediv_add_emod n S
    have h2 := Int.emod_lt_of_pos n hS
    have h3 := Int.mul_ediv_add_emod d S
    have h4 := Int.emod_lt_of_pos d hS
    have : (n + d) / S < n / S + d / S + 1 + 1 := by
      refine Int.ediv_lt_of_lt_mul hS ?_
      have : (n / S + d / S + 1 + 1) * S = S * (n / S) + S * (d / S) + S + S := by grind
      omega
    omega
theorem col_up {u S c x : Int} (hS : 0 < S) : colI 2 u S c x ≤ colI 2 u S c (x + 1) ∧ colI 2 u S c (x + 1) - colI 2 u S c x ≤ 256 / S + 1 := by
  have h := div_up (n := x * 256 + 128 - u + S * 128) (d := 256) hS (by omega)
  have h0 := Int.ediv_nonneg (a := 256) (b := S) (by omega) (by omega)
  unfold colI
  rw [if_pos rfl, if_pos rfl, show (x + 1) * 256 + 128 - u + S * 128 = x * 256 + 128 - u + S * 128 + 256 by omega]
  generalize (x * 256 + 128 - u + S * 128 + 256) / S = A at *
  generalize (x * 256 + 128 - u + S * 128) / S = B at *
  generalize 256 / S = C at *
  omega
theorem col_bd {u S c x : Int} : 0 ≤ colI 2 u S c x ∧ colI 2 u S c x ≤ 255 := by
  unfold colI
  rw [if_pos rfl]
  omega
theorem nat_prev {i w : Nat} (hw : 0 < w) (h : 0 < i % w) : (i - 1) % w = i % w - 1 ∧ (i - 1) / w = i / w := by
  have e : i - 1 = (i % w - 1) + w * (i / w) := by
    have := Nat.mod_add_div i w
    omega
  have hl := Nat.mod_lt i hw
  constructor
  · rw [e, Nat.add_mul_mod_self_left, Nat.mod_eq_of_lt (by omega)]
  · rw [e, Nat.add_mul_div_left _ _ hw, Nat.div_eq_of_lt (by omega)]; omega
theorem nat_up {i w : Nat} (hw : 0 < w) (h : 0 < i / w) : w ≤ i ∧ (i - w) % w = i % w ∧ (i - w) / w = i / w - 1 := by
  have hle : w ≤ i := by
    rcases Nat.lt_or_ge i w with h1 | h1
    · rw [Nat.div_eq_of_lt h1] at h; omega
    · exact h1
  have e1 : i - w + w = i := by omega
  have h2 : (i - w + w) % w = (i - w) % w := Nat.add_mod_right _ _
  have h3 : (i - w + w) / w = (i - w) / w + 1 := Nat.add_div_right _ hw
  rw [e1] at h2 h3
  exact ⟨hle, h2.symm, by omega⟩
/-- The cells of a sprite's list, one by one. -/
theorem sprite_cells {X Y Z p q r s a b : Int} {w i : Nat} {L : List (List Int)} (hL : L = gridN (g0 X Y Z p q r s w 2) a w b w) (hw : 0 < w) (hi : i < L.length) :
    (0 ≤ cellAt L i 3 ∧ cellAt L i 3 ≤ 255 ∧ 0 ≤ cellAt L i 4 ∧ cellAt L i 4 ≤ 255 ∧ cellAt L i 5 = r ∧ cellAt L i 6 = s)
    ∧ ((i : Int).tmod w ≤ 0 ∨ (1 ≤ i ∧ cellAt L ((i : Int) - 1) 3 ≤ cellAt L i 3 ∧ cellAt L i 3 - cellAt L ((i : Int) - 1) 3 ≤ (256 : Int).tdiv w + 1 ∧ cellAt L i 4 = cellAt L ((i : Int) - 1) 4 ∧ 0 ≤ cellAt L ((i : Int) - 1) 3))
    ∧ ((i : Int).tdiv w ≤ 0 ∨ (w ≤ i ∧ cellAt L ((i : Int) - w) 4 ≤ cellAt L i 4 ∧ cellAt L i 3 = cellAt L ((i : Int) - w) 3)) := by
  have hlen : L.length = w * w := by rw [hL, gridN_len]
  have get : ∀ (j : Nat) (n : Nat), j < w * w → cellAt L (j : Int) n = (g0 X Y Z p q r s w 2 (a + ((j % w : Nat) : Int)) (b + ((j / w : Nat) : Int))).getD n 0 := fun j n hj => by
    rw [hL]; exact cell_get (gridN_get hj)
  rw [hlen] at hi
  have e3 := get i 3 hi
  have e4 := get i 4 hi
  have e5 := get i 5 hi
  have e6 := get i 6 hi
  have f3 : ∀ x y, (g0 X Y Z p q r s w 2 x y).getD 3 0 = colI 2 X w p x := fun x y => rfl
  have f4 : ∀ x y, (g0 X Y Z p q r s w 2 x y).getD 4 0 = colI 2 Y w q y := fun x y => rfl
  rw [f3] at e3
  rw [f4] at e4
  refine ⟨?_, ?_, ?_⟩
  · rw [e3, e4, e5, e6]
    exact ⟨col_bd.1, col_bd.2, col_bd.1, col_bd.2, rfl, rfl⟩
  · rw [← Int.ofNat_tmod]
    rcases Nat.eq_zero_or_pos (i % w) with h | h
    · left; omega
    · right
      have h1 : 1 ≤ i := by
        rcases Nat.eq_zero_or_pos i with h0 | h0
        · subst h0; simp at h
        · exact h0
      obtain ⟨p1, p2⟩ := nat_prev hw h
      have d3 := get (i - 1) 3 (by omega)
      have d4 := get (i - 1) 4 (by omega)
      rw [f3, p1] at d3
      rw [f4, p2] at d4
      rw [show ((i : Int) - 1) = ((i - 1 : Nat) : Int) by omega, e3, e4, d3, d4]
      have hc := col_up (u := X) (S := w) (c := p) (x := a + ((i % w - 1 : Nat) : Int)) (by omega)
      rw [show a + ((i % w - 1 : Nat) : Int) + 1 = a + ((i % w : Nat) : Int) by omega] at hc
      have hd : (256 : Int).tdiv w = 256 / (w : Int) := Int.tdiv_eq_ediv_of_nonneg (by omega)
      rw [hd]
      exact ⟨h1, hc.1, hc.2, rfl, col_bd.1⟩
  · rw [← Int.ofNat_tdiv]
    rcases Nat.eq_zero_or_pos (i / w) with h | h
    · left; omega
    · right
      obtain ⟨p0, p1, p2⟩ := nat_up hw h
      have d3 := get (i - w) 3 (by omega)
      have d4 := get (i - w) 4 (by omega)
      rw [f3, p1] at d3
      rw [f4, p2] at d4
      rw [show ((i : Int) - w) = ((i - w : Nat) : Int) by omega, e3, e4, d3, d4]
      have hc := col_up (u := Y) (S := w) (c := q) (x := b + ((i / w - 1 : Nat) : Int)) (by omega)
      rw [show b + ((i / w - 1 : Nat) : Int) + 1 = b + ((i / w : Nat) : Int) by omega] at hc
      exact ⟨p0, hc.1, rfl⟩
def c6 : Contract := CFn sg6 (fun | [.i X, .i Y, .i Z, .i p, .i q, .i r, .i s, .i S] => (in64 X ∧ in64 Y ∧ in64 Z ∧ in64 p ∧ in64 q ∧ in64 r ∧ in64 s) ∧ in64 S | _ => False) (fun _ => [.b true])
theorem ok6 : ContractOk Try.prog 6 c6 := by
  refine contract_of (Γ := knownOf [(8, c8), (10, cRightD sg10), (14, c14), (16, c16)]) (known_cons ok8 rfl (known_cons ok10 rfl (known_cons ok14 rfl (known_cons ok16 rfl known_nil)))) Try.func6 rfl rfl is6 fun ds hk hp => ?_
  split at hp
  · skip
    rename_i X Y Z p q r s S
    refine h_call (c := cRightD sg10) rfl (show (in64 X ∧ in64 Y ∧ in64 Z ∧ in64 p ∧ in64 q ∧ in64 r ∧ in64 s) ∧ in64 S ∧ in64 2 from ⟨hp.1, hp.2, by unfold in64; omega⟩) fun rs hk hr => ?_
    have hr : rs = [.b (decide (rightD X Y Z p q r s S 2))] := hr
    subst hr
    refine h_ite (fun _ => ?_) (fun g => ?_)
    · refine h_call (c := c8) rfl trivial fun rs hk hr => ?_
      have hr : rs = [.b true] := hr
      subst hr
      rfl
    have g : (!decide (rightD X Y Z p q r s S 2)) = false := g
    rw [Bool.not_eq_false', decide_eq_true_eq] at g
    have hsz := g.1
    obtain ⟨_, s1, s2⟩ := id hsz
    refine h_call (c := c16) rfl hsz fun rs hk hr => ?_
    have hr : rs = [.i (X.tdiv 256 - S - 2), .i (Y.tdiv 256 - S - 2), .i (X.tdiv 256 + S + 3), .i (Y.tdiv 256 + S + 3)] := hr
    subst hr
    refine h_call (c := c14) rfl (show (in64 X ∧ in64 Y ∧ in64 Z ∧ in64 p ∧ in64 q ∧ in64 r ∧ in64 s) ∧ in64 S ∧ in64 2 from ⟨hp.1, hp.2, by unfold in64; omega⟩) fun rs hk hr => ?_
    have hr : rs = [.l (pointL X Y Z p q r s S 2 (X.tdiv 256 - S - 2) (Y.tdiv 256 - S - 2) (X.tdiv 256 + S + 3) (Y.tdiv 256 + S + 3))] := hr
    rw [square_whole hsz (.inr rfl)] at hr
    obtain ⟨w, hw⟩ : ∃ w : Nat, S = (w : Int) := ⟨S.toNat, by omega⟩
    subst hw
    rw [Int.toNat_natCast] at hr
    obtain ⟨L, hL⟩ : ∃ L, L = gridN (g0 X Y Z p q r s w 2) (firstI X w) w (firstI Y w) w := ⟨_, rfl⟩
    rw [← hL] at hr
    subst hr
    have hlen : L.length = w * w := by rw [hL, gridN_len]
    have hww : w * w ≤ 64 * 64 := Nat.mul_le_mul (by omega) (by omega)
    have hcast : ((w * w : Nat) : Int) = (w : Int) * (w : Int) := Int.natCast_mul _ _
    have htd : 0 ≤ (256 : Int).tdiv w ∧ (256 : Int).tdiv w ≤ 256 := by
      rw [Int.tdiv_eq_ediv_of_nonneg (by omega)]
      exact ⟨Int.ediv_nonneg (by omega) (by omega), Int.ediv_le_self _ (by omega)⟩
    refine h_needR ((w : Int) * (w : Int)) rfl (by omega) ?_
    refine h_ite (fun h => ?_) (fun _ => ?_)
    · have h : (!decide ((L.length : Int) = (w : Int) * (w : Int))) = true := h
      rw [Bool.not_eq_true', decide_eq_false_iff_not, hlen, hcast] at h
      exact absurd rfl h
    refine h_loop (fun ds => ∃ i : Nat, ds = [.b false, .i i] ∧ i ≤ L.length) (fun | [_, .i i] => ((L.length : Int) - i).toNat | _ => 0) ⟨0, rfl, by omega⟩ ?_
    intro ds _ ⟨i, hds, hi⟩
    subst hds
    refine h_ite (fun hc => ?_) (fun _ => ?_)
    · have hc : decide ((i : Int) < (L.length : Int)) = true := hc
      rw [decide_eq_true_eq] at hc
      obtain ⟨⟨b1, b2, b3, b4, b5, b6⟩, htm, htq⟩ := sprite_cells (i := i) hL (by omega) (by omega)
      have hdv : 0 ≤ (i : Int).tdiv w ∧ (i : Int).tdiv w ≤ i := by
        rw [Int.tdiv_eq_ediv_of_nonneg (by omega)]
        exact ⟨Int.ediv_nonneg (by omega) (by omega), Int.ediv_le_self _ (by omega)⟩
      refine h_need (decide_eq_true (show (0 : Int) ≤ (i : Int) by omega)) ?_
      refine h_ite (fun h => ?_) (fun _ => ?_)
      · exfalso
        simp only [Env.sets, Env.set, BE.den, IE.den, DE.den, DV.int, DV.bool, DV.list, LOp.den, List.map_cons, List.map_nil, Nat.reduceEqDiff, ↓reduceIte, reduceCtorEq, Bool.and_eq_true, Bool.or_eq_true, Bool.not_eq_true', Bool.not_eq_false', Bool.and_eq_false_iff, Bool.or_eq_false_iff, decide_eq_true_eq, decide_eq_false_iff_not] at h
        omega
      refine h_need (by simp only [Env.sets, Env.set, BE.den, IE.den, DE.den, DV.int, DV.bool, DV.list, LOp.den, List.map_cons, List.map_nil, Nat.reduceEqDiff, ↓reduceIte, reduceCtorEq, Bool.and_eq_true, Bool.or_eq_true, Bool.not_eq_true', Bool.not_eq_false', Bool.and_eq_false_iff, Bool.or_eq_false_iff, decide_eq_true_eq, decide_eq_false_iff_not]; omega) ?_
      refine h_need (by simp only [Env.sets, Env.set, BE.den, IE.den, DE.den, DV.int, DV.bool, DV.list, LOp.den, List.map_cons, List.map_nil, Nat.reduceEqDiff, ↓reduceIte, reduceCtorEq, Bool.and_eq_true, Bool.or_eq_true, Bool.not_eq_true', Bool.not_eq_false', Bool.and_eq_false_iff, Bool.or_eq_false_iff, decide_eq_true_eq, decide_eq_false_iff_not]; omega) ?_
      refine h_need (by simp only [Env.sets, Env.set, BE.den, IE.den, DE.den, DV.int, DV.bool, DV.list, LOp.den, List.map_cons, List.map_nil, Nat.reduceEqDiff, ↓reduceIte, reduceCtorEq, Bool.and_eq_true, Bool.or_eq_true, Bool.not_eq_true', Bool.not_eq_false', Bool.and_eq_false_iff, Bool.or_eq_false_iff, decide_eq_true_eq, decide_eq_false_iff_not]; omega) ?_
      refine h_need (by simp only [Env.sets, Env.set, BE.den, IE.den, DE.den, DV.int, DV.bool, DV.list, LOp.den, List.map_cons, List.map_nil, Nat.reduceEqDiff, ↓reduceIte, reduceCtorEq, Bool.and_eq_true, Bool.or_eq_true, Bool.not_eq_true', Bool.not_eq_false', Bool.and_eq_false_iff, Bool.or_eq_false_iff, decide_eq_true_eq, decide_eq_false_iff_not]; omega) ?_
      refine h_need (by simp only [Env.sets, Env.set, BE.den, IE.den, DE.den, DV.int, DV.bool, DV.list, LOp.den, List.map_cons, List.map_nil, Nat.reduceEqDiff, ↓reduceIte, reduceCtorEq, Bool.and_eq_true, Bool.or_eq_true, Bool.not_eq_true', Bool.not_eq_false', Bool.and_eq_false_iff, Bool.or_eq_false_iff, decide_eq_true_eq, decide_eq_false_iff_not]; omega) ?_
      refine h_need (by simp only [Env.sets, Env.set, BE.den, IE.den, DE.den, DV.int, DV.bool, DV.list, LOp.den, List.map_cons, List.map_nil, Nat.reduceEqDiff, ↓reduceIte, reduceCtorEq, Bool.and_eq_true, Bool.or_eq_true, Bool.not_eq_true', Bool.not_eq_false', Bool.and_eq_false_iff, Bool.or_eq_false_iff, decide_eq_true_eq, decide_eq_false_iff_not]; omega) ?_
      refine h_need (by simp only [Env.sets, Env.set, BE.den, IE.den, DE.den, DV.int, DV.bool, DV.list, LOp.den, List.map_cons, List.map_nil, Nat.reduceEqDiff, ↓reduceIte, reduceCtorEq, Bool.and_eq_true, Bool.or_eq_true, Bool.not_eq_true', Bool.not_eq_false', Bool.and_eq_false_iff, Bool.or_eq_false_iff, decide_eq_true_eq, decide_eq_false_iff_not]; omega) ?_
      refine h_need (by simp only [Env.sets, Env.set, BE.den, IE.den, DE.den, DV.int, DV.bool, DV.list, LOp.den, List.map_cons, List.map_nil, Nat.reduceEqDiff, ↓reduceIte, reduceCtorEq, Bool.and_eq_true, Bool.or_eq_true, Bool.not_eq_true', Bool.not_eq_false', Bool.and_eq_false_iff, Bool.or_eq_false_iff, decide_eq_true_eq, decide_eq_false_iff_not]; omega) ?_
      refine h_need (by simp only [Env.sets, Env.set, BE.den, IE.den, DE.den, DV.int, DV.bool, DV.list, LOp.den, List.map_cons, List.map_nil, Nat.reduceEqDiff, ↓reduceIte, reduceCtorEq, Bool.and_eq_true, Bool.or_eq_true, Bool.not_eq_true', Bool.not_eq_false', Bool.and_eq_false_iff, Bool.or_eq_false_iff, decide_eq_true_eq, decide_eq_false_iff_not]; omega) ?_
      refine h_need (by simp only [Env.sets, Env.set, BE.den, IE.den, DE.den, DV.int, DV.bool, DV.list, LOp.den, List.map_cons, List.map_nil, Nat.reduceEqDiff, ↓reduceIte, reduceCtorEq, Bool.and_eq_true, Bool.or_eq_true, Bool.not_eq_true', Bool.not_eq_false', Bool.and_eq_false_iff, Bool.or_eq_false_iff, decide_eq_true_eq, decide_eq_false_iff_not]; omega) ?_
      refine h_need (by simp only [Env.sets, Env.set, BE.den, IE.den, DE.den, DV.int, DV.bool, DV.list, LOp.den, List.map_cons, List.map_nil, Nat.reduceEqDiff, ↓reduceIte, reduceCtorEq, Bool.and_eq_true, Bool.or_eq_true, Bool.not_eq_true', Bool.not_eq_false', Bool.and_eq_false_iff, Bool.or_eq_false_iff, decide_eq_true_eq, decide_eq_false_iff_not]; omega) ?_
      refine h_need (by simp only [Env.sets, Env.set, BE.den, IE.den, DE.den, DV.int, DV.bool, DV.list, LOp.den, List.map_cons, List.map_nil, Nat.reduceEqDiff, ↓reduceIte, reduceCtorEq, Bool.and_eq_true, Bool.or_eq_true, Bool.not_eq_true', Bool.not_eq_false', Bool.and_eq_false_iff, Bool.or_eq_false_iff, decide_eq_true_eq, decide_eq_false_iff_not]; omega) ?_
      refine h_need (by simp only [Env.sets, Env.set, BE.den, IE.den, DE.den, DV.int, DV.bool, DV.list, LOp.den, List.map_cons, List.map_nil, Nat.reduceEqDiff, ↓reduceIte, reduceCtorEq, Bool.and_eq_true, Bool.or_eq_true, Bool.not_eq_true', Bool.not_eq_false', Bool.and_eq_false_iff, Bool.or_eq_false_iff, decide_eq_true_eq, decide_eq_false_iff_not]; omega) ?_
      refine h_need (by simp only [Env.sets, Env.set, BE.den, IE.den, DE.den, DV.int, DV.bool, DV.list, LOp.den, List.map_cons, List.map_nil, Nat.reduceEqDiff, ↓reduceIte, reduceCtorEq, Bool.and_eq_true, Bool.or_eq_true, Bool.not_eq_true', Bool.not_eq_false', Bool.and_eq_false_iff, Bool.or_eq_false_iff, decide_eq_true_eq, decide_eq_false_iff_not]; omega) ?_
      refine h_need (by simp only [Env.sets, Env.set, BE.den, IE.den, DE.den, DV.int, DV.bool, DV.list, LOp.den, List.map_cons, List.map_nil, Nat.reduceEqDiff, ↓reduceIte, reduceCtorEq, Bool.and_eq_true, Bool.or_eq_true, Bool.not_eq_true', Bool.not_eq_false', Bool.and_eq_false_iff, Bool.or_eq_false_iff, decide_eq_true_eq, decide_eq_false_iff_not]; omega) ?_
      refine h_need (by simp only [Env.sets, Env.set, BE.den, IE.den, DE.den, DV.int, DV.bool, DV.list, LOp.den, List.map_cons, List.map_nil, Nat.reduceEqDiff, ↓reduceIte, reduceCtorEq, Bool.and_eq_true, Bool.or_eq_true, Bool.not_eq_true', Bool.not_eq_false', Bool.and_eq_false_iff, Bool.or_eq_false_iff, decide_eq_true_eq, decide_eq_false_iff_not]; omega) ?_
      refine h_need (by simp only [Env.sets, Env.set, BE.den, IE.den, DE.den, DV.int, DV.bool, DV.list, LOp.den, List.map_cons, List.map_nil, Nat.reduceEqDiff, ↓reduceIte, reduceCtorEq, Bool.and_eq_true, Bool.or_eq_true, Bool.not_eq_true', Bool.not_eq_false', Bool.and_eq_false_iff, Bool.or_eq_false_iff, decide_eq_true_eq, decide_eq_false_iff_not]; omega) ?_
      refine h_need (by simp only [Env.sets, Env.set, BE.den, IE.den, DE.den, DV.int, DV.bool, DV.list, LOp.den, List.map_cons, List.map_nil, Nat.reduceEqDiff, ↓reduceIte, reduceCtorEq, Bool.and_eq_true, Bool.or_eq_true, Bool.not_eq_true', Bool.not_eq_false', Bool.and_eq_false_iff, Bool.or_eq_false_iff, decide_eq_true_eq, decide_eq_false_iff_not]; omega) ?_
      refine h_need (by simp only [Env.sets, Env.set, BE.den, IE.den, DE.den, DV.int, DV.bool, DV.list, LOp.den, List.map_cons, List.map_nil, Nat.reduceEqDiff, ↓reduceIte, reduceCtorEq, Bool.and_eq_true, Bool.or_eq_true, Bool.not_eq_true', Bool.not_eq_false', Bool.and_eq_false_iff, Bool.or_eq_false_iff, decide_eq_true_eq, decide_eq_false_iff_not]; omega) ?_
      refine h_need (by simp only [Env.sets, Env.set, BE.den, IE.den, DE.den, DV.int, DV.bool, DV.list, LOp.den, List.map_cons, List.map_nil, Nat.reduceEqDiff, ↓reduceIte, reduceCtorEq, Bool.and_eq_true, Bool.or_eq_true, Bool.not_eq_true', Bool.not_eq_false', Bool.and_eq_false_iff, Bool.or_eq_false_iff, decide_eq_true_eq, decide_eq_false_iff_not]; omega) ?_
      refine h_ite (fun h => ?_) (fun _ => ?_)
      · exfalso
        simp only [Env.sets, Env.set, BE.den, IE.den, DE.den, DV.int, DV.bool, DV.list, LOp.den, List.map_cons, List.map_nil, Nat.reduceEqDiff, ↓reduceIte, reduceCtorEq, Bool.and_eq_true, Bool.or_eq_true, Bool.not_eq_true', Bool.not_eq_false', Bool.and_eq_false_iff, Bool.or_eq_false_iff, decide_eq_true_eq, decide_eq_false_iff_not] at h
        omega
      refine h_needR ((i : Int) + 1) rfl (by omega) (h_again ⟨⟨i + 1, rfl, by omega⟩, ?_⟩)
      show ((L.length : Int) - ((i : Int) + 1)).toNat < ((L.length : Int) - (i : Int)).toNat
      omega
    · refine h_call (c := c8) rfl trivial fun rs hk hr => ?_
      have hr : rs = [.b true] := hr
      subst hr
      rfl
  · cases hp
theorem pre6 (dvs : List DV) (hh : dvsIn (cts sg6.args) dvs) : c6.pre dvs := by
  simp only [sg6, cts, List.flatMap_cons, List.flatMap_nil, VT.cts, List.append_nil, List.cons_append, List.nil_append] at hh
  match dvs, hh with
  | [.i X, .i Y, .i Z, .i p, .i q, .i r, .i s, .i S], hh => obtain ⟨h0, h1, h2, h3, h4, h5, h6, h7, _⟩ := hh; exact ⟨⟨h0, h1, h2, h3, h4, h5, h6⟩, h7⟩

end Go.Proofs.Ytkoacdplkanhhaa.Fns

/- Layer 5: the laws MatMoves, MatJoins, as functions. -/
import Derived.Test.YthdcbfgaohondaaLaws
set_option linter.unusedVariables false
set_option linter.unusedSimpArgs false
set_option maxRecDepth 10000
namespace Go.Proofs.Ythdcbfgaohondaa.Fns
open Go.Sx Go.Proofs.Ythdcbfgaohondaa.Trees

theorem sc1 {a b c d e f g h : Int} : (a * 65536 * (e * 65536) + b * 65536 * (f * 65536) + c * 65536 * (g * 65536) + d * 65536 * (h * 65536)) / 65536 = (a * e + b * f + c * g + d * h) * 65536 := by
  have : a * 65536 * (e * 65536) + b * 65536 * (f * 65536) + c * 65536 * (g * 65536) + d * 65536 * (h * 65536) = ((a * e + b * f + c * g + d * h) * 65536) * 65536 := by grind
  rw [this, Int.mul_ediv_cancel _ (by omega)]
theorem sc2 {a b c d e f g h : Int} : (a * 65536 * e + b * 65536 * f + c * 65536 * g + d * 65536 * h) / 65536 = a * e + b * f + c * g + d * h := by
  have : a * 65536 * e + b * 65536 * f + c * 65536 * g + d * 65536 * h = (a * e + b * f + c * g + d * h) * 65536 := by grind
  rw [this, Int.mul_ediv_cancel _ (by omega)]
theorem mul_list {A B P : List Int} (hA : rightP A) (hB : rightP B) (hP : prodL A B = P) (hr : rightP P) : [mulI A B 0, mulI A B 1, mulI A B 2, mulI A B 3, mulI A B 4, mulI A B 5, mulI A B 6, mulI A B 7, mulI A B 8, mulI A B 9, mulI A B 10, mulI A B 11, mulI A B 12, mulI A B 13, mulI A B 14, mulI A B 15, mulE A B] = P ++ [0] := by
  subst hP
  rw [(mul_ok hA hB hr).2]
  simp only [(mul_ok hA hB hr).1]
  rfl
theorem app_list {M v Q : List Int} {n : Int} (h1 : appOk M v n) (hQ : appL M v = Q) (hr : near n Q) : [appI M v n 0, appI M v n 1, appI M v n 2, appI M v n 3, appE M v n] = Q ++ [0] := by
  subst hQ
  rw [(app_ok h1 hr).2]
  simp only [(app_ok h1 hr).1]
  rfl
theorem bd4 {a b c d e f g h M K : Int} (hM : 0 ≤ M) (hK : 0 ≤ K) (a1 : -M ≤ a ∧ a ≤ M) (b1 : -M ≤ b ∧ b ≤ M) (c1 : -M ≤ c ∧ c ≤ M) (d1 : -M ≤ d ∧ d ≤ M) (e1 : -K ≤ e ∧ e ≤ K) (f1 : -K ≤ f ∧ f ≤ K) (g1 : -K ≤ g ∧ g ≤ K) (h1 : -K ≤ h ∧ h ≤ K) :
    -(4 * (M * K)) ≤ a * e + b * f + c * g + d * h ∧ a * e + b * f + c * g + d * h ≤ 4 * (M * K) := by
  have k1 := mul_bd a1.1 a1.2 e1.1 e1.2
  have k2 := mul_bd b1.1 b1.2 f1.1 f1.2
  have k3 := mul_bd c1.1 c1.2 g1.1 g1.2
  have k4 := mul_bd d1.1 d1.2 h1.1 h1.2
  omega
theorem move_right {x y z : Int} (hx : -4096 ≤ x ∧ x ≤ 4096) (hy : -4096 ≤ y ∧ y ≤ 4096) (hz : -4096 ≤ z ∧ z ≤ 4096) : rightP (moveL x y z) := by
  intro w hw
  simp only [moveL, List.mem_cons, List.not_mem_nil, or_false] at hw
  rcases hw with rfl | rfl | rfl | rfl | rfl | rfl | rfl | rfl | rfl | rfl | rfl | rfl | rfl | rfl | rfl | rfl <;> unfold inB <;> omega
theorem move_prod {x y z u v w : Int} : prodL (moveL x y z) (moveL u v w) = moveL (x + u) (y + v) (z + w) := by
  simp only [prodL, ent, moveL, List.getD_cons_zero, List.getD_cons_succ, Nat.reduceMul, Nat.reduceAdd, List.cons.injEq, and_true]
  refine ⟨?_, ?_, ?_, ?_, ?_, ?_, ?_, ?_, ?_, ?_, ?_, ?_, ?_, ?_, ?_, ?_⟩ <;> omega
theorem move_app {x y z v0 v1 v2 v3 : Int} : appL (moveL x y z) [v0, v1, v2, v3] = [v0 + x * v3, v1 + y * v3, v2 + z * v3, v3] := by
  have e0 : appE1 (moveL x y z) [v0, v1, v2, v3] 0 = v0 + x * v3 := by
    have := sc2 (a := 1) (b := 0) (c := 0) (d := x) (e := v0) (f := v1) (g := v2) (h := v3)
    simp only [Int.one_mul, Int.zero_mul, Int.add_zero] at this
    show (65536 * v0 + 0 * v1 + 0 * v2 + x * 65536 * v3) / 65536 = v0 + x * v3
    simpa using this
  have e1 : appE1 (moveL x y z) [v0, v1, v2, v3] 1 = v1 + y * v3 := by
    have := sc2 (a := 0) (b := 1) (c := 0) (d := y) (e := v0) (f := v1) (g := v2) (h := v3)
    show (0 * v0 + 65536 * v1 + 0 * v2 + y * 65536 * v3) / 65536 = v1 + y * v3
    simpa using this
  have e2 : appE1 (moveL x y z) [v0, v1, v2, v3] 2 = v2 + z * v3 := by
    have := sc2 (a := 0) (b := 0) (c := 1) (d := z) (e := v0) (f := v1) (g := v2) (h := v3)
    show (0 * v0 + 0 * v1 + 65536 * v2 + z * 65536 * v3) / 65536 = v2 + z * v3
    simpa using this
  have e3 : appE1 (moveL x y z) [v0, v1, v2, v3] 3 = v3 := by
    show (0 * v0 + 0 * v1 + 0 * v2 + 65536 * v3) / 65536 = v3
    omega
  unfold appL
  rw [e0, e1, e2, e3]
def c8 : Contract := CFn sg8 (fun | [.i x0, .i y0, .i z0, .i x1, .i y1, .i z1, .i v0, .i v1, .i v2, .i v3] => True | _ => False) (fun _ => [.b true])
theorem move_list {x y z : Int} (h : moveOk x y z) : [moveI x y z 0, moveI x y z 1, moveI x y z 2, moveI x y z 3, moveI x y z 4, moveI x y z 5, moveI x y z 6, moveI x y z 7, moveI x y z 8, moveI x y z 9, moveI x y z 10, moveI x y z 11, moveI x y z 12, moveI x y z 13, moveI x y z 14, moveI x y z 15, moveE x y z] = moveL x y z ++ [0] := by
  rw [(move_ok h).2]
  simp only [(move_ok h).1]
  rfl
theorem ok8 : ContractOk Try.prog 8 c8 := by
  refine contract_of (Γ := knownOf [(21, cMove sg21), (12, cMul sg12), (9, cApply sg9), (11, c11)]) (known_cons ok21 rfl (known_cons ok12 rfl (known_cons ok9 rfl (known_cons ok11 rfl known_nil)))) Try.func8 rfl rfl is8 fun ds hk hp => ?_
  split at hp
  · skip
    rename_i x0 y0 z0 x1 y1 z1 v0 v1 v2 v3
    refine h_ite (fun g0 => ?_) (fun g0 => ?_)
    · refine h_call (c := c11) rfl trivial fun rs hk hr => ?_
      have hr : rs = [.b true] := hr
      subst hr
      rfl
    simp only [Env.sets, Env.set, BE.den, IE.den, DE.den, DV.int, DV.bool, DV.list, LOp.den, List.map_cons, List.map_nil, Nat.reduceEqDiff, ↓reduceIte, reduceCtorEq, Bool.and_eq_true, Bool.or_eq_true, Bool.not_eq_true', Bool.not_eq_false', Bool.and_eq_false_iff, Bool.or_eq_false_iff, decide_eq_true_eq, decide_eq_false_iff_not] at g0
    refine h_ite (fun g1 => ?_) (fun g1 => ?_)
    · refine h_call (c := c11) rfl trivial fun rs hk hr => ?_
      have hr : rs = [.b true] := hr
      subst hr
      rfl
    simp only [Env.sets, Env.set, BE.den, IE.den, DE.den, DV.int, DV.bool, DV.list, LOp.den, List.map_cons, List.map_nil, Nat.reduceEqDiff, ↓reduceIte, reduceCtorEq, Bool.and_eq_true, Bool.or_eq_true, Bool.not_eq_true', Bool.not_eq_false', Bool.and_eq_false_iff, Bool.or_eq_false_iff, decide_eq_true_eq, decide_eq_false_iff_not] at g1
    refine h_ite (fun g2 => ?_) (fun g2 => ?_)
    · refine h_call (c := c11) rfl trivial fun rs hk hr => ?_
      have hr : rs = [.b true] := hr
      subst hr
      rfl
    simp only [Env.sets, Env.set, BE.den, IE.den, DE.den, DV.int, DV.bool, DV.list, LOp.den, List.map_cons, List.map_nil, Nat.reduceEqDiff, ↓reduceIte, reduceCtorEq, Bool.and_eq_true, Bool.or_eq_true, Bool.not_eq_true', Bool.not_eq_false', Bool.and_eq_false_iff, Bool.or_eq_false_iff, decide_eq_true_eq, decide_eq_false_iff_not] at g2
    refine h_ite (fun k0 => ?_) (fun k0 => ?_)
    · refine h_call (c := c11) rfl trivial fun rs hk hr => ?_
      have hr : rs = [.b true] := hr
      subst hr
      rfl
    simp only [Env.sets, Env.set, BE.den, IE.den, DE.den, DV.int, DV.bool, DV.list, LOp.den, List.map_cons, List.map_nil, Nat.reduceEqDiff, ↓reduceIte, reduceCtorEq, Bool.and_eq_true, Bool.or_eq_true, Bool.not_eq_true', Bool.not_eq_false', Bool.and_eq_false_iff, Bool.or_eq_false_iff, decide_eq_true_eq, decide_eq_false_iff_not] at k0
    refine h_ite (fun k1 => ?_) (fun k1 => ?_)
    · refine h_call (c := c11) rfl trivial fun rs hk hr => ?_
      have hr : rs = [.b true] := hr
      subst hr
      rfl
    simp only [Env.sets, Env.set, BE.den, IE.den, DE.den, DV.int, DV.bool, DV.list, LOp.den, List.map_cons, List.map_nil, Nat.reduceEqDiff, ↓reduceIte, reduceCtorEq, Bool.and_eq_true, Bool.or_eq_true, Bool.not_eq_true', Bool.not_eq_false', Bool.and_eq_false_iff, Bool.or_eq_false_iff, decide_eq_true_eq, decide_eq_false_iff_not] at k1
    refine h_ite (fun k2 => ?_) (fun k2 => ?_)
    · refine h_call (c := c11) rfl trivial fun rs hk hr => ?_
      have hr : rs = [.b true] := hr
      subst hr
      rfl
    simp only [Env.sets, Env.set, BE.den, IE.den, DE.den, DV.int, DV.bool, DV.list, LOp.den, List.map_cons, List.map_nil, Nat.reduceEqDiff, ↓reduceIte, reduceCtorEq, Bool.and_eq_true, Bool.or_eq_true, Bool.not_eq_true', Bool.not_eq_false', Bool.and_eq_false_iff, Bool.or_eq_false_iff, decide_eq_true_eq, decide_eq_false_iff_not] at k2
    refine h_ite (fun k3 => ?_) (fun k3 => ?_)
    · refine h_call (c := c11) rfl trivial fun rs hk hr => ?_
      have hr : rs = [.b true] := hr
      subst hr
      rfl
    simp only [Env.sets, Env.set, BE.den, IE.den, DE.den, DV.int, DV.bool, DV.list, LOp.den, List.map_cons, List.map_nil, Nat.reduceEqDiff, ↓reduceIte, reduceCtorEq, Bool.and_eq_true, Bool.or_eq_true, Bool.not_eq_true', Bool.not_eq_false', Bool.and_eq_false_iff, Bool.or_eq_false_iff, decide_eq_true_eq, decide_eq_false_iff_not] at k3
    have o1 : moveOk x0 y0 z0 := by unfold moveOk; omega
    have o2 : moveOk x1 y1 z1 := by unfold moveOk; omega
    have o3 : moveOk (x0 + x1) (y0 + y1) (z0 + z1) := by unfold moveOk; omega
    refine h_call (c := cMove sg21) rfl trivial fun rs hk hr => ?_
    have hr : rs = List.map DV.i [moveI x0 y0 z0 0, moveI x0 y0 z0 1, moveI x0 y0 z0 2, moveI x0 y0 z0 3, moveI x0 y0 z0 4, moveI x0 y0 z0 5, moveI x0 y0 z0 6, moveI x0 y0 z0 7, moveI x0 y0 z0 8, moveI x0 y0 z0 9, moveI x0 y0 z0 10, moveI x0 y0 z0 11, moveI x0 y0 z0 12, moveI x0 y0 z0 13, moveI x0 y0 z0 14, moveI x0 y0 z0 15, moveE x0 y0 z0] := hr
    rw [move_list o1] at hr
    subst hr
    refine h_call (c := cMove sg21) rfl trivial fun rs hk hr => ?_
    have hr : rs = List.map DV.i [moveI x1 y1 z1 0, moveI x1 y1 z1 1, moveI x1 y1 z1 2, moveI x1 y1 z1 3, moveI x1 y1 z1 4, moveI x1 y1 z1 5, moveI x1 y1 z1 6, moveI x1 y1 z1 7, moveI x1 y1 z1 8, moveI x1 y1 z1 9, moveI x1 y1 z1 10, moveI x1 y1 z1 11, moveI x1 y1 z1 12, moveI x1 y1 z1 13, moveI x1 y1 z1 14, moveI x1 y1 z1 15, moveE x1 y1 z1] := hr
    rw [move_list o2] at hr
    subst hr
    refine h_needR (x0 + x1) rfl (by unfold ok64; omega) ?_
    refine h_needR (y0 + y1) rfl (by unfold ok64; omega) ?_
    refine h_needR (z0 + z1) rfl (by unfold ok64; omega) ?_
    refine h_call (c := cMove sg21) rfl trivial fun rs hk hr => ?_
    have hr : rs = List.map DV.i [moveI (x0 + x1) (y0 + y1) (z0 + z1) 0, moveI (x0 + x1) (y0 + y1) (z0 + z1) 1, moveI (x0 + x1) (y0 + y1) (z0 + z1) 2, moveI (x0 + x1) (y0 + y1) (z0 + z1) 3, moveI (x0 + x1) (y0 + y1) (z0 + z1) 4, moveI (x0 + x1) (y0 + y1) (z0 + z1) 5, moveI (x0 + x1) (y0 + y1) (z0 + z1) 6, moveI (x0 + x1) (y0 + y1) (z0 + z1) 7, moveI (x0 + x1) (y0 + y1) (z0 + z1) 8, moveI (x0 + x1) (y0 + y1) (z0 + z1) 9, moveI (x0 + x1) (y0 + y1) (z0 + z1) 10, moveI (x0 + x1) (y0 + y1) (z0 + z1) 11, moveI (x0 + x1) (y0 + y1) (z0 + z1) 12, moveI (x0 + x1) (y0 + y1) (z0 + z1) 13, moveI (x0 + x1) (y0 + y1) (z0 + z1) 14, moveI (x0 + x1) (y0 + y1) (z0 + z1) 15, moveE (x0 + x1) (y0 + y1) (z0 + z1)] := hr
    rw [move_list o3] at hr
    subst hr
    have r1 : rightP (moveL x0 y0 z0) := move_right (by omega) (by omega) (by omega)
    have r2 : rightP (moveL x1 y1 z1) := move_right (by omega) (by omega) (by omega)
    have r3 : rightP (moveL (x0 + x1) (y0 + y1) (z0 + z1)) := move_right (by omega) (by omega) (by omega)
    refine h_call (c := cMul sg12) rfl trivial fun rs hk hr => ?_
    have hr : rs = List.map DV.i [mulI (moveL x0 y0 z0) (moveL x1 y1 z1) 0, mulI (moveL x0 y0 z0) (moveL x1 y1 z1) 1, mulI (moveL x0 y0 z0) (moveL x1 y1 z1) 2, mulI (moveL x0 y0 z0) (moveL x1 y1 z1) 3, mulI (moveL x0 y0 z0) (moveL x1 y1 z1) 4, mulI (moveL x0 y0 z0) (moveL x1 y1 z1) 5, mulI (moveL x0 y0 z0) (moveL x1 y1 z1) 6, mulI (moveL x0 y0 z0) (moveL x1 y1 z1) 7, mulI (moveL x0 y0 z0) (moveL x1 y1 z1) 8, mulI (moveL x0 y0 z0) (moveL x1 y1 z1) 9, mulI (moveL x0 y0 z0) (moveL x1 y1 z1) 10, mulI (moveL x0 y0 z0) (moveL x1 y1 z1) 11, mulI (moveL x0 y0 z0) (moveL x1 y1 z1) 12, mulI (moveL x0 y0 z0) (moveL x1 y1 z1) 13, mulI (moveL x0 y0 z0) (moveL x1 y1 z1) 14, mulI (moveL x0 y0 z0) (moveL x1 y1 z1) 15, mulE (moveL x0 y0 z0) (moveL x1 y1 z1)] := hr
    rw [mul_list r1 r2 move_prod r3] at hr
    subst hr
    have m0 := mul_bd (a := x0) (b := v3) (A := 2000) (B := 1048576) (by omega) (by omega) (by omega) (by omega)
    have m1 := mul_bd (a := y0) (b := v3) (A := 2000) (B := 1048576) (by omega) (by omega) (by omega) (by omega)
    have m2 := mul_bd (a := z0) (b := v3) (A := 2000) (B := 1048576) (by omega) (by omega) (by omega) (by omega)
    have rv : rightP [v0, v1, v2, v3] := by
      intro w hw
      simp only [List.mem_cons, List.not_mem_nil, or_false] at hw
      rcases hw with rfl | rfl | rfl | rfl <;> unfold inB <;> omega
    have ho : appOk (moveL x0 y0 z0) [v0, v1, v2, v3] 68719476736 := ⟨⟨r1, by omega, by omega⟩, rv⟩
    have hn : near 68719476736 [v0 + x0 * v3, v1 + y0 * v3, v2 + z0 * v3, v3] := by
      intro w hw
      simp only [List.mem_cons, List.not_mem_nil, or_false] at hw
      rcases hw with rfl | rfl | rfl | rfl <;> omega
    refine h_call (c := cApply sg9) rfl trivial fun rs hk hr => ?_
    have hr : rs = List.map DV.i [appI (moveL x0 y0 z0) [v0, v1, v2, v3] 68719476736 0, appI (moveL x0 y0 z0) [v0, v1, v2, v3] 68719476736 1, appI (moveL x0 y0 z0) [v0, v1, v2, v3] 68719476736 2, appI (moveL x0 y0 z0) [v0, v1, v2, v3] 68719476736 3, appE (moveL x0 y0 z0) [v0, v1, v2, v3] 68719476736] := hr
    rw [app_list ho move_app hn] at hr
    subst hr
    refine h_call (c := c11) rfl trivial fun rs hk hr => ?_
    have hr : rs = [.b true] := hr
    subst hr
    iterate 6 refine h_need (by simp [Env.sets, Env.set, BE.den, IE.den, DV.bool, DV.int, moveL]; omega) ?_
    simp [Tree.holds, DE.den, BE.den, IE.den, Env.sets, Env.set, DV.bool, DV.int, moveL]
  · cases hp
theorem pre8 (dvs : List DV) (hh : dvsIn (cts sg8.args) dvs) : c8.pre dvs := by
  simp only [sg8, cts, List.flatMap_cons, List.flatMap_nil, VT.cts, List.append_nil, List.cons_append, List.nil_append] at hh
  match dvs, hh with
  | [.i x0, .i y0, .i z0, .i x1, .i y1, .i z1, .i v0, .i v1, .i v2, .i v3], hh => trivial

end Go.Proofs.Ythdcbfgaohondaa.Fns

/- Layer 12: the laws RectCuts, RectTells, as functions. -/
import Derived.Test.YtdbahmcjdojiaaaFns4
set_option linter.unusedVariables false
set_option linter.unusedSimpArgs false
set_option maxRecDepth 10000
namespace Go.Proofs.Ytdbahmcjdojiaaa.Fns
open Go.Sx Go.Proofs.Ytdbahmcjdojiaaa.Trees

def c7 : Contract := CFn sg7 (fun | [] => True | _ => False) (fun | [] => [.b true] | _ => [])
theorem awake_list : minusL 0 0 3 3 1 1 2 2 = [[0, 0, 3, 1], [0, 2, 3, 3], [0, 1, 1, 2], [2, 1, 3, 2]] := by rfl
theorem ok7 : ContractOk Try.prog 7 c7 := by
  refine contract_of (Γ := knownOf [(11, cMinus sg11), (16, cArea sg16), (15, cHas sg15)]) (known_cons ok11 rfl (known_cons ok16 rfl (known_cons ok15 rfl known_nil))) Try.func7 rfl rfl is7 fun ds hk hp => ?_
  split at hp
  · refine h_call (c := cMinus sg11) rfl trivial fun rs hk hr => ?_
    have hr : rs = [.l (minusL 0 0 3 3 1 1 2 2)] := hr
    rw [awake_list] at hr
    subst hr
    refine h_need (by simp [Env.sets, Env.set, BE.den, IE.den, DV.list]) ?_
    refine h_cally (c := cArea sg16) rfl (by simp [Env.sets, Env.set, BE.den, IE.den, DV.list]) trivial fun rs hk hr => ?_
    have hr : rs = [.i 3] := hr
    subst hr
    refine h_need (by simp [Env.sets, Env.set, BE.den, IE.den, DV.list]) ?_
    refine h_cally (c := cArea sg16) rfl (by simp [Env.sets, Env.set, BE.den, IE.den, DV.list, DV.int]) trivial fun rs hk hr => ?_
    have hr : rs = [.i 1] := hr
    subst hr
    refine h_need (by simp [Env.sets, Env.set, BE.den, IE.den, DV.list]) ?_
    refine h_cally (c := cHas sg15) rfl (by simp [Env.sets, Env.set, BE.den, IE.den, DV.list, DV.int]) trivial fun rs hk hr => ?_
    have hr : rs = [.b true] := hr
    subst hr
    simp [Tree.holds, DE.den, BE.den, IE.den, Env.sets, Env.set, DV.bool, DV.int, DV.list]
  · cases hp

theorem those_le (l : List (List Int)) : (thoseL l).length ≤ l.length := those_len l
theorem minus_len (a b c d e f g h : Int) : (minusL a b c d e f g h).length ≤ 4 := by
  unfold minusL minusX
  split
  · exact those_len _
  · exact Nat.le_trans (those_len _) (by simp)
theorem parts_len (a b c d x y : Int) : (partsL a b c d x y).length ≤ 4 := by
  unfold partsL
  split
  · exact those_len _
  · simp

def c3 : Contract := CFn sg3 (fun | [.i a, .i b, .i c, .i d, .i e, .i f, .i g, .i h, .i x, .i y] => True | _ => False) (fun _ => [.b true])
theorem ok3 : ContractOk Try.prog 3 c3 := by
  refine contract_of (Γ := knownOf [(7, c7), (8, cAnd sg8), (9, cAnd sg9), (11, cMinus sg11), (12, cMinus sg12), (10, c10), (13, cParts sg13), (14, cParts sg14)]) (known_cons ok7 rfl (known_cons ok8 rfl (known_cons ok9 rfl (known_cons ok11 rfl (known_cons ok12 rfl (known_cons ok10 rfl (known_cons ok13 rfl (known_cons ok14 rfl known_nil)))))))) Try.func3 rfl rfl is3 fun ds hk hp => ?_
  split at hp
  · rename_i a b c d e f g h x y
    obtain ⟨p, hp⟩ : ∃ p, andX a b c d e f g h = p := ⟨_, rfl⟩
    refine h_call (c := c7) rfl trivial fun rs hk hr => ?_
    have hr : rs = [.b true] := hr
    subst hr
    refine h_cally (c := cAnd sg8) rfl (by simp [Env.sets, Env.set, BE.den, DV.bool]) trivial fun rs hk hr => ?_
    have hr : rs = andL a b c d e f g h := hr
    rw [andL_eq, hp] at hr
    subst hr
    refine h_cally (c := cAnd sg9) rfl (by simp [Env.sets, Env.set, BE.den, DV.bool]) trivial fun rs hk hr => ?_
    have hr : rs = andL a b c d e f g h := hr
    rw [andL_eq, hp] at hr
    subst hr
    refine h_cally (c := cMinus sg11) rfl (by simp [Env.sets, Env.set, BE.den, IE.den, DV.bool, DV.int]) trivial fun rs hk hr => ?_
    have hr : rs = [.l (minusL a b c d e f g h)] := hr
    subst hr
    refine h_cally (c := cMinus sg12) rfl (by simp [Env.sets, Env.set, BE.den, IE.den, DV.bool, DV.int]) trivial fun rs hk hr => ?_
    have hr : rs = [.l (minusL a b c d e f g h)] := hr
    subst hr
    have hm := minus_len a b c d e f g h
    have hq := parts_len a b c d x y
    refine h_cally (c := c10) rfl (by simp [Env.sets, Env.set, BE.den, IE.den, DV.bool, DV.int]) (show (minusL a b c d e f g h).length ≤ 1000000000 by omega) fun rs hk hr => ?_
    have hr : rs = [.b (same4 (minusL a b c d e f g h) (minusL a b c d e f g h))] := hr
    rw [same_self] at hr
    subst hr
    refine h_cally (c := cParts sg13) rfl (by simp [Env.sets, Env.set, BE.den, IE.den, DV.bool, DV.int]) trivial fun rs hk hr => ?_
    have hr : rs = [.l (partsL a b c d x y)] := hr
    subst hr
    refine h_cally (c := cParts sg14) rfl (by simp [Env.sets, Env.set, BE.den, IE.den, DV.bool, DV.int]) trivial fun rs hk hr => ?_
    have hr : rs = [.l (partsL a b c d x y)] := hr
    subst hr
    refine h_cally (c := c10) rfl (by simp [Env.sets, Env.set, BE.den, IE.den, DV.bool, DV.int]) (show (partsL a b c d x y).length ≤ 1000000000 by omega) fun rs hk hr => ?_
    have hr : rs = [.b (same4 (partsL a b c d x y) (partsL a b c d x y))] := hr
    rw [same_self] at hr
    subst hr
    simp [Tree.holds, DE.den, BE.den, IE.den, Env.sets, Env.set, DV.bool, DV.int]
  · cases hp
theorem pre3 (dvs : List DV) (hh : dvsIn (cts sg3.args) dvs) : c3.pre dvs := by
  simp only [sg3, cts, List.flatMap_cons, List.flatMap_nil, VT.cts, List.append_nil, List.cons_append, List.nil_append] at hh
  match dvs, hh with
  | [.i a, .i b, .i c, .i d, .i e, .i f, .i g, .i h, .i x, .i y], _ => exact trivial

end Go.Proofs.Ytdbahmcjdojiaaa.Fns

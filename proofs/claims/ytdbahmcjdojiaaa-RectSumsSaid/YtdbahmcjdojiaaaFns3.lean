/- Layer 12: what each function does, the rest. -/
import Derived.Test.YtdbahmcjdojiaaaFns2
set_option linter.unusedVariables false
set_option linter.unusedSimpArgs false
set_option maxRecDepth 10000
namespace Go.Proofs.Ytdbahmcjdojiaaa.Fns
open Go.Sx Go.Proofs.Ytdbahmcjdojiaaa.Trees

def andX (a b c d e f g h : Int) : Int × Int × Int × Int := if andOk a b c d e f g h then (max a e, max b f, min c g, min d h) else (0, 0, 0, 0)
theorem andL_eq (a b c d e f g h : Int) : andL a b c d e f g h = [.i (andX a b c d e f g h).1, .i (andX a b c d e f g h).2.1, .i (andX a b c d e f g h).2.2.1, .i (andX a b c d e f g h).2.2.2] := by
  unfold andL andX
  split <;> rfl
def minusX (a b c d : Int) (p : Int × Int × Int × Int) : List (List Int) :=
  if rightB p.1 p.2.1 p.2.2.1 p.2.2.2 then thoseL [[a, b, c, p.2.1], [a, p.2.2.2, c, d], [a, p.2.1, p.1, p.2.2.2], [p.2.2.1, p.2.1, c, p.2.2.2]] else thoseL [[a, b, c, d]]
def minusL (a b c d e f g h : Int) : List (List Int) := minusX a b c d (andX a b c d e f g h)
def partsX (a b c d x y : Int) : List (List Int) := thoseL [[a, b, x, y], [x, b, c, y], [a, y, x, d], [x, y, c, d]]
def partsL (a b c d x y : Int) : List (List Int) := if rightB a b c d then partsX a b c d (max a (min x c)) (max b (min y d)) else []
def cMinus (sg : Sig) : Contract := CFn sg (fun | [.i a, .i b, .i c, .i d, .i e, .i f, .i g, .i h] => True | _ => False) (fun | [.i a, .i b, .i c, .i d, .i e, .i f, .i g, .i h] => [.l (minusL a b c d e f g h)] | _ => [])
def cParts (sg : Sig) : Contract := CFn sg (fun | [.i a, .i b, .i c, .i d, .i x, .i y] => True | _ => False) (fun | [.i a, .i b, .i c, .i d, .i x, .i y] => [.l (partsL a b c d x y)] | _ => [])

theorem ok11 : ContractOk Try.prog 11 (cMinus sg11) := by
  refine contract_of (Γ := knownOf [(8, cAnd sg8), (19, cRight sg19), (23, cThose sg23)]) (known_cons ok8 rfl (known_cons ok19 rfl (known_cons ok23 rfl known_nil))) Try.func11 rfl rfl is11 fun ds hk hp => ?_
  split at hp
  · rename_i a b c d e f g h
    refine h_call (c := cAnd sg8) rfl trivial fun rs hk hr => ?_
    have hr : rs = andL a b c d e f g h := hr
    rw [andL_eq] at hr
    obtain ⟨p, hp⟩ : ∃ p, andX a b c d e f g h = p := ⟨_, rfl⟩
    rw [hp] at hr
    subst hr
    refine h_call (c := cRight sg19) rfl trivial fun rs hk hr => ?_
    have hr : rs = [.b (rightB p.1 p.2.1 p.2.2.1 p.2.2.2)] := hr
    subst hr
    refine h_ite (fun hc => ?_) (fun hc => ?_)
    · have hc : (!(rightB p.1 p.2.1 p.2.2.1 p.2.2.2)) = true := hc
      rw [Bool.not_eq_true'] at hc
      refine h_let (h_call (c := cThose sg23) rfl (show [[a, b, c, d]].length ≤ 1000 by simp) fun rs hk hr => ?_)
      have hr : rs = [.l (thoseL [[a, b, c, d]])] := hr
      subst hr
      show _ = [DV.l (minusL a b c d e f g h)]
      unfold minusL minusX
      rw [hp, hc]
      rfl
    · have hc : (!(rightB p.1 p.2.1 p.2.2.1 p.2.2.2)) = false := hc
      rw [Bool.not_eq_false'] at hc
      refine h_let (h_call (c := cThose sg23) rfl (show [[a, b, c, p.2.1], [a, p.2.2.2, c, d], [a, p.2.1, p.1, p.2.2.2], [p.2.2.1, p.2.1, c, p.2.2.2]].length ≤ 1000 by simp) fun rs hk hr => ?_)
      have hr : rs = [.l (thoseL [[a, b, c, p.2.1], [a, p.2.2.2, c, d], [a, p.2.1, p.1, p.2.2.2], [p.2.2.1, p.2.1, c, p.2.2.2]])] := hr
      subst hr
      show _ = [DV.l (minusL a b c d e f g h)]
      unfold minusL minusX
      rw [hp, hc]
      rfl
  · cases hp

theorem ok12 : ContractOk Try.prog 12 (cMinus sg12) := by
  refine contract_of (Γ := knownOf [(9, cAnd sg9), (20, cRight sg20), (24, cThose sg24)]) (known_cons ok9 rfl (known_cons ok20 rfl (known_cons ok24 rfl known_nil))) Try.func12 rfl rfl is12 fun ds hk hp => ?_
  split at hp
  · rename_i a b c d e f g h
    refine h_call (c := cAnd sg9) rfl trivial fun rs hk hr => ?_
    have hr : rs = andL a b c d e f g h := hr
    rw [andL_eq] at hr
    obtain ⟨p, hp⟩ : ∃ p, andX a b c d e f g h = p := ⟨_, rfl⟩
    rw [hp] at hr
    subst hr
    refine h_call (c := cRight sg20) rfl trivial fun rs hk hr => ?_
    have hr : rs = [.b (rightB p.1 p.2.1 p.2.2.1 p.2.2.2)] := hr
    subst hr
    refine h_ite (fun hc => ?_) (fun hc => ?_)
    · have hc : (!(rightB p.1 p.2.1 p.2.2.1 p.2.2.2)) = true := hc
      rw [Bool.not_eq_true'] at hc
      refine h_let (h_call (c := cThose sg24) rfl (show [[a, b, c, d]].length ≤ 1000 by simp) fun rs hk hr => ?_)
      have hr : rs = [.l (thoseL [[a, b, c, d]])] := hr
      subst hr
      show _ = [DV.l (minusL a b c d e f g h)]
      unfold minusL minusX
      rw [hp, hc]
      rfl
    · have hc : (!(rightB p.1 p.2.1 p.2.2.1 p.2.2.2)) = false := hc
      rw [Bool.not_eq_false'] at hc
      refine h_let (h_call (c := cThose sg24) rfl (show [[a, b, c, p.2.1], [a, p.2.2.2, c, d], [a, p.2.1, p.1, p.2.2.2], [p.2.2.1, p.2.1, c, p.2.2.2]].length ≤ 1000 by simp) fun rs hk hr => ?_)
      have hr : rs = [.l (thoseL [[a, b, c, p.2.1], [a, p.2.2.2, c, d], [a, p.2.1, p.1, p.2.2.2], [p.2.2.1, p.2.1, c, p.2.2.2]])] := hr
      subst hr
      show _ = [DV.l (minusL a b c d e f g h)]
      unfold minusL minusX
      rw [hp, hc]
      rfl
  · cases hp

theorem ok13 : ContractOk Try.prog 13 (cParts sg13) := by
  refine contract_of (Γ := knownOf [(19, cRight sg19), (23, cThose sg23)]) (known_cons ok19 rfl (known_cons ok23 rfl known_nil)) Try.func13 rfl rfl is13 fun ds hk hp => ?_
  split at hp
  · rename_i a b c d x y
    refine h_call (c := cRight sg19) rfl trivial fun rs hk hr => ?_
    have hr : rs = [.b (rightB a b c d)] := hr
    subst hr
    refine h_ite (fun hc => ?_) (fun hc => ?_)
    · have hc : (!(rightB a b c d)) = true := hc
      rw [Bool.not_eq_true'] at hc
      show _ = [DV.l (partsL a b c d x y)]
      unfold partsL
      rw [hc]
      rfl
    · have hc : (!(rightB a b c d)) = false := hc
      rw [Bool.not_eq_false'] at hc
      refine h_let (h_call (c := cThose sg23) rfl (show [[a, b, max a (min x c), max b (min y d)], [max a (min x c), b, c, max b (min y d)], [a, max b (min y d), max a (min x c), d], [max a (min x c), max b (min y d), c, d]].length ≤ 1000 by simp) fun rs hk hr => ?_)
      have hr : rs = [.l (partsX a b c d (max a (min x c)) (max b (min y d)))] := hr
      subst hr
      show _ = [DV.l (partsL a b c d x y)]
      unfold partsL
      rw [hc]
      rfl
  · cases hp

theorem ok14 : ContractOk Try.prog 14 (cParts sg14) := by
  refine contract_of (Γ := knownOf [(20, cRight sg20), (24, cThose sg24)]) (known_cons ok20 rfl (known_cons ok24 rfl known_nil)) Try.func14 rfl rfl is14 fun ds hk hp => ?_
  split at hp
  · rename_i a b c d x y
    refine h_call (c := cRight sg20) rfl trivial fun rs hk hr => ?_
    have hr : rs = [.b (rightB a b c d)] := hr
    subst hr
    refine h_ite (fun hc => ?_) (fun hc => ?_)
    · have hc : (!(rightB a b c d)) = true := hc
      rw [Bool.not_eq_true'] at hc
      show _ = [DV.l (partsL a b c d x y)]
      unfold partsL
      rw [hc]
      rfl
    · have hc : (!(rightB a b c d)) = false := hc
      rw [Bool.not_eq_false'] at hc
      refine h_let (h_call (c := cThose sg24) rfl (show [[a, b, max a (min x c), max b (min y d)], [max a (min x c), b, c, max b (min y d)], [a, max b (min y d), max a (min x c), d], [max a (min x c), max b (min y d), c, d]].length ≤ 1000 by simp) fun rs hk hr => ?_)
      have hr : rs = [.l (partsX a b c d (max a (min x c)) (max b (min y d)))] := hr
      subst hr
      show _ = [DV.l (partsL a b c d x y)]
      unfold partsL
      rw [hc]
      rfl
  · cases hp

end Go.Proofs.Ytdbahmcjdojiaaa.Fns

/- Layer 19: the example; the law DotTells, as functions. -/
import Derived.Test.YtkoacdplkanhhaaPlain
set_option linter.unusedVariables false
set_option linter.unusedSimpArgs false
set_option maxRecDepth 10000
namespace Go.Proofs.Ytkoacdplkanhhaa.Fns
open Go.Sx Go.Proofs.Ytkoacdplkanhhaa.Trees

def c8 : Contract := CFn sg8 (fun | [] => True | _ => False) (fun | [] => [.b true] | _ => [])
theorem wake_point : pointL 128 128 0 0 0 0 0 1 0 (-9) (-9) 9 9 = [[0, 0, 0, 0, 0, 0, 0, 64]] := by decide
theorem wake_box : sizeP 128 128 0 0 0 0 0 2 := by decide
theorem wake_right : rightD 128 128 0 0 0 0 0 64 2 := by decide
theorem ok8 : ContractOk Try.prog 8 c8 := by
  refine contract_of (Γ := knownOf [(14, c14), (11, cBox sg11), (9, cRightD sg9)]) (known_cons ok14 rfl (known_cons ok11 rfl (known_cons ok9 rfl known_nil))) Try.func8 rfl rfl is8 fun ds hk hp => ?_
  split at hp
  · skip
    refine h_call (c := c14) rfl (show (in64 128 ∧ in64 128 ∧ in64 0 ∧ in64 0 ∧ in64 0 ∧ in64 0 ∧ in64 0) ∧ in64 1 ∧ in64 0 by unfold in64; omega) fun rs hk hr => ?_
    have hr : rs = [.l (pointL 128 128 0 0 0 0 0 1 0 (-9) (-9) 9 9)] := hr
    rw [wake_point] at hr
    subst hr
    refine h_need rfl ?_
    refine h_cally (c := cBox sg11) rfl rfl (show (in64 128 ∧ in64 128 ∧ in64 0 ∧ in64 0 ∧ in64 0 ∧ in64 0 ∧ in64 0) ∧ in64 2 by unfold in64; omega) fun rs hk hr => ?_
    have hr : rs = boxL 128 128 0 0 0 0 0 2 := hr
    unfold boxL at hr
    rw [if_pos wake_box] at hr
    have hr : rs = [.i 0, .i 0, .i 2, .i 2] := hr
    subst hr
    refine h_cally (c := cRightD sg9) rfl rfl (show (in64 128 ∧ in64 128 ∧ in64 0 ∧ in64 0 ∧ in64 0 ∧ in64 0 ∧ in64 0) ∧ in64 64 ∧ in64 2 by unfold in64; omega) fun rs hk hr => ?_
    have hr : rs = [.b (decide (rightD 128 128 0 0 0 0 0 64 2))] := hr
    rw [decide_eq_true wake_right] at hr
    subst hr
    rfl
  · cases hp
def c3 : Contract := CFn sg3 (fun | [.i X, .i Y, .i Z, .i p, .i q, .i r, .i s, .i S, .i K, .i a, .i b, .i c, .i d] => (in64 X ∧ in64 Y ∧ in64 Z ∧ in64 p ∧ in64 q ∧ in64 r ∧ in64 s) ∧ in64 S ∧ in64 K | _ => False) (fun _ => [.b true])
theorem ok3 : ContractOk Try.prog 3 c3 := by
  refine contract_of (Γ := knownOf [(7, c7), (8, c8), (9, cRightD sg9), (10, cRightD sg10), (11, cBox sg11), (12, cBox sg12), (14, c14), (15, c15), (13, cSame)]) (known_cons ok7 rfl (known_cons ok8 rfl (known_cons ok9 rfl (known_cons ok10 rfl (known_cons ok11 rfl (known_cons ok12 rfl (known_cons ok14 rfl (known_cons ok15 rfl (known_cons ok13 rfl known_nil))))))))) Try.func3 rfl rfl is3 fun ds hk hp => ?_
  split at hp
  · skip
    rename_i X Y Z p q r s S K a b c d
    refine h_call (c := c7) rfl trivial fun rs hk hr => ?_
    have hr : rs = [.b (!rightB a b c d || decide (areaR a b c d ≤ 400))] := hr
    subst hr
    refine h_ite (fun _ => ?_) (fun g => ?_)
    · refine h_call (c := c8) rfl trivial fun rs hk hr => ?_
      have hr : rs = [.b true] := hr
      subst hr
      rfl
    have g : (!(!rightB a b c d || decide (areaR a b c d ≤ 400))) = false := g
    rw [Bool.not_eq_false', Bool.or_eq_true, Bool.not_eq_true', decide_eq_true_eq] at g
    have har : rightP a b c d → (d - b).toNat * (c - a).toNat ≤ 400 := fun h => by
      have hB : rightB a b c d = true := decide_eq_true h
      rcases g with g | g
      · rw [hB] at g; cases g
      · unfold areaR at g
        rw [if_pos hB] at g
        unfold rightP at h
        have e1 : ((d - b).toNat : Int) = d - b := by omega
        have e2 : ((c - a).toNat : Int) = c - a := by omega
        have : (((d - b).toNat * (c - a).toNat : Nat) : Int) = (c - a) * (d - b) := by rw [Int.natCast_mul, e1, e2, Int.mul_comm]
        omega
    refine h_call (c := c8) rfl trivial fun rs hk hr => ?_
    have hr : rs = [.b true] := hr
    subst hr
    refine h_cally (c := cRightD sg9) rfl rfl hp fun rs hk hr => ?_
    have hr : rs = [.b (decide (rightD X Y Z p q r s S K))] := hr
    subst hr
    refine h_cally (c := cRightD sg10) rfl rfl hp fun rs hk hr => ?_
    have hr : rs = [.b (decide (rightD X Y Z p q r s S K))] := hr
    subst hr
    obtain ⟨B, hB⟩ : ∃ B, B = boxL X Y Z p q r s S := ⟨_, rfl⟩
    obtain ⟨b0, b1, b2, b3, hb⟩ : ∃ b0 b1 b2 b3, boxL X Y Z p q r s S = [.i b0, .i b1, .i b2, .i b3] := by unfold boxL; split <;> exact ⟨_, _, _, _, rfl⟩
    refine h_cally (c := cBox sg11) rfl (by simp [Env.sets, Env.set, BE.den, IE.den, DV.bool, DV.int]) (show _ ∧ _ from ⟨hp.1, hp.2.1⟩) fun rs hk hr => ?_
    have hr : rs = boxL X Y Z p q r s S := hr
    rw [hb] at hr
    subst hr
    refine h_cally (c := cBox sg12) rfl (by simp [Env.sets, Env.set, BE.den, IE.den, DV.bool, DV.int]) (show _ ∧ _ from ⟨hp.1, hp.2.1⟩) fun rs hk hr => ?_
    have hr : rs = boxL X Y Z p q r s S := hr
    rw [hb] at hr
    subst hr
    refine h_cally (c := c14) rfl (by simp [Env.sets, Env.set, BE.den, IE.den, DV.bool, DV.int]) hp fun rs hk hr => ?_
    have hr : rs = [.l (pointL X Y Z p q r s S K a b c d)] := hr
    rw [point_ref] at hr
    subst hr
    refine h_cally (c := c15) rfl (by simp [Env.sets, Env.set, BE.den, IE.den, DV.bool, DV.int]) (show _ ∧ (rightP a b c d → (d - b).toNat * (c - a).toNat ≤ 1000000000) from ⟨hp, fun h => by have := har h; omega⟩) fun rs hk hr => ?_
    have hr : rs = [.l (refL X Y Z p q r s S K a b c d)] := hr
    subst hr
    have hlen : (refL X Y Z p q r s S K a b c d).length ≤ 1000000000 := by
      unfold refL
      split
      · rename_i h
        have h1 := all_len (g := gR X Y Z p q r s S K) (a := a) (b := b) (c := c) (d := d)
        have h2 := har (of_decide_eq_true h.2)
        omega
      · simp
    refine h_cally (c := cSame) rfl (by simp [Env.sets, Env.set, BE.den, IE.den, DV.bool, DV.int]) (show _ ∧ _ from ⟨rfl, hlen⟩) fun rs hk hr => ?_
    have hr : rs = [.b true] := hr
    subst hr
    simp [Tree.holds, DE.den, BE.den, IE.den, Env.sets, Env.set, DV.bool, DV.int]
  · cases hp
theorem pre3 (dvs : List DV) (hh : dvsIn (cts sg3.args) dvs) : c3.pre dvs := by
  simp only [sg3, cts, List.flatMap_cons, List.flatMap_nil, VT.cts, List.append_nil, List.cons_append, List.nil_append] at hh
  match dvs, hh with
  | [.i X, .i Y, .i Z, .i p, .i q, .i r, .i s, .i S, .i K, .i a, .i b, .i c, .i d], hh => obtain ⟨h0, h1, h2, h3, h4, h5, h6, h7, h8, _⟩ := hh; exact ⟨⟨h0, h1, h2, h3, h4, h5, h6⟩, h7, h8⟩

end Go.Proofs.Ytkoacdplkanhhaa.Fns

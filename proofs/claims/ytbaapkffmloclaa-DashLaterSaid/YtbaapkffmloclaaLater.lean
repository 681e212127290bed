/- Layer 15: the law DashLater, as a function. -/
import Derived.Test.YtbaapkffmloclaaLaws
set_option linter.unusedVariables false
set_option linter.unusedSimpArgs false
set_option maxRecDepth 10000
namespace Go.Proofs.Ytbaapkffmloclaa.Fns
open Go.Sx Go.Proofs.Ytbaapkffmloclaa.Trees

theorem lit_shift {p r c k c' k' t : Int} (hr : 1 ≤ r) (h : c' + k' = c + k + (16 * t) * r) : litB p r c' k' = litB p r c k := by
  unfold litB bitB
  have e : (c' + k') / r = (c + k) / r + 16 * t := by rw [h, Int.add_mul_ediv_right _ _ (by omega)]
  have e2 : ((c + k) / r + 16 * t) % 16 = (c + k) / r % 16 := by omega
  rw [e, e2]

theorem later {p r c n k : Int} (hr : 1 ≤ r) : litB p r ((c + n) % (16 * r)) k = litB p r c (n + k) := by
  have h := Int.emod_add_mul_ediv (c + n) (16 * r)
  refine lit_shift (t := -((c + n) / (16 * r))) hr ?_
  have e : 16 * r * ((c + n) / (16 * r)) = 16 * ((c + n) / (16 * r)) * r := by rw [Int.mul_assoc, Int.mul_assoc, Int.mul_comm r]
  have e2 : 16 * -((c + n) / (16 * r)) * r = -(16 * ((c + n) / (16 * r)) * r) := by rw [Int.mul_neg, Int.neg_mul]
  rw [e2]
  rw [e] at h
  omega
theorem round {p r c k : Int} (hr : 1 ≤ r) : litB p r c (k + 16 * r) = litB p r c k := lit_shift (t := 1) hr (by omega)
theorem next_next {r c n k : Int} : ((c + n) % (16 * r) + k) % (16 * r) = (c + (n + k)) % (16 * r) := by
  rw [Int.emod_add_emod, Int.add_assoc]

theorem ok6 : ContractOk Try.prog 6 c6 := by
  refine contract_of (Γ := knownOf [(7, c7), (14, c14), (8, c8), (12, c12), (16, c16)]) (known_cons ok7 rfl (known_cons ok14 rfl (known_cons ok8 rfl (known_cons ok12 rfl (known_cons ok16 rfl known_nil))))) Try.func6 rfl rfl is6 fun ds hk hp => ?_
  split at hp
  · rename_i p r c n k
    refine h_call (c := c7) rfl trivial fun rs hk hr => ?_
    have hr : rs = [.b (rightB p r c)] := hr
    subst hr
    refine h_callg (c := c14) rfl (fun _ => trivial) fun rs hk hr1 => ?_
    obtain ⟨b1, rfl⟩ := kinds1b hk
    refine h_callg (c := c14) rfl (fun _ => trivial) fun rs hk hr2 => ?_
    obtain ⟨b2, rfl⟩ := kinds1b hk
    refine h_ite (fun hc => ?_) (fun hc => ?_)
    · refine h_call (c := c8) rfl trivial fun rs hk hr => ?_
      have hr : rs = [.b true] := hr
      subst hr
      simp [Tree.holds, DE.den, BE.den, Env.sets, Env.set, DV.bool]
    · simp only [Env.sets, Env.set, BE.den, IE.den, DV.int, DV.list, DV.bool, Nat.reduceEqDiff, ↓reduceIte, reduceCtorEq, Bool.or_eq_false_iff, Bool.not_eq_false', decide_eq_false_iff_not] at hc
      obtain ⟨⟨⟨⟨hR, rfl⟩, rfl⟩, hn3⟩, hk3⟩ := hc
      have e1 : [DV.b false] = [DV.b (farB n)] := hr1 (by simp [BE.den, Env.sets, Env.set, DV.bool, hR])
      have e2 : [DV.b false] = [DV.b (farB k)] := hr2 (by simp [BE.den, Env.sets, Env.set, DV.bool, hR])
      simp only [List.cons.injEq, DV.b.injEq, and_true, farB] at e1 e2
      have e1 := e1.symm
      have e2 := e2.symm
      simp only [Bool.or_eq_false_iff, decide_eq_false_iff_not] at e1 e2
      obtain ⟨g1, g2, g3, g4, g5, g6⟩ := right_spec hR
      refine h_call (c := c16) rfl (show litPre p r c n from ⟨g1, g2, g3, g4, g5, by omega, by omega, by omega⟩) fun rs hk hr => ?_
      obtain ⟨c', hc'⟩ : ∃ c', (c + n) % (16 * r) = c' := ⟨_, rfl⟩
      have hr : rs = [.i p, .i r, .i ((c + n) % (16 * r))] := hr
      rw [hc'] at hr
      subst hr
      have hc0 : 0 ≤ c' := by rw [← hc']; exact Int.emod_nonneg _ (by omega)
      have hc1 : c' < 16 * r := by rw [← hc']; exact Int.emod_lt_of_pos _ (by omega)
      have hR' : rightB p r c' = true := by
        simp only [rightB, Bool.and_eq_true, decide_eq_true_eq]
        omega
      refine h_call (c := c7) rfl trivial fun rs hk hr => ?_
      have hr : rs = [.b (rightB p r c')] := hr
      rw [hR'] at hr
      subst hr
      refine h_ite (fun hc => ?_) (fun _ => ?_)
      · simp [BE.den, IE.den, Env.sets, Env.set, DV.bool, DV.int] at hc
      · refine h_call (c := c8) rfl trivial fun rs hk hr => ?_
        have hr : rs = [.b true] := hr
        subst hr
        refine h_need (by simp only [Env.sets, Env.set, BE.den, IE.den, DV.int, DV.bool, Nat.reduceEqDiff, ↓reduceIte, reduceCtorEq, Bool.or_eq_true, Bool.and_eq_true, decide_eq_true_eq]; omega) ?_
        refine h_cally (c := c12) rfl (by simp [Env.sets, Env.set, BE.den, DV.bool]) (show litPre p r c' k from ⟨g1, g2, g3, g4, hc0, by omega, by omega, by omega⟩) fun rs hk hr => ?_
        have hr : rs = [.b (litB p r c' k)] := hr
        rw [← hc', later g3] at hr
        subst hr
        refine h_cally (c := c12) rfl (by simp [Env.sets, Env.set, BE.den, DV.bool]) (show litPre p r c (n + k) from ⟨g1, g2, g3, g4, g5, by omega, by omega, by omega⟩) fun rs hk hr => ?_
        have hr : rs = [.b (litB p r c (n + k))] := hr
        subst hr
        refine h_need (by simp only [Env.sets, Env.set, BE.den, IE.den, DV.int, DV.bool, Nat.reduceEqDiff, ↓reduceIte, reduceCtorEq, Bool.or_eq_true, Bool.and_eq_true, decide_eq_true_eq]; omega) ?_
        refine h_need (by simp only [Env.sets, Env.set, BE.den, IE.den, DV.int, DV.bool, Nat.reduceEqDiff, ↓reduceIte, reduceCtorEq, Bool.or_eq_true, Bool.and_eq_true, decide_eq_true_eq]; omega) ?_
        refine h_cally (c := c12) rfl (by simp [Env.sets, Env.set, BE.den, DV.bool]) (show litPre p r c k from ⟨g1, g2, g3, g4, g5, by omega, by omega, by omega⟩) fun rs hk hr => ?_
        have hr : rs = [.b (litB p r c k)] := hr
        subst hr
        refine h_cally (c := c12) rfl (by simp [Env.sets, Env.set, BE.den, DV.bool]) (show litPre p r c (k + 16 * r) from ⟨g1, g2, g3, g4, g5, by omega, by omega, by omega⟩) fun rs hk hr => ?_
        have hr : rs = [.b (litB p r c (k + 16 * r))] := hr
        rw [round g3] at hr
        subst hr
        refine h_need (by simp only [Env.sets, Env.set, BE.den, IE.den, DV.int, DV.bool, Nat.reduceEqDiff, ↓reduceIte, reduceCtorEq, Bool.or_eq_true, Bool.and_eq_true, decide_eq_true_eq]; omega) ?_
        refine h_cally (c := c16) rfl (by simp [Env.sets, Env.set, BE.den, DV.bool]) (show litPre p r c' k from ⟨g1, g2, g3, g4, hc0, by omega, by omega, by omega⟩) fun rs hk hr => ?_
        have hr : rs = [.i p, .i r, .i ((c' + k) % (16 * r))] := hr
        rw [← hc', next_next] at hr
        subst hr
        refine h_cally (c := c16) rfl (by simp [Env.sets, Env.set, BE.den, DV.bool]) (show litPre p r c (n + k) from ⟨g1, g2, g3, g4, g5, by omega, by omega, by omega⟩) fun rs hk hr => ?_
        have hr : rs = [.i p, .i r, .i ((c + (n + k)) % (16 * r))] := hr
        subst hr
        simp [Tree.holds, DE.den, BE.den, IE.den, Env.sets, Env.set, DV.bool, DV.int]
  · cases hp

theorem pre6 (dvs : List DV) (h : dvsIn (cts sg6.args) dvs) : c6.pre dvs := by
  simp only [sg6, cts, List.flatMap_cons, List.flatMap_nil, VT.cts, List.append_nil, List.cons_append, List.nil_append] at h
  match dvs, h with
  | [.i p, .i r, .i c, .i n, .i k], _ => exact trivial

end Go.Proofs.Ytbaapkffmloclaa.Fns

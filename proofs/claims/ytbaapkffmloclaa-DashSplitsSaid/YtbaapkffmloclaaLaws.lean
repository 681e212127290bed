/- Layer 15: the laws, as functions. -/
import Derived.Test.YtbaapkffmloclaaRuns2
import Derived.Test.YtbaapkffmloclaaSxH2
set_option linter.unusedVariables false
set_option linter.unusedSimpArgs false
set_option maxRecDepth 10000
namespace Go.Proofs.Ytbaapkffmloclaa.Fns
open Go.Sx Go.Proofs.Ytbaapkffmloclaa.Trees

theorem right_spec {p r c : Int} (h : rightB p r c = true) : 0 ≤ p ∧ p ≤ 65535 ∧ 1 ≤ r ∧ r ≤ 256 ∧ 0 ≤ c ∧ c ≤ 1099511627776 := by
  simp only [rightB, Bool.and_eq_true, decide_eq_true_eq] at h
  omega

def c3 : Contract := CFn sg3 (fun | [.i p, .i r, .i c, .i n] => True | _ => False) (fun _ => [.b true])
def c5 : Contract := CFn sg5 (fun | [.i p, .i r, .i c, .i k, .i n] => in64 p ∧ in64 r ∧ in64 c | _ => False) (fun _ => [.b true])
def c6 : Contract := CFn sg6 (fun | [.i p, .i r, .i c, .i n, .i k] => True | _ => False) (fun _ => [.b true])

theorem ok3 : ContractOk Try.prog 3 c3 := by
  refine contract_of (Γ := knownOf [(7, c7), (8, c8), (10, c10), (11, c11), (9, c9)]) (known_cons ok7 rfl (known_cons ok8 rfl (known_cons ok10 rfl (known_cons ok11 rfl (known_cons ok9 rfl known_nil))))) Try.func3 rfl rfl is3 fun ds hk hp => ?_
  split at hp
  · rename_i p r c n
    refine h_call (c := c7) rfl trivial fun rs hk hr => ?_
    have hr : rs = [.b (rightB p r c)] := hr
    subst hr
    refine h_ite (fun hc => ?_) (fun hc => ?_)
    · refine h_call (c := c8) rfl trivial fun rs hk hr => ?_
      have hr : rs = [.b true] := hr
      subst hr
      simp [Tree.holds, DE.den, BE.den, Env.sets, Env.set, DV.bool]
    · simp only [Env.sets, Env.set, BE.den, IE.den, DV.int, DV.list, DV.bool, Nat.reduceEqDiff, ↓reduceIte, reduceCtorEq, Bool.or_eq_false_iff, Bool.not_eq_false', decide_eq_false_iff_not] at hc
      obtain ⟨⟨hR, hn0⟩, hn1⟩ := hc
      obtain ⟨g1, g2, g3, g4, g5, g6⟩ := right_spec hR
      have hl : litPre p r c n ∧ c ≤ 1099511627776 ∧ n ≤ 100000 := ⟨⟨g1, g2, g3, g4, g5, by omega, by omega, by omega⟩, g6, by omega⟩
      refine h_call (c := c8) rfl trivial fun rs hk hr => ?_
      have hr : rs = [.b true] := hr
      subst hr
      refine h_cally (c := c10) rfl (by simp [Env.sets, Env.set, BE.den, DV.bool]) hl fun rs hk hr => ?_
      have hr : rs = [.l (runsN p r c n.toNat)] := hr
      subst hr
      refine h_cally (c := c11) rfl (by simp [Env.sets, Env.set, BE.den, DV.bool]) hl fun rs hk hr => ?_
      have hr : rs = [.l (runsN p r c n.toNat)] := hr
      subst hr
      refine h_cally (c := c9) rfl (by simp [Env.sets, Env.set, BE.den, DV.bool]) ?_ fun rs hk hr => ?_
      · show (runsN p r c n.toNat).length ≤ 1000000000
        have := runsN_len p r c n.toNat
        omega
      · have hr : rs = [.b (sameB (runsN p r c n.toNat) (runsN p r c n.toNat))] := hr
        rw [same_self] at hr
        subst hr
        simp [Tree.holds, DE.den, BE.den, Env.sets, Env.set, DV.bool]
  · cases hp

def farB (n : Int) : Bool := decide (n < 0) || decide (1099511627776 < n)

theorem ok5 : ContractOk Try.prog 5 c5 := by
  refine contract_of (Γ := knownOf [(13, c13), (7, c7), (14, c14), (8, c8), (12, c12), (15, c15), (16, c16), (17, c17)]) (known_cons ok13 rfl (known_cons ok7 rfl (known_cons ok14 rfl (known_cons ok8 rfl (known_cons ok12 rfl (known_cons ok15 rfl (known_cons ok16 rfl (known_cons ok17 rfl known_nil)))))))) Try.func5 rfl rfl is5 fun ds hk hp => ?_
  split at hp
  · rename_i p r c k n
    refine h_call (c := c13) rfl hp fun rs hk hr => ?_
    have hr : rs = [.b (rightB p r c)] := hr
    subst hr
    refine h_call (c := c7) rfl trivial fun rs hk hr => ?_
    have hr : rs = [.b (rightB p r c)] := hr
    subst hr
    refine h_ite (fun hc => ?_) (fun _ => ?_)
    · simp [BE.den, Env.sets, Env.set, DV.bool] at hc
    · refine h_call (c := c7) rfl trivial fun rs hk hr => ?_
      have hr : rs = [.b (rightB p r c)] := hr
      subst hr
      refine h_callg (c := c14) rfl (fun _ => trivial) fun rs hk hr1 => ?_
      obtain ⟨b1, rfl⟩ := kinds1b hk
      refine h_callg (c := c14) rfl (fun _ => trivial) fun rs hk hr2 => ?_
      obtain ⟨b2, rfl⟩ := kinds1b hk
      refine h_ite (fun hc => ?_) (fun hc => ?_)
      · refine h_call (c := c8) rfl trivial fun rs hk hr => ?_
        have hr : rs = [.b true] := hr
        subst hr
        simp [Tree.holds, DE.den, BE.den, Env.sets, Env.set, DV.bool]
      · simp only [Env.sets, Env.set, BE.den, IE.den, DV.int, DV.list, DV.bool, Nat.reduceEqDiff, ↓reduceIte, reduceCtorEq, Bool.or_eq_false_iff, Bool.not_eq_false', decide_eq_false_iff_not] at hc
        obtain ⟨⟨hR, rfl⟩, rfl⟩ := hc
        have e1 : [DV.b false] = [DV.b (farB k)] := hr1 (by simp [BE.den, Env.sets, Env.set, DV.bool, hR])
        have e2 : [DV.b false] = [DV.b (farB n)] := hr2 (by simp [BE.den, Env.sets, Env.set, DV.bool, hR])
        simp only [List.cons.injEq, DV.b.injEq, and_true, farB] at e1 e2
        have e1 := e1.symm
        have e2 := e2.symm
        simp only [Bool.or_eq_false_iff, decide_eq_false_iff_not] at e1 e2
        obtain ⟨g1, g2, g3, g4, g5, g6⟩ := right_spec hR
        refine h_call (c := c8) rfl trivial fun rs hk hr => ?_
        have hr : rs = [.b true] := hr
        subst hr
        refine h_cally (c := c12) rfl (by simp [Env.sets, Env.set, BE.den, DV.bool]) (show litPre p r c k from ⟨g1, g2, g3, g4, g5, by omega, by omega, by omega⟩) fun rs hk hr => ?_
        have hr : rs = [.b (litB p r c k)] := hr
        subst hr
        refine h_cally (c := c15) rfl (by simp [Env.sets, Env.set, BE.den, DV.bool]) (show litPre p r c k from ⟨g1, g2, g3, g4, g5, by omega, by omega, by omega⟩) fun rs hk hr => ?_
        have hr : rs = [.b (litB p r c k)] := hr
        subst hr
        refine h_cally (c := c16) rfl (by simp [Env.sets, Env.set, BE.den, DV.bool]) (show litPre p r c n from ⟨g1, g2, g3, g4, g5, by omega, by omega, by omega⟩) fun rs hk hr => ?_
        have hr : rs = [.i p, .i r, .i ((c + n) % (16 * r))] := hr
        subst hr
        refine h_cally (c := c17) rfl (by simp [Env.sets, Env.set, BE.den, DV.bool]) (show litPre p r c n from ⟨g1, g2, g3, g4, g5, by omega, by omega, by omega⟩) fun rs hk hr => ?_
        have hr : rs = [.i p, .i r, .i ((c + n) % (16 * r))] := hr
        subst hr
        simp [Tree.holds, DE.den, BE.den, IE.den, Env.sets, Env.set, DV.bool, DV.int]
  · cases hp

theorem pre3 (dvs : List DV) (h : dvsIn (cts sg3.args) dvs) : c3.pre dvs := by
  simp only [sg3, cts, List.flatMap_cons, List.flatMap_nil, VT.cts, List.append_nil, List.cons_append, List.nil_append] at h
  match dvs, h with
  | [.i p, .i r, .i c, .i n], _ => exact trivial

end Go.Proofs.Ytbaapkffmloclaa.Fns

/- Layer 12: the law RectTells, as a function. -/
import Derived.Test.YtdbahmcjdojiaaaLaws
set_option linter.unusedVariables false
set_option linter.unusedSimpArgs false
set_option maxRecDepth 10000
namespace Go.Proofs.Ytdbahmcjdojiaaa.Fns
open Go.Sx Go.Proofs.Ytdbahmcjdojiaaa.Trees

theorem make_shape (x y w h : Int) : ∃ q0 q1 q2 q3 q4, makeL x y w h = [.i q0, .i q1, .i q2, .i q3, .b q4] := by
  unfold makeL
  split
  · exact ⟨_, _, _, _, _, rfl⟩
  · exact ⟨_, _, _, _, _, rfl⟩

def c6 : Contract := CFn sg6 (fun | [.i a, .i b, .i c, .i d, .i x, .i y, .i w, .i h] => True | _ => False) (fun _ => [.b true])
theorem ok6 : ContractOk Try.prog 6 c6 := by
  refine contract_of (Γ := knownOf [(17, cMake sg17), (18, cMake sg18), (7, c7), (19, cRight sg19), (20, cRight sg20), (16, cArea sg16), (21, cArea sg21), (15, cHas sg15), (22, cHas sg22)]) (known_cons ok17 rfl (known_cons ok18 rfl (known_cons ok7 rfl (known_cons ok19 rfl (known_cons ok20 rfl (known_cons ok16 rfl (known_cons ok21 rfl (known_cons ok15 rfl (known_cons ok22 rfl known_nil))))))))) Try.func6 rfl rfl is6 fun ds hk hp => ?_
  split at hp
  · rename_i a b c d x y w h
    obtain ⟨q0, q1, q2, q3, q4, hq⟩ := make_shape x y w h
    refine h_call (c := cMake sg17) rfl trivial fun rs hk hr => ?_
    have hr : rs = makeL x y w h := hr
    rw [hq] at hr
    subst hr
    refine h_call (c := cMake sg18) rfl trivial fun rs hk hr => ?_
    have hr : rs = makeL x y w h := hr
    rw [hq] at hr
    subst hr
    refine h_call (c := c7) rfl trivial fun rs hk hr => ?_
    have hr : rs = [.b true] := hr
    subst hr
    refine h_cally (c := cRight sg19) rfl (by simp [Env.sets, Env.set, BE.den, DV.bool]) trivial fun rs hk hr => ?_
    have hr : rs = [.b (rightB a b c d)] := hr
    subst hr
    refine h_cally (c := cRight sg20) rfl (by simp [Env.sets, Env.set, BE.den, DV.bool]) trivial fun rs hk hr => ?_
    have hr : rs = [.b (rightB a b c d)] := hr
    subst hr
    refine h_cally (c := cArea sg16) rfl (by simp [Env.sets, Env.set, BE.den, DV.bool]) trivial fun rs hk hr => ?_
    have hr : rs = [.i (areaR a b c d)] := hr
    subst hr
    refine h_cally (c := cArea sg21) rfl (by simp [Env.sets, Env.set, BE.den, DV.bool]) trivial fun rs hk hr => ?_
    have hr : rs = [.i (areaR a b c d)] := hr
    subst hr
    refine h_cally (c := cHas sg15) rfl (by simp [Env.sets, Env.set, BE.den, IE.den, DV.bool, DV.int]) trivial fun rs hk hr => ?_
    have hr : rs = [.b (hasB a b c d x y)] := hr
    subst hr
    refine h_cally (c := cHas sg22) rfl (by simp [Env.sets, Env.set, BE.den, IE.den, DV.bool, DV.int]) trivial fun rs hk hr => ?_
    have hr : rs = [.b (hasB a b c d x y)] := hr
    subst hr
    simp [Tree.holds, DE.den, BE.den, IE.den, Env.sets, Env.set, DV.bool, DV.int]
  · cases hp
theorem pre6 (dvs : List DV) (hh : dvsIn (cts sg6.args) dvs) : c6.pre dvs := by
  simp only [sg6, cts, List.flatMap_cons, List.flatMap_nil, VT.cts, List.append_nil, List.cons_append, List.nil_append] at hh
  match dvs, hh with
  | [.i a, .i b, .i c, .i d, .i x, .i y, .i w, .i h], _ => exact trivial

end Go.Proofs.Ytdbahmcjdojiaaa.Fns

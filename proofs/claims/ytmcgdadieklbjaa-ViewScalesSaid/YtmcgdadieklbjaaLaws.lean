/- Layer 11: the laws, as functions. -/
import Derived.Test.YtmcgdadieklbjaaMap
set_option linter.unusedVariables false
set_option linter.unusedSimpArgs false
set_option maxRecDepth 10000
namespace Go.Proofs.Ytmcgdadieklbjaa.Fns
open Go.Sx Go.Proofs.Ytmcgdadieklbjaa.Trees

def c3 : Contract := CFn sg3 (fun | [.i x, .i y, .i z, .i w, .i a, .i b, .i c, .i d, .i px, .i py, .i pw, .i ph, .i u] => vert64 x y z w a b c d ∧ port64 px py pw ph ∧ in64 u | _ => False) (fun _ => [.b true])
def c4 : Contract := CFn sg4 (fun | [.i x, .i y, .i z, .i w, .i a, .i b, .i c, .i d, .i px, .i py, .i pw, .i ph] => vert64 x y z w a b c d ∧ port64 px py pw ph | _ => False) (fun _ => [.b true])
def c5 : Contract := CFn sg5 (fun | [.i x, .i y, .i z, .i w, .i a, .i b, .i c, .i d, .i px, .i py, .i pw, .i ph, .i k] => vert64 x y z w a b c d ∧ port64 px py pw ph ∧ 0 ≤ k ∧ k ≤ 255 | _ => False) (fun _ => [.b true])
def c6 : Contract := CFn sg6 (fun | [.i x, .i y, .i z, .i w, .i a, .i b, .i c, .i d, .i px, .i py, .i pw, .i ph, .i mx, .i my] => vert64 x y z w a b c d ∧ port64 px py pw ph ∧ (-32768 ≤ mx ∧ mx ≤ 32767) ∧ (-32768 ≤ my ∧ my ≤ 32767) | _ => False) (fun _ => [.b true])
def c7 : Contract := CFn sg7 (fun | [.i x, .i y, .i z, .i w, .i a, .i b, .i c, .i d, .i px, .i py, .i pw, .i ph, .i k] => vert64 x y z w a b c d ∧ port64 px py pw ph ∧ 0 ≤ k ∧ k ≤ 65535 | _ => False) (fun _ => [.b true])

/-- What a map gives: a place, or none. -/
theorem map_cases (x y z w a b c d px py pw ph : Int) :
    (∃ e, e ≠ 0 ∧ mapV x y z w a b c d px py pw ph = bad e) ∨
    (rightB px py pw ph = true ∧ fitsB x y z w a b c d = true ∧ farB (side px pw x w) (side py ph y w) = false ∧ mapV x y z w a b c d px py pw ph = [.i (side px pw x w), .i (side py ph y w), .i (deep z w), .i a, .i b, .i c, .i d, .i 0]) := by
  unfold mapV
  cases hR : rightB px py pw ph
  · exact .inl ⟨1, by omega, rfl⟩
  · cases hF : fitsB x y z w a b c d
    · exact .inl ⟨1, by omega, rfl⟩
    · cases hX : farB (side px pw x w) (side py ph y w)
      · exact .inr ⟨rfl, rfl, rfl, rfl⟩
      · exact .inl ⟨9, by omega, rfl⟩

theorem map_shape (x y z w a b c d px py pw ph : Int) : ∃ q0 q1 q2 q3 q4 q5 q6 q7, mapV x y z w a b c d px py pw ph = [.i q0, .i q1, .i q2, .i q3, .i q4, .i q5, .i q6, .i q7] := by
  rcases map_cases x y z w a b c d px py pw ph with ⟨e, _, h⟩ | ⟨_, _, _, h⟩
  · exact ⟨0, 0, 0, 0, 0, 0, 0, e, h⟩
  · exact ⟨_, _, _, _, _, _, _, _, h⟩

theorem ok3 : ContractOk Try.prog 3 c3 := by
  refine contract_of (Γ := knownOf [(8, c8), (9, c9), (10, c10), (11, c11), (12, c12), (13, c13), (14, c14)]) (known_cons ok8 rfl (known_cons ok9 rfl (known_cons ok10 rfl (known_cons ok11 rfl (known_cons ok12 rfl (known_cons ok13 rfl (known_cons ok14 rfl known_nil))))))) Try.func3 rfl rfl is3 fun ds hk hp => ?_
  split at hp
  · rename_i x y z w a b c d px py pw ph u
    obtain ⟨hv, hpt, hu⟩ := hp
    obtain ⟨q0, q1, q2, q3, q4, q5, q6, q7, hq⟩ := map_shape x y z w a b c d px py pw ph
    refine h_call (c := c8) rfl ⟨hv, hpt⟩ fun rs hk hr => ?_
    have hr : rs = mapV x y z w a b c d px py pw ph := hr
    rw [hq] at hr
    subst hr
    refine h_call (c := c9) rfl trivial fun rs hk hr => ?_
    have hr : rs = mapV x y z w a b c d px py pw ph := hr
    rw [hq] at hr
    subst hr
    refine h_call (c := c10) rfl trivial fun rs hk hr => ?_
    have hr : rs = [.b true] := hr
    subst hr
    refine h_cally (c := c11) rfl (by simp [Env.sets, Env.set, BE.den, IE.den, DV.bool, DV.int]) hpt fun rs hk hr => ?_
    have hr : rs = [.b (rightB px py pw ph)] := hr
    subst hr
    refine h_cally (c := c12) rfl (by simp [Env.sets, Env.set, BE.den, IE.den, DV.bool, DV.int]) trivial fun rs hk hr => ?_
    have hr : rs = [.b (rightB px py pw ph)] := hr
    subst hr
    refine h_cally (c := c13) rfl (by simp [Env.sets, Env.set, BE.den, IE.den, DV.bool, DV.int]) trivial fun rs hk hr => ?_
    have hr : rs = [.i (u / 256)] := hr
    subst hr
    refine h_cally (c := c14) rfl (by simp [Env.sets, Env.set, BE.den, IE.den, DV.bool, DV.int]) hu fun rs hk hr => ?_
    have hr : rs = [.i (u / 256)] := hr
    subst hr
    simp [Tree.holds, DE.den, BE.den, IE.den, Env.sets, Env.set, DV.bool, DV.int]
  · cases hp

theorem pre3 (dvs : List DV) (h : dvsIn (cts sg3.args) dvs) : c3.pre dvs := by
  simp only [sg3, cts, List.flatMap_cons, List.flatMap_nil, VT.cts, List.append_nil, List.cons_append, List.nil_append] at h
  match dvs, h with
  | [.i x, .i y, .i z, .i w, .i a, .i b, .i c, .i d, .i px, .i py, .i pw, .i ph, .i u], ⟨h0, h1, h2, h3, h4, h5, h6, h7, h8, h9, h10, h11, h12, _⟩ => exact ⟨⟨⟨h0, h1, h2, h3⟩, h4, h5, h6, h7⟩, ⟨h8, h9, h10, h11⟩, h12⟩
theorem pre4 (dvs : List DV) (h : dvsIn (cts sg4.args) dvs) : c4.pre dvs := by
  simp only [sg4, cts, List.flatMap_cons, List.flatMap_nil, VT.cts, List.append_nil, List.cons_append, List.nil_append] at h
  match dvs, h with
  | [.i x, .i y, .i z, .i w, .i a, .i b, .i c, .i d, .i px, .i py, .i pw, .i ph], ⟨h0, h1, h2, h3, h4, h5, h6, h7, h8, h9, h10, h11, _⟩ => exact ⟨⟨⟨h0, h1, h2, h3⟩, h4, h5, h6, h7⟩, ⟨h8, h9, h10, h11⟩⟩
theorem pre5 (dvs : List DV) (h : dvsIn (cts sg5.args) dvs) : c5.pre dvs := by
  simp only [sg5, cts, List.flatMap_cons, List.flatMap_nil, VT.cts, List.append_nil, List.cons_append, List.nil_append] at h
  match dvs, h with
  | [.i x, .i y, .i z, .i w, .i a, .i b, .i c, .i d, .i px, .i py, .i pw, .i ph, .i u], ⟨h0, h1, h2, h3, h4, h5, h6, h7, h8, h9, h10, h11, h12, _⟩ => exact ⟨⟨⟨h0, h1, h2, h3⟩, h4, h5, h6, h7⟩, ⟨h8, h9, h10, h11⟩, h12⟩
theorem pre6 (dvs : List DV) (h : dvsIn (cts sg6.args) dvs) : c6.pre dvs := by
  simp only [sg6, cts, List.flatMap_cons, List.flatMap_nil, VT.cts, List.append_nil, List.cons_append, List.nil_append] at h
  match dvs, h with
  | [.i x, .i y, .i z, .i w, .i a, .i b, .i c, .i d, .i px, .i py, .i pw, .i ph, .i u, .i v], ⟨h0, h1, h2, h3, h4, h5, h6, h7, h8, h9, h10, h11, h12, h13, _⟩ => exact ⟨⟨⟨h0, h1, h2, h3⟩, h4, h5, h6, h7⟩, ⟨h8, h9, h10, h11⟩, h12, h13⟩
theorem pre7 (dvs : List DV) (h : dvsIn (cts sg7.args) dvs) : c7.pre dvs := by
  simp only [sg7, cts, List.flatMap_cons, List.flatMap_nil, VT.cts, List.append_nil, List.cons_append, List.nil_append] at h
  match dvs, h with
  | [.i x, .i y, .i z, .i w, .i a, .i b, .i c, .i d, .i px, .i py, .i pw, .i ph, .i u], ⟨h0, h1, h2, h3, h4, h5, h6, h7, h8, h9, h10, h11, h12, _⟩ => exact ⟨⟨⟨h0, h1, h2, h3⟩, h4, h5, h6, h7⟩, ⟨h8, h9, h10, h11⟩, h12⟩

end Go.Proofs.Ytmcgdadieklbjaa.Fns

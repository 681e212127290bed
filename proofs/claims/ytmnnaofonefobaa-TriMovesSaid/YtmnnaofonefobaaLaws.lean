/- Layer 20: the laws, as functions. -/
import Derived.Test.YtmnnaofonefobaaFns3
set_option linter.unusedVariables false
set_option linter.unusedSimpArgs false
set_option maxRecDepth 10000
namespace Go.Proofs.Ytmnnaofonefobaa.Fns
open Go.Sx Go.Proofs.Ytmnnaofonefobaa.Trees Go.Proofs.Ytmnnaofonefobaa.Plain

theorem far_mid {x y : Int} (h : farP x y) : midP x y := by unfold farP at h; unfold midP; omega
def c3 : Contract := CFn sg3 (fun | [.i ax, .i ay, .i bx, .i b', .i cx, .i cy, .i X0, .i Y0, .i X1, .i Y1] => True | _ => False) (fun _ => [.b true])
theorem ok3 : ContractOk Try.prog 3 c3 := by
  refine contract_of (Γ := knownOf [(8, c8), (9, c9), (10, c10), (11, c11), (13, cSpans sg13), (14, cSpans sg14), (12, c12), (15, cArea sg15), (16, cArea sg16)]) (known_cons ok8 rfl (known_cons ok9 rfl (known_cons ok10 rfl (known_cons ok11 rfl (known_cons ok13 rfl (known_cons ok14 rfl (known_cons ok12 rfl (known_cons ok15 rfl (known_cons ok16 rfl known_nil))))))))) Try.func3 rfl rfl is3 fun ds hk hp => ?_
  split at hp
  · skip
    rename_i ax ay bx b' cx cy X0 Y0 X1 Y1
    refine h_call (c := c8) rfl trivial fun rs hk hr => ?_
    have hr : rs = [.b (decide (farP ax ay ∧ farP bx b' ∧ farP cx cy))] := hr
    subst hr
    refine h_callg (c := c9) rfl (fun _ => trivial) fun rs hk hr2 => ?_
    obtain ⟨i2, rfl⟩ := kinds1i hk
    refine h_ite (fun g => ?_) (fun g => ?_)
    · refine h_call (c := c10) rfl trivial fun rs hk hr => ?_
      have hr : rs = [.b true] := hr
      subst hr
      rfl
    · have g : (!decide (farP ax ay ∧ farP bx b' ∧ farP cx cy) || decide (900 < i2)) = false := g
      simp only [Bool.or_eq_false_iff, Bool.not_eq_false', decide_eq_true_eq] at g
      obtain ⟨⟨ha, hb, hc⟩, _⟩ := g
      clear hr2
      refine h_call (c := c11) rfl (trivial) fun rs hk hr => ?_
      have hr : rs = wl ax ay := hr
      subst hr
      refine h_call (c := c11) rfl (trivial) fun rs hk hr => ?_
      have hr : rs = wl bx b' := hr
      subst hr
      refine h_call (c := c11) rfl (trivial) fun rs hk hr => ?_
      have hr : rs = wl cx cy := hr
      subst hr
      refine h_call (c := c10) rfl trivial fun rs hk hr => ?_
      have hr : rs = [.b true] := hr
      subst hr
      have hl := spansL_len (ax := ax) (ay := ay) (bx := bx) (b' := b') (cx := cx) (cy := cy) (X0 := X0) (Y0 := Y0) (X1 := X1) (Y1 := Y1)
      generalize hM : spansL ax ay bx b' cx cy X0 Y0 X1 Y1 = M at hl
      refine h_cally (c := cSpans sg13) rfl (by simp [Env.sets, Env.set, BE.den, IE.den, DV.bool, DV.int]) (show farP ax ay ∧ farP bx b' ∧ farP cx cy from ⟨ha, hb, hc⟩) fun rs hk hr => ?_
      have hr : rs = [.l (spansL ax ay bx b' cx cy X0 Y0 X1 Y1)] := hr
      rw [hM] at hr
      subst hr
      refine h_cally (c := cSpans sg14) rfl (by simp [Env.sets, Env.set, BE.den, IE.den, DV.bool, DV.int]) (show farP ax ay ∧ farP bx b' ∧ farP cx cy from ⟨ha, hb, hc⟩) fun rs hk hr => ?_
      have hr : rs = [.l (spansL ax ay bx b' cx cy X0 Y0 X1 Y1)] := hr
      rw [hM] at hr
      subst hr
      refine h_cally (c := c12) rfl (by simp [Env.sets, Env.set, BE.den, IE.den, DV.bool, DV.int]) (show M = M ∧ M.length ≤ 1000000000 from ⟨rfl, by omega⟩) fun rs hk hr => ?_
      have hr : rs = [.b true] := hr
      subst hr
      refine h_cally (c := cArea sg15) rfl (by simp [Env.sets, Env.set, BE.den, IE.den, DV.bool, DV.int]) (show farP ax ay ∧ farP bx b' ∧ midP cx cy from ⟨ha, hb, far_mid hc⟩) fun rs hk hr => ?_
      have hr : rs = [.i (areaI ax ay bx b' cx cy)] := hr
      subst hr
      refine h_cally (c := cArea sg16) rfl (by simp [Env.sets, Env.set, BE.den, IE.den, DV.bool, DV.int]) (show farP ax ay ∧ farP bx b' ∧ midP cx cy from ⟨ha, hb, far_mid hc⟩) fun rs hk hr => ?_
      have hr : rs = [.i (areaI ax ay bx b' cx cy)] := hr
      subst hr
      simp [Tree.holds, DE.den, BE.den, IE.den, Env.sets, Env.set, DV.bool, DV.int]
  · cases hp
theorem pre3 (dvs : List DV) (hh : dvsIn (cts sg3.args) dvs) : c3.pre dvs := by
  simp only [sg3, cts, List.flatMap_cons, List.flatMap_nil, VT.cts, List.append_nil, List.cons_append, List.nil_append] at hh
  match dvs, hh with
  | [.i ax, .i ay, .i bx, .i b', .i cx, .i cy, .i X0, .i Y0, .i X1, .i Y1], hh => trivial

def c4 : Contract := CFn sg4 (fun | [.i ax, .i ay, .i bx, .i b', .i cx, .i cy, .i x, .i y] => True | _ => False) (fun _ => [.b true])
theorem ok4 : ContractOk Try.prog 4 c4 := by
  refine contract_of (Γ := knownOf [(8, c8), (17, c17), (10, c10), (11, c11), (18, cHas sg18), (19, cHas sg19)]) (known_cons ok8 rfl (known_cons ok17 rfl (known_cons ok10 rfl (known_cons ok11 rfl (known_cons ok18 rfl (known_cons ok19 rfl known_nil)))))) Try.func4 rfl rfl is4 fun ds hk hp => ?_
  split at hp
  · skip
    rename_i ax ay bx b' cx cy x y
    refine h_call (c := c8) rfl trivial fun rs hk hr => ?_
    have hr : rs = [.b (decide (farP ax ay ∧ farP bx b' ∧ farP cx cy))] := hr
    subst hr
    refine h_callg (c := c17) rfl (fun _ => trivial) fun rs hk hr2 => ?_
    obtain ⟨i2, rfl⟩ := kinds1b hk
    have hr2 : decide (farP ax ay ∧ farP bx b' ∧ farP cx cy) = true → [DV.b i2] = [DV.b (decide (nearP x y))] := hr2
    refine h_ite (fun g => ?_) (fun g => ?_)
    · refine h_call (c := c10) rfl trivial fun rs hk hr => ?_
      have hr : rs = [.b true] := hr
      subst hr
      rfl
    · have g : (!decide (farP ax ay ∧ farP bx b' ∧ farP cx cy) || !i2) = false := g
      simp only [Bool.or_eq_false_iff, Bool.not_eq_false', decide_eq_true_eq] at g
      obtain ⟨⟨ha, hb, hc⟩, rfl⟩ := g
      have hn : nearP x y := by have := b_of (hr2 (by simp [ha, hb, hc])); simpa using this.symm
      clear hr2
      refine h_call (c := c11) rfl (trivial) fun rs hk hr => ?_
      have hr : rs = wl ax ay := hr
      subst hr
      refine h_call (c := c11) rfl (trivial) fun rs hk hr => ?_
      have hr : rs = wl bx b' := hr
      subst hr
      refine h_call (c := c11) rfl (trivial) fun rs hk hr => ?_
      have hr : rs = wl cx cy := hr
      subst hr
      refine h_call (c := cHas sg18) rfl (show farP ax ay ∧ farP bx b' ∧ farP cx cy ∧ nearP x y from ⟨ha, hb, hc, hn⟩) fun rs hk hr => ?_
      have hr : rs = [.b (decide (hasP ax ay bx b' cx cy (256 * x + 128) (256 * y + 128)))] := hr
      subst hr
      refine h_call (c := cHas sg19) rfl (show farP ax ay ∧ farP bx b' ∧ farP cx cy ∧ nearP x y from ⟨ha, hb, hc, hn⟩) fun rs hk hr => ?_
      have hr : rs = [.b (decide (hasP ax ay bx b' cx cy (256 * x + 128) (256 * y + 128)))] := hr
      rw [eqb (show hasP ax ay bx b' cx cy (256 * x + 128) (256 * y + 128) ↔ hasP ax ay bx b' cx cy (256 * x + 128) (256 * y + 128) from Iff.rfl)] at hr
      subst hr
      refine h_ite (fun g => ?_) (fun g => ?_)
      · simp [BE.den, Env.sets, Env.set, DV.bool] at g
      · refine h_call (c := cHas sg19) rfl (show farP bx b' ∧ farP cx cy ∧ farP ax ay ∧ nearP x y from ⟨hb, hc, ha, hn⟩) fun rs hk hr => ?_
        have hr : rs = [.b (decide (hasP bx b' cx cy ax ay (256 * x + 128) (256 * y + 128)))] := hr
        rw [eqb (show hasP bx b' cx cy ax ay (256 * x + 128) (256 * y + 128) ↔ hasP ax ay bx b' cx cy (256 * x + 128) (256 * y + 128) from (has_rot (ax := ax) (ay := ay) (bx := bx) (by' := b') (cx := cx) (cy := cy)))] at hr
        subst hr
        refine h_ite (fun g => ?_) (fun g => ?_)
        · simp [BE.den, Env.sets, Env.set, DV.bool] at g
        · refine h_call (c := cHas sg19) rfl (show farP cx cy ∧ farP ax ay ∧ farP bx b' ∧ nearP x y from ⟨hc, ha, hb, hn⟩) fun rs hk hr => ?_
          have hr : rs = [.b (decide (hasP cx cy ax ay bx b' (256 * x + 128) (256 * y + 128)))] := hr
          rw [eqb (show hasP cx cy ax ay bx b' (256 * x + 128) (256 * y + 128) ↔ hasP ax ay bx b' cx cy (256 * x + 128) (256 * y + 128) from ((has_rot (ax := bx) (ay := b') (bx := cx) (by' := cy) (cx := ax) (cy := ay)).trans (has_rot (ax := ax) (ay := ay) (bx := bx) (by' := b') (cx := cx) (cy := cy))))] at hr
          subst hr
          refine h_ite (fun g => ?_) (fun g => ?_)
          · simp [BE.den, Env.sets, Env.set, DV.bool] at g
          · refine h_call (c := cHas sg19) rfl (show farP ax ay ∧ farP cx cy ∧ farP bx b' ∧ nearP x y from ⟨ha, hc, hb, hn⟩) fun rs hk hr => ?_
            have hr : rs = [.b (decide (hasP ax ay cx cy bx b' (256 * x + 128) (256 * y + 128)))] := hr
            rw [eqb (show hasP ax ay cx cy bx b' (256 * x + 128) (256 * y + 128) ↔ hasP ax ay bx b' cx cy (256 * x + 128) (256 * y + 128) from (has_swap (ax := ax) (ay := ay) (bx := bx) (by' := b') (cx := cx) (cy := cy)))] at hr
            subst hr
            refine h_ite (fun g => ?_) (fun g => ?_)
            · simp [BE.den, Env.sets, Env.set, DV.bool] at g
            · refine h_call (c := cHas sg19) rfl (show farP cx cy ∧ farP bx b' ∧ farP ax ay ∧ nearP x y from ⟨hc, hb, ha, hn⟩) fun rs hk hr => ?_
              have hr : rs = [.b (decide (hasP cx cy bx b' ax ay (256 * x + 128) (256 * y + 128)))] := hr
              rw [eqb (show hasP cx cy bx b' ax ay (256 * x + 128) (256 * y + 128) ↔ hasP ax ay bx b' cx cy (256 * x + 128) (256 * y + 128) from ((has_rot (ax := ax) (ay := ay) (bx := cx) (by' := cy) (cx := bx) (cy := b')).trans (has_swap (ax := ax) (ay := ay) (bx := bx) (by' := b') (cx := cx) (cy := cy))))] at hr
              subst hr
              refine h_ite (fun g => ?_) (fun g => ?_)
              · simp [BE.den, Env.sets, Env.set, DV.bool] at g
              · refine h_call (c := cHas sg19) rfl (show farP bx b' ∧ farP ax ay ∧ farP cx cy ∧ nearP x y from ⟨hb, ha, hc, hn⟩) fun rs hk hr => ?_
                have hr : rs = [.b (decide (hasP bx b' ax ay cx cy (256 * x + 128) (256 * y + 128)))] := hr
                rw [eqb (show hasP bx b' ax ay cx cy (256 * x + 128) (256 * y + 128) ↔ hasP ax ay bx b' cx cy (256 * x + 128) (256 * y + 128) from ((has_rot (ax := bx) (ay := b') (bx := ax) (by' := ay) (cx := cx) (cy := cy)).symm.trans (has_swap (ax := ax) (ay := ay) (bx := bx) (by' := b') (cx := cx) (cy := cy))))] at hr
                subst hr
                refine h_ite (fun g => ?_) (fun g => ?_)
                · simp [BE.den, Env.sets, Env.set, DV.bool] at g
                · refine h_call (c := c10) rfl trivial fun rs hk hr => ?_
                  have hr : rs = [.b true] := hr
                  subst hr
                  rfl
  · cases hp
theorem pre4 (dvs : List DV) (hh : dvsIn (cts sg4.args) dvs) : c4.pre dvs := by
  simp only [sg4, cts, List.flatMap_cons, List.flatMap_nil, VT.cts, List.append_nil, List.cons_append, List.nil_append] at hh
  match dvs, hh with
  | [.i ax, .i ay, .i bx, .i b', .i cx, .i cy, .i x, .i y], hh => trivial

def c5 : Contract := CFn sg5 (fun | [.i ax, .i ay, .i bx, .i b', .i cx, .i cy, .i dx, .i dy, .i x, .i y] => True | _ => False) (fun _ => [.b true])
theorem ok5 : ContractOk Try.prog 5 c5 := by
  refine contract_of (Γ := knownOf [(8, c8), (20, c20), (17, c17), (10, c10), (11, c11), (19, cHas sg19), (15, cArea sg15)]) (known_cons ok8 rfl (known_cons ok20 rfl (known_cons ok17 rfl (known_cons ok10 rfl (known_cons ok11 rfl (known_cons ok19 rfl (known_cons ok15 rfl known_nil))))))) Try.func5 rfl rfl is5 fun ds hk hp => ?_
  split at hp
  · skip
    rename_i ax ay bx b' cx cy dx dy x y
    refine h_call (c := c8) rfl trivial fun rs hk hr => ?_
    have hr : rs = [.b (decide (farP ax ay ∧ farP bx b' ∧ farP cx cy))] := hr
    subst hr
    refine h_callg (c := c20) rfl (fun _ => trivial) fun rs hk hr2 => ?_
    obtain ⟨i2, rfl⟩ := kinds1b hk
    have hr2 : decide (farP ax ay ∧ farP bx b' ∧ farP cx cy) = true → [DV.b i2] = [DV.b (decide (farP dx dy))] := hr2
    refine h_callg (c := c17) rfl (fun _ => trivial) fun rs hk hr3 => ?_
    obtain ⟨i3, rfl⟩ := kinds1b hk
    have hr3 : (!(!decide (farP ax ay ∧ farP bx b' ∧ farP cx cy) || !i2)) = true → [DV.b i3] = [DV.b (decide (nearP x y))] := hr3
    refine h_ite (fun g => ?_) (fun g => ?_)
    · refine h_call (c := c10) rfl trivial fun rs hk hr => ?_
      have hr : rs = [.b true] := hr
      subst hr
      rfl
    · have g : ((!decide (farP ax ay ∧ farP bx b' ∧ farP cx cy) || !i2) || !i3) = false := g
      simp only [Bool.or_eq_false_iff, Bool.not_eq_false', decide_eq_true_eq] at g
      obtain ⟨⟨⟨ha, hb, hc⟩, rfl⟩, rfl⟩ := g
      have hd : farP dx dy := by have := b_of (hr2 (by simp [ha, hb, hc])); simpa using this.symm
      have hn : nearP x y := by have := b_of (hr3 (by simp [ha, hb, hc])); simpa using this.symm
      clear hr2 hr3
      refine h_call (c := c11) rfl (trivial) fun rs hk hr => ?_
      have hr : rs = wl ax ay := hr
      subst hr
      refine h_call (c := c11) rfl (trivial) fun rs hk hr => ?_
      have hr : rs = wl bx b' := hr
      subst hr
      refine h_call (c := c11) rfl (trivial) fun rs hk hr => ?_
      have hr : rs = wl cx cy := hr
      subst hr
      refine h_call (c := c11) rfl (trivial) fun rs hk hr => ?_
      have hr : rs = wl dx dy := hr
      subst hr
      refine h_call (c := cHas sg19) rfl (show farP ax ay ∧ farP bx b' ∧ farP cx cy ∧ nearP x y from ⟨ha, hb, hc, hn⟩) fun rs hk hr => ?_
      have hr : rs = [.b (decide (hasP ax ay bx b' cx cy (256 * x + 128) (256 * y + 128)))] := hr
      subst hr
      refine h_call (c := cHas sg19) rfl (show farP ax ay ∧ farP bx b' ∧ farP dx dy ∧ nearP x y from ⟨ha, hb, hd, hn⟩) fun rs hk hr => ?_
      have hr : rs = [.b (decide (hasP ax ay bx b' dx dy (256 * x + 128) (256 * y + 128)))] := hr
      subst hr
      refine h_call (c := cArea sg15) rfl (show farP ax ay ∧ farP bx b' ∧ midP cx cy from ⟨ha, hb, far_mid hc⟩) fun rs hk hr => ?_
      have hr : rs = [.i (areaI ax ay bx b' cx cy)] := hr
      subst hr
      refine h_call (c := cArea sg15) rfl (show farP ax ay ∧ farP bx b' ∧ midP dx dy from ⟨ha, hb, far_mid hd⟩) fun rs hk hr => ?_
      have hr : rs = [.i (areaI ax ay bx b' dx dy)] := hr
      subst hr
      have h0 : areaI ax ay bx b' cx cy = 0 → ¬ hasP ax ay bx b' cx cy (256 * x + 128) (256 * y + 128) := fun h => none h
      have h1 : areaI ax ay bx b' dx dy = 0 → ¬ hasP ax ay bx b' dx dy (256 * x + 128) (256 * y + 128) := fun h => none h
      have h2 : 0 < areaI ax ay bx b' cx cy → areaI ax ay bx b' dx dy < 0 → ¬ (hasP ax ay bx b' cx cy (256 * x + 128) (256 * y + 128) ∧ hasP ax ay bx b' dx dy (256 * x + 128) (256 * y + 128)) := fun a b c => apart ha hb a b c.1 c.2
      have h3 : areaI ax ay bx b' cx cy < 0 → 0 < areaI ax ay bx b' dx dy → ¬ (hasP ax ay bx b' cx cy (256 * x + 128) (256 * y + 128) ∧ hasP ax ay bx b' dx dy (256 * x + 128) (256 * y + 128)) := fun a b c => apart ha hb b a c.2 c.1
      generalize areaI ax ay bx b' cx cy = p at *
      generalize areaI ax ay bx b' dx dy = q at *
      refine h_ite (fun g => ?_) (fun g => ?_)
      · refine h_call (c := c10) rfl trivial fun rs hk hr => ?_
        have hr : rs = [.b true] := hr
        subst hr
        have g : ((decide (0 < p) && decide (q < 0)) || (decide (p < 0) && decide (0 < q))) = true := g
        simp only [Bool.or_eq_true, Bool.and_eq_true, decide_eq_true_eq] at g
        have hno : ¬ (hasP ax ay bx b' cx cy (256 * x + 128) (256 * y + 128) ∧ hasP ax ay bx b' dx dy (256 * x + 128) (256 * y + 128)) := by
          rcases g with ⟨a, b⟩ | ⟨a, b⟩
          · exact h2 a b
          · exact h3 a b
        show [DV.b (true && !(decide (hasP ax ay bx b' cx cy (256 * x + 128) (256 * y + 128)) && decide (hasP ax ay bx b' dx dy (256 * x + 128) (256 * y + 128))))] = [DV.b true]
        rw [← Bool.decide_and]
        simp [hno]
      · refine h_call (c := c10) rfl trivial fun rs hk hr => ?_
        have hr : rs = [.b true] := hr
        subst hr
        show [DV.b ((true && (!decide (p = 0) || !decide (hasP ax ay bx b' cx cy (256 * x + 128) (256 * y + 128)))) && (!decide (q = 0) || !decide (hasP ax ay bx b' dx dy (256 * x + 128) (256 * y + 128))))] = [DV.b true]
        have e1 : (!decide (p = 0) || !decide (hasP ax ay bx b' cx cy (256 * x + 128) (256 * y + 128))) = true := by
          by_cases hz : p = 0
          · simp [h0 hz]
          · simp [hz]
        have e2 : (!decide (q = 0) || !decide (hasP ax ay bx b' dx dy (256 * x + 128) (256 * y + 128))) = true := by
          by_cases hz : q = 0
          · simp [h1 hz]
          · simp [hz]
        rw [e1, e2]
        rfl
  · cases hp
theorem pre5 (dvs : List DV) (hh : dvsIn (cts sg5.args) dvs) : c5.pre dvs := by
  simp only [sg5, cts, List.flatMap_cons, List.flatMap_nil, VT.cts, List.append_nil, List.cons_append, List.nil_append] at hh
  match dvs, hh with
  | [.i ax, .i ay, .i bx, .i b', .i cx, .i cy, .i dx, .i dy, .i x, .i y], hh => trivial

def c6 : Contract := CFn sg6 (fun | [.i ax, .i ay, .i bx, .i b', .i cx, .i cy, .i dx, .i dy, .i x, .i y] => True | _ => False) (fun _ => [.b true])
theorem ok6 : ContractOk Try.prog 6 c6 := by
  refine contract_of (Γ := knownOf [(8, c8), (20, c20), (17, c17), (10, c10), (11, c11), (19, cHas sg19), (15, cArea sg15)]) (known_cons ok8 rfl (known_cons ok20 rfl (known_cons ok17 rfl (known_cons ok10 rfl (known_cons ok11 rfl (known_cons ok19 rfl (known_cons ok15 rfl known_nil))))))) Try.func6 rfl rfl is6 fun ds hk hp => ?_
  split at hp
  · skip
    rename_i ax ay bx b' cx cy dx dy x y
    refine h_call (c := c8) rfl trivial fun rs hk hr => ?_
    have hr : rs = [.b (decide (farP ax ay ∧ farP bx b' ∧ farP cx cy))] := hr
    subst hr
    refine h_callg (c := c20) rfl (fun _ => trivial) fun rs hk hr2 => ?_
    obtain ⟨i2, rfl⟩ := kinds1b hk
    have hr2 : decide (farP ax ay ∧ farP bx b' ∧ farP cx cy) = true → [DV.b i2] = [DV.b (decide (farP dx dy))] := hr2
    refine h_callg (c := c17) rfl (fun _ => trivial) fun rs hk hr3 => ?_
    obtain ⟨i3, rfl⟩ := kinds1b hk
    have hr3 : (!(!decide (farP ax ay ∧ farP bx b' ∧ farP cx cy) || !i2)) = true → [DV.b i3] = [DV.b (decide (nearP x y))] := hr3
    refine h_ite (fun g => ?_) (fun g => ?_)
    · refine h_call (c := c10) rfl trivial fun rs hk hr => ?_
      have hr : rs = [.b true] := hr
      subst hr
      rfl
    · have g : ((!decide (farP ax ay ∧ farP bx b' ∧ farP cx cy) || !i2) || !i3) = false := g
      simp only [Bool.or_eq_false_iff, Bool.not_eq_false', decide_eq_true_eq] at g
      obtain ⟨⟨⟨ha, hb, hc⟩, rfl⟩, rfl⟩ := g
      have hd : farP dx dy := by have := b_of (hr2 (by simp [ha, hb, hc])); simpa using this.symm
      have hn : nearP x y := by have := b_of (hr3 (by simp [ha, hb, hc])); simpa using this.symm
      clear hr2 hr3
      refine h_call (c := c11) rfl (trivial) fun rs hk hr => ?_
      have hr : rs = wl ax ay := hr
      subst hr
      refine h_call (c := c11) rfl (trivial) fun rs hk hr => ?_
      have hr : rs = wl bx b' := hr
      subst hr
      refine h_call (c := c11) rfl (trivial) fun rs hk hr => ?_
      have hr : rs = wl cx cy := hr
      subst hr
      refine h_call (c := c11) rfl (trivial) fun rs hk hr => ?_
      have hr : rs = wl dx dy := hr
      subst hr
      refine h_call (c := cArea sg15) rfl (show farP ax ay ∧ farP bx b' ∧ midP cx cy from ⟨ha, hb, far_mid hc⟩) fun rs hk hr => ?_
      have hr : rs = [.i (areaI ax ay bx b' cx cy)] := hr
      subst hr
      refine h_ite (fun g => ?_) (fun g => ?_)
      · obtain ⟨u1, e1⟩ : ∃ u, areaI ax ay cx cy dx dy = u := ⟨_, rfl⟩
        obtain ⟨u2, e2⟩ : ∃ u, areaI cx cy bx b' dx dy = u := ⟨_, rfl⟩
        obtain ⟨u3, e3⟩ : ∃ u, areaI bx b' ax ay dx dy = u := ⟨_, rfl⟩
        obtain ⟨u4, e4⟩ : ∃ u, areaI ax ay cx cy bx b' = u := ⟨_, rfl⟩
        refine h_call (c := cArea sg15) rfl (show farP ax ay ∧ farP cx cy ∧ midP dx dy from ⟨ha, hc, far_mid hd⟩) fun rs hk hr => ?_
        have hr : rs = [.i (areaI ax ay cx cy dx dy)] := hr
        rw [e1] at hr
        subst hr
        refine h_callg (c := cArea sg15) rfl (fun _ => show farP cx cy ∧ farP bx b' ∧ midP dx dy from ⟨hc, hb, far_mid hd⟩) fun rs hk hr2 => ?_
        obtain ⟨v2, rfl⟩ := kinds1i hk
        have hr2 : (!decide (u1 < 0)) = true → [DV.i v2] = [DV.i (areaI cx cy bx b' dx dy)] := hr2
        rw [e2] at hr2
        refine h_callg (c := cArea sg15) rfl (fun _ => show farP bx b' ∧ farP ax ay ∧ midP dx dy from ⟨hb, ha, far_mid hd⟩) fun rs hk hr3 => ?_
        obtain ⟨v3, rfl⟩ := kinds1i hk
        have hr3 : (!(decide (u1 < 0) || decide (v2 < 0))) = true → [DV.i v3] = [DV.i (areaI bx b' ax ay dx dy)] := hr3
        rw [e3] at hr3
        refine h_callg (c := cArea sg15) rfl (fun _ => show farP ax ay ∧ farP cx cy ∧ midP bx b' from ⟨ha, hc, far_mid hb⟩) fun rs hk hr4 => ?_
        obtain ⟨v4, rfl⟩ := kinds1i hk
        have hr4 : (!((decide (u1 < 0) || decide (v2 < 0)) || decide (v3 < 0))) = true → [DV.i v4] = [DV.i (areaI ax ay cx cy bx b')] := hr4
        rw [e4] at hr4
        refine h_ite (fun g => ?_) (fun g => ?_)
        · refine h_call (c := c10) rfl trivial fun rs hk hr => ?_
          have hr : rs = [.b true] := hr
          subst hr
          rfl
        · have g : (((decide (u1 < 0) || decide (v2 < 0)) || decide (v3 < 0)) || decide (v4 ≤ 0)) = false := g
          simp only [Bool.or_eq_false_iff, decide_eq_false_iff_not] at g
          obtain ⟨⟨⟨q1, q2⟩, q3⟩, q4⟩ := g
          have w2 := i_of (hr2 (by simp; omega))
          have w3 := i_of (hr3 (by simp; omega))
          have w4 := i_of (hr4 (by simp; omega))
          have hcut := cut (mx := 256 * x + 128) (my := 256 * y + 128) ha hc hb hd (by rw [e4]; omega) (by rw [e1]; omega) (by rw [e2]; omega) (by rw [e3]; omega)
          clear hr2 hr3 hr4
          refine h_call (c := cHas sg19) rfl (show farP ax ay ∧ farP cx cy ∧ farP dx dy ∧ nearP x y from ⟨ha, hc, hd, hn⟩) fun rs hk hr => ?_
          have hr : rs = [.b (decide (hasP ax ay cx cy dx dy (256 * x + 128) (256 * y + 128)))] := hr
          subst hr
          refine h_ite (fun k => ?_) (fun k => ?_)
          · have k0 : hasP ax ay cx cy dx dy (256 * x + 128) (256 * y + 128) := of_decide_eq_true k
            refine h_call (c := cHas sg19) rfl (show farP cx cy ∧ farP bx b' ∧ farP dx dy ∧ nearP x y from ⟨hc, hb, hd, hn⟩) fun rs hk hr => ?_
            have hr : rs = [.b (decide (hasP cx cy bx b' dx dy (256 * x + 128) (256 * y + 128)))] := hr
            subst hr
            refine h_ite (fun k => ?_) (fun k => ?_)
            · have k1 : hasP cx cy bx b' dx dy (256 * x + 128) (256 * y + 128) := of_decide_eq_true k
              refine h_call (c := cHas sg19) rfl (show farP bx b' ∧ farP ax ay ∧ farP dx dy ∧ nearP x y from ⟨hb, ha, hd, hn⟩) fun rs hk hr => ?_
              have hr : rs = [.b (decide (hasP bx b' ax ay dx dy (256 * x + 128) (256 * y + 128)))] := hr
              subst hr
              refine h_ite (fun k => ?_) (fun k => ?_)
              · have k2 : hasP bx b' ax ay dx dy (256 * x + 128) (256 * y + 128) := of_decide_eq_true k
                refine h_call (c := cHas sg19) rfl (show farP ax ay ∧ farP cx cy ∧ farP bx b' ∧ nearP x y from ⟨ha, hc, hb, hn⟩) fun rs hk hr => ?_
                have hr : rs = [.b (decide (hasP ax ay cx cy bx b' (256 * x + 128) (256 * y + 128)))] := hr
                subst hr
                refine h_ite (fun k => ?_) (fun k => ?_)
                · have k3 : hasP ax ay cx cy bx b' (256 * x + 128) (256 * y + 128) := of_decide_eq_true k
                  exact absurd hcut (by simp [k0, k1, k2, k3])
                · have k3 : ¬ hasP ax ay cx cy bx b' (256 * x + 128) (256 * y + 128) := of_decide_eq_false k
                  exact absurd hcut (by simp [k0, k1, k2, k3])
              · have k2 : ¬ hasP bx b' ax ay dx dy (256 * x + 128) (256 * y + 128) := of_decide_eq_false k
                refine h_call (c := cHas sg19) rfl (show farP ax ay ∧ farP cx cy ∧ farP bx b' ∧ nearP x y from ⟨ha, hc, hb, hn⟩) fun rs hk hr => ?_
                have hr : rs = [.b (decide (hasP ax ay cx cy bx b' (256 * x + 128) (256 * y + 128)))] := hr
                subst hr
                refine h_ite (fun k => ?_) (fun k => ?_)
                · have k3 : hasP ax ay cx cy bx b' (256 * x + 128) (256 * y + 128) := of_decide_eq_true k
                  exact absurd hcut (by simp [k0, k1, k2, k3])
                · have k3 : ¬ hasP ax ay cx cy bx b' (256 * x + 128) (256 * y + 128) := of_decide_eq_false k
                  exact absurd hcut (by simp [k0, k1, k2, k3])
            · have k1 : ¬ hasP cx cy bx b' dx dy (256 * x + 128) (256 * y + 128) := of_decide_eq_false k
              refine h_call (c := cHas sg19) rfl (show farP bx b' ∧ farP ax ay ∧ farP dx dy ∧ nearP x y from ⟨hb, ha, hd, hn⟩) fun rs hk hr => ?_
              have hr : rs = [.b (decide (hasP bx b' ax ay dx dy (256 * x + 128) (256 * y + 128)))] := hr
              subst hr
              refine h_ite (fun k => ?_) (fun k => ?_)
              · have k2 : hasP bx b' ax ay dx dy (256 * x + 128) (256 * y + 128) := of_decide_eq_true k
                refine h_call (c := cHas sg19) rfl (show farP ax ay ∧ farP cx cy ∧ farP bx b' ∧ nearP x y from ⟨ha, hc, hb, hn⟩) fun rs hk hr => ?_
                have hr : rs = [.b (decide (hasP ax ay cx cy bx b' (256 * x + 128) (256 * y + 128)))] := hr
                subst hr
                refine h_ite (fun k => ?_) (fun k => ?_)
                · have k3 : hasP ax ay cx cy bx b' (256 * x + 128) (256 * y + 128) := of_decide_eq_true k
                  exact absurd hcut (by simp [k0, k1, k2, k3])
                · have k3 : ¬ hasP ax ay cx cy bx b' (256 * x + 128) (256 * y + 128) := of_decide_eq_false k
                  exact absurd hcut (by simp [k0, k1, k2, k3])
              · have k2 : ¬ hasP bx b' ax ay dx dy (256 * x + 128) (256 * y + 128) := of_decide_eq_false k
                refine h_call (c := cHas sg19) rfl (show farP ax ay ∧ farP cx cy ∧ farP bx b' ∧ nearP x y from ⟨ha, hc, hb, hn⟩) fun rs hk hr => ?_
                have hr : rs = [.b (decide (hasP ax ay cx cy bx b' (256 * x + 128) (256 * y + 128)))] := hr
                subst hr
                refine h_ite (fun k => ?_) (fun k => ?_)
                · have k3 : hasP ax ay cx cy bx b' (256 * x + 128) (256 * y + 128) := of_decide_eq_true k
                  refine h_call (c := c10) rfl trivial fun rs hk hr => ?_
                  have hr : rs = [.b true] := hr
                  subst hr
                  rfl
                · have k3 : ¬ hasP ax ay cx cy bx b' (256 * x + 128) (256 * y + 128) := of_decide_eq_false k
                  exact absurd hcut (by simp [k0, k1, k2, k3])
          · have k0 : ¬ hasP ax ay cx cy dx dy (256 * x + 128) (256 * y + 128) := of_decide_eq_false k
            refine h_call (c := cHas sg19) rfl (show farP cx cy ∧ farP bx b' ∧ farP dx dy ∧ nearP x y from ⟨hc, hb, hd, hn⟩) fun rs hk hr => ?_
            have hr : rs = [.b (decide (hasP cx cy bx b' dx dy (256 * x + 128) (256 * y + 128)))] := hr
            subst hr
            refine h_ite (fun k => ?_) (fun k => ?_)
            · have k1 : hasP cx cy bx b' dx dy (256 * x + 128) (256 * y + 128) := of_decide_eq_true k
              refine h_call (c := cHas sg19) rfl (show farP bx b' ∧ farP ax ay ∧ farP dx dy ∧ nearP x y from ⟨hb, ha, hd, hn⟩) fun rs hk hr => ?_
              have hr : rs = [.b (decide (hasP bx b' ax ay dx dy (256 * x + 128) (256 * y + 128)))] := hr
              subst hr
              refine h_ite (fun k => ?_) (fun k => ?_)
              · have k2 : hasP bx b' ax ay dx dy (256 * x + 128) (256 * y + 128) := of_decide_eq_true k
                refine h_call (c := cHas sg19) rfl (show farP ax ay ∧ farP cx cy ∧ farP bx b' ∧ nearP x y from ⟨ha, hc, hb, hn⟩) fun rs hk hr => ?_
                have hr : rs = [.b (decide (hasP ax ay cx cy bx b' (256 * x + 128) (256 * y + 128)))] := hr
                subst hr
                refine h_ite (fun k => ?_) (fun k => ?_)
                · have k3 : hasP ax ay cx cy bx b' (256 * x + 128) (256 * y + 128) := of_decide_eq_true k
                  exact absurd hcut (by simp [k0, k1, k2, k3])
                · have k3 : ¬ hasP ax ay cx cy bx b' (256 * x + 128) (256 * y + 128) := of_decide_eq_false k
                  exact absurd hcut (by simp [k0, k1, k2, k3])
              · have k2 : ¬ hasP bx b' ax ay dx dy (256 * x + 128) (256 * y + 128) := of_decide_eq_false k
                refine h_call (c := cHas sg19) rfl (show farP ax ay ∧ farP cx cy ∧ farP bx b' ∧ nearP x y from ⟨ha, hc, hb, hn⟩) fun rs hk hr => ?_
                have hr : rs = [.b (decide (hasP ax ay cx cy bx b' (256 * x + 128) (256 * y + 128)))] := hr
                subst hr
                refine h_ite (fun k => ?_) (fun k => ?_)
                · have k3 : hasP ax ay cx cy bx b' (256 * x + 128) (256 * y + 128) := of_decide_eq_true k
                  refine h_call (c := c10) rfl trivial fun rs hk hr => ?_
                  have hr : rs = [.b true] := hr
                  subst hr
                  rfl
                · have k3 : ¬ hasP ax ay cx cy bx b' (256 * x + 128) (256 * y + 128) := of_decide_eq_false k
                  exact absurd hcut (by simp [k0, k1, k2, k3])
            · have k1 : ¬ hasP cx cy bx b' dx dy (256 * x + 128) (256 * y + 128) := of_decide_eq_false k
              refine h_call (c := cHas sg19) rfl (show farP bx b' ∧ farP ax ay ∧ farP dx dy ∧ nearP x y from ⟨hb, ha, hd, hn⟩) fun rs hk hr => ?_
              have hr : rs = [.b (decide (hasP bx b' ax ay dx dy (256 * x + 128) (256 * y + 128)))] := hr
              subst hr
              refine h_ite (fun k => ?_) (fun k => ?_)
              · have k2 : hasP bx b' ax ay dx dy (256 * x + 128) (256 * y + 128) := of_decide_eq_true k
                refine h_call (c := cHas sg19) rfl (show farP ax ay ∧ farP cx cy ∧ farP bx b' ∧ nearP x y from ⟨ha, hc, hb, hn⟩) fun rs hk hr => ?_
                have hr : rs = [.b (decide (hasP ax ay cx cy bx b' (256 * x + 128) (256 * y + 128)))] := hr
                subst hr
                refine h_ite (fun k => ?_) (fun k => ?_)
                · have k3 : hasP ax ay cx cy bx b' (256 * x + 128) (256 * y + 128) := of_decide_eq_true k
                  refine h_call (c := c10) rfl trivial fun rs hk hr => ?_
                  have hr : rs = [.b true] := hr
                  subst hr
                  rfl
                · have k3 : ¬ hasP ax ay cx cy bx b' (256 * x + 128) (256 * y + 128) := of_decide_eq_false k
                  exact absurd hcut (by simp [k0, k1, k2, k3])
              · have k2 : ¬ hasP bx b' ax ay dx dy (256 * x + 128) (256 * y + 128) := of_decide_eq_false k
                refine h_call (c := cHas sg19) rfl (show farP ax ay ∧ farP cx cy ∧ farP bx b' ∧ nearP x y from ⟨ha, hc, hb, hn⟩) fun rs hk hr => ?_
                have hr : rs = [.b (decide (hasP ax ay cx cy bx b' (256 * x + 128) (256 * y + 128)))] := hr
                subst hr
                refine h_ite (fun k => ?_) (fun k => ?_)
                · have k3 : hasP ax ay cx cy bx b' (256 * x + 128) (256 * y + 128) := of_decide_eq_true k
                  exact absurd hcut (by simp [k0, k1, k2, k3])
                · have k3 : ¬ hasP ax ay cx cy bx b' (256 * x + 128) (256 * y + 128) := of_decide_eq_false k
                  refine h_call (c := c10) rfl trivial fun rs hk hr => ?_
                  have hr : rs = [.b true] := hr
                  subst hr
                  rfl
      · obtain ⟨u1, e1⟩ : ∃ u, areaI ax ay bx b' dx dy = u := ⟨_, rfl⟩
        obtain ⟨u2, e2⟩ : ∃ u, areaI bx b' cx cy dx dy = u := ⟨_, rfl⟩
        obtain ⟨u3, e3⟩ : ∃ u, areaI cx cy ax ay dx dy = u := ⟨_, rfl⟩
        obtain ⟨u4, e4⟩ : ∃ u, areaI ax ay bx b' cx cy = u := ⟨_, rfl⟩
        refine h_call (c := cArea sg15) rfl (show farP ax ay ∧ farP bx b' ∧ midP dx dy from ⟨ha, hb, far_mid hd⟩) fun rs hk hr => ?_
        have hr : rs = [.i (areaI ax ay bx b' dx dy)] := hr
        rw [e1] at hr
        subst hr
        refine h_callg (c := cArea sg15) rfl (fun _ => show farP bx b' ∧ farP cx cy ∧ midP dx dy from ⟨hb, hc, far_mid hd⟩) fun rs hk hr2 => ?_
        obtain ⟨v2, rfl⟩ := kinds1i hk
        have hr2 : (!decide (u1 < 0)) = true → [DV.i v2] = [DV.i (areaI bx b' cx cy dx dy)] := hr2
        rw [e2] at hr2
        refine h_callg (c := cArea sg15) rfl (fun _ => show farP cx cy ∧ farP ax ay ∧ midP dx dy from ⟨hc, ha, far_mid hd⟩) fun rs hk hr3 => ?_
        obtain ⟨v3, rfl⟩ := kinds1i hk
        have hr3 : (!(decide (u1 < 0) || decide (v2 < 0))) = true → [DV.i v3] = [DV.i (areaI cx cy ax ay dx dy)] := hr3
        rw [e3] at hr3
        refine h_callg (c := cArea sg15) rfl (fun _ => show farP ax ay ∧ farP bx b' ∧ midP cx cy from ⟨ha, hb, far_mid hc⟩) fun rs hk hr4 => ?_
        obtain ⟨v4, rfl⟩ := kinds1i hk
        have hr4 : (!((decide (u1 < 0) || decide (v2 < 0)) || decide (v3 < 0))) = true → [DV.i v4] = [DV.i (areaI ax ay bx b' cx cy)] := hr4
        rw [e4] at hr4
        refine h_ite (fun g => ?_) (fun g => ?_)
        · refine h_call (c := c10) rfl trivial fun rs hk hr => ?_
          have hr : rs = [.b true] := hr
          subst hr
          rfl
        · have g : (((decide (u1 < 0) || decide (v2 < 0)) || decide (v3 < 0)) || decide (v4 ≤ 0)) = false := g
          simp only [Bool.or_eq_false_iff, decide_eq_false_iff_not] at g
          obtain ⟨⟨⟨q1, q2⟩, q3⟩, q4⟩ := g
          have w2 := i_of (hr2 (by simp; omega))
          have w3 := i_of (hr3 (by simp; omega))
          have w4 := i_of (hr4 (by simp; omega))
          have hcut := cut (mx := 256 * x + 128) (my := 256 * y + 128) ha hb hc hd (by rw [e4]; omega) (by rw [e1]; omega) (by rw [e2]; omega) (by rw [e3]; omega)
          clear hr2 hr3 hr4
          refine h_call (c := cHas sg19) rfl (show farP ax ay ∧ farP bx b' ∧ farP dx dy ∧ nearP x y from ⟨ha, hb, hd, hn⟩) fun rs hk hr => ?_
          have hr : rs = [.b (decide (hasP ax ay bx b' dx dy (256 * x + 128) (256 * y + 128)))] := hr
          subst hr
          refine h_ite (fun k => ?_) (fun k => ?_)
          · have k0 : hasP ax ay bx b' dx dy (256 * x + 128) (256 * y + 128) := of_decide_eq_true k
            refine h_call (c := cHas sg19) rfl (show farP bx b' ∧ farP cx cy ∧ farP dx dy ∧ nearP x y from ⟨hb, hc, hd, hn⟩) fun rs hk hr => ?_
            have hr : rs = [.b (decide (hasP bx b' cx cy dx dy (256 * x + 128) (256 * y + 128)))] := hr
            subst hr
            refine h_ite (fun k => ?_) (fun k => ?_)
            · have k1 : hasP bx b' cx cy dx dy (256 * x + 128) (256 * y + 128) := of_decide_eq_true k
              refine h_call (c := cHas sg19) rfl (show farP cx cy ∧ farP ax ay ∧ farP dx dy ∧ nearP x y from ⟨hc, ha, hd, hn⟩) fun rs hk hr => ?_
              have hr : rs = [.b (decide (hasP cx cy ax ay dx dy (256 * x + 128) (256 * y + 128)))] := hr
              subst hr
              refine h_ite (fun k => ?_) (fun k => ?_)
              · have k2 : hasP cx cy ax ay dx dy (256 * x + 128) (256 * y + 128) := of_decide_eq_true k
                refine h_call (c := cHas sg19) rfl (show farP ax ay ∧ farP bx b' ∧ farP cx cy ∧ nearP x y from ⟨ha, hb, hc, hn⟩) fun rs hk hr => ?_
                have hr : rs = [.b (decide (hasP ax ay bx b' cx cy (256 * x + 128) (256 * y + 128)))] := hr
                subst hr
                refine h_ite (fun k => ?_) (fun k => ?_)
                · have k3 : hasP ax ay bx b' cx cy (256 * x + 128) (256 * y + 128) := of_decide_eq_true k
                  exact absurd hcut (by simp [k0, k1, k2, k3])
                · have k3 : ¬ hasP ax ay bx b' cx cy (256 * x + 128) (256 * y + 128) := of_decide_eq_false k
                  exact absurd hcut (by simp [k0, k1, k2, k3])
              · have k2 : ¬ hasP cx cy ax ay dx dy (256 * x + 128) (256 * y + 128) := of_decide_eq_false k
                refine h_call (c := cHas sg19) rfl (show farP ax ay ∧ farP bx b' ∧ farP cx cy ∧ nearP x y from ⟨ha, hb, hc, hn⟩) fun rs hk hr => ?_
                have hr : rs = [.b (decide (hasP ax ay bx b' cx cy (256 * x + 128) (256 * y + 128)))] := hr
                subst hr
                refine h_ite (fun k => ?_) (fun k => ?_)
                · have k3 : hasP ax ay bx b' cx cy (256 * x + 128) (256 * y + 128) := of_decide_eq_true k
                  exact absurd hcut (by simp [k0, k1, k2, k3])
                · have k3 : ¬ hasP ax ay bx b' cx cy (256 * x + 128) (256 * y + 128) := of_decide_eq_false k
                  exact absurd hcut (by simp [k0, k1, k2, k3])
            · have k1 : ¬ hasP bx b' cx cy dx dy (256 * x + 128) (256 * y + 128) := of_decide_eq_false k
              refine h_call (c := cHas sg19) rfl (show farP cx cy ∧ farP ax ay ∧ farP dx dy ∧ nearP x y from ⟨hc, ha, hd, hn⟩) fun rs hk hr => ?_
              have hr : rs = [.b (decide (hasP cx cy ax ay dx dy (256 * x + 128) (256 * y + 128)))] := hr
              subst hr
              refine h_ite (fun k => ?_) (fun k => ?_)
              · have k2 : hasP cx cy ax ay dx dy (256 * x + 128) (256 * y + 128) := of_decide_eq_true k
                refine h_call (c := cHas sg19) rfl (show farP ax ay ∧ farP bx b' ∧ farP cx cy ∧ nearP x y from ⟨ha, hb, hc, hn⟩) fun rs hk hr => ?_
                have hr : rs = [.b (decide (hasP ax ay bx b' cx cy (256 * x + 128) (256 * y + 128)))] := hr
                subst hr
                refine h_ite (fun k => ?_) (fun k => ?_)
                · have k3 : hasP ax ay bx b' cx cy (256 * x + 128) (256 * y + 128) := of_decide_eq_true k
                  exact absurd hcut (by simp [k0, k1, k2, k3])
                · have k3 : ¬ hasP ax ay bx b' cx cy (256 * x + 128) (256 * y + 128) := of_decide_eq_false k
                  exact absurd hcut (by simp [k0, k1, k2, k3])
              · have k2 : ¬ hasP cx cy ax ay dx dy (256 * x + 128) (256 * y + 128) := of_decide_eq_false k
                refine h_call (c := cHas sg19) rfl (show farP ax ay ∧ farP bx b' ∧ farP cx cy ∧ nearP x y from ⟨ha, hb, hc, hn⟩) fun rs hk hr => ?_
                have hr : rs = [.b (decide (hasP ax ay bx b' cx cy (256 * x + 128) (256 * y + 128)))] := hr
                subst hr
                refine h_ite (fun k => ?_) (fun k => ?_)
                · have k3 : hasP ax ay bx b' cx cy (256 * x + 128) (256 * y + 128) := of_decide_eq_true k
                  refine h_call (c := c10) rfl trivial fun rs hk hr => ?_
                  have hr : rs = [.b true] := hr
                  subst hr
                  rfl
                · have k3 : ¬ hasP ax ay bx b' cx cy (256 * x + 128) (256 * y + 128) := of_decide_eq_false k
                  exact absurd hcut (by simp [k0, k1, k2, k3])
          · have k0 : ¬ hasP ax ay bx b' dx dy (256 * x + 128) (256 * y + 128) := of_decide_eq_false k
            refine h_call (c := cHas sg19) rfl (show farP bx b' ∧ farP cx cy ∧ farP dx dy ∧ nearP x y from ⟨hb, hc, hd, hn⟩) fun rs hk hr => ?_
            have hr : rs = [.b (decide (hasP bx b' cx cy dx dy (256 * x + 128) (256 * y + 128)))] := hr
            subst hr
            refine h_ite (fun k => ?_) (fun k => ?_)
            · have k1 : hasP bx b' cx cy dx dy (256 * x + 128) (256 * y + 128) := of_decide_eq_true k
              refine h_call (c := cHas sg19) rfl (show farP cx cy ∧ farP ax ay ∧ farP dx dy ∧ nearP x y from ⟨hc, ha, hd, hn⟩) fun rs hk hr => ?_
              have hr : rs = [.b (decide (hasP cx cy ax ay dx dy (256 * x + 128) (256 * y + 128)))] := hr
              subst hr
              refine h_ite (fun k => ?_) (fun k => ?_)
              · have k2 : hasP cx cy ax ay dx dy (256 * x + 128) (256 * y + 128) := of_decide_eq_true k
                refine h_call (c := cHas sg19) rfl (show farP ax ay ∧ farP bx b' ∧ farP cx cy ∧ nearP x y from ⟨ha, hb, hc, hn⟩) fun rs hk hr => ?_
                have hr : rs = [.b (decide (hasP ax ay bx b' cx cy (256 * x + 128) (256 * y + 128)))] := hr
                subst hr
                refine h_ite (fun k => ?_) (fun k => ?_)
                · have k3 : hasP ax ay bx b' cx cy (256 * x + 128) (256 * y + 128) := of_decide_eq_true k
                  exact absurd hcut (by simp [k0, k1, k2, k3])
                · have k3 : ¬ hasP ax ay bx b' cx cy (256 * x + 128) (256 * y + 128) := of_decide_eq_false k
                  exact absurd hcut (by simp [k0, k1, k2, k3])
              · have k2 : ¬ hasP cx cy ax ay dx dy (256 * x + 128) (256 * y + 128) := of_decide_eq_false k
                refine h_call (c := cHas sg19) rfl (show farP ax ay ∧ farP bx b' ∧ farP cx cy ∧ nearP x y from ⟨ha, hb, hc, hn⟩) fun rs hk hr => ?_
                have hr : rs = [.b (decide (hasP ax ay bx b' cx cy (256 * x + 128) (256 * y + 128)))] := hr
                subst hr
                refine h_ite (fun k => ?_) (fun k => ?_)
                · have k3 : hasP ax ay bx b' cx cy (256 * x + 128) (256 * y + 128) := of_decide_eq_true k
                  refine h_call (c := c10) rfl trivial fun rs hk hr => ?_
                  have hr : rs = [.b true] := hr
                  subst hr
                  rfl
                · have k3 : ¬ hasP ax ay bx b' cx cy (256 * x + 128) (256 * y + 128) := of_decide_eq_false k
                  exact absurd hcut (by simp [k0, k1, k2, k3])
            · have k1 : ¬ hasP bx b' cx cy dx dy (256 * x + 128) (256 * y + 128) := of_decide_eq_false k
              refine h_call (c := cHas sg19) rfl (show farP cx cy ∧ farP ax ay ∧ farP dx dy ∧ nearP x y from ⟨hc, ha, hd, hn⟩) fun rs hk hr => ?_
              have hr : rs = [.b (decide (hasP cx cy ax ay dx dy (256 * x + 128) (256 * y + 128)))] := hr
              subst hr
              refine h_ite (fun k => ?_) (fun k => ?_)
              · have k2 : hasP cx cy ax ay dx dy (256 * x + 128) (256 * y + 128) := of_decide_eq_true k
                refine h_call (c := cHas sg19) rfl (show farP ax ay ∧ farP bx b' ∧ farP cx cy ∧ nearP x y from ⟨ha, hb, hc, hn⟩) fun rs hk hr => ?_
                have hr : rs = [.b (decide (hasP ax ay bx b' cx cy (256 * x + 128) (256 * y + 128)))] := hr
                subst hr
                refine h_ite (fun k => ?_) (fun k => ?_)
                · have k3 : hasP ax ay bx b' cx cy (256 * x + 128) (256 * y + 128) := of_decide_eq_true k
                  refine h_call (c := c10) rfl trivial fun rs hk hr => ?_
                  have hr : rs = [.b true] := hr
                  subst hr
                  rfl
                · have k3 : ¬ hasP ax ay bx b' cx cy (256 * x + 128) (256 * y + 128) := of_decide_eq_false k
                  exact absurd hcut (by simp [k0, k1, k2, k3])
              · have k2 : ¬ hasP cx cy ax ay dx dy (256 * x + 128) (256 * y + 128) := of_decide_eq_false k
                refine h_call (c := cHas sg19) rfl (show farP ax ay ∧ farP bx b' ∧ farP cx cy ∧ nearP x y from ⟨ha, hb, hc, hn⟩) fun rs hk hr => ?_
                have hr : rs = [.b (decide (hasP ax ay bx b' cx cy (256 * x + 128) (256 * y + 128)))] := hr
                subst hr
                refine h_ite (fun k => ?_) (fun k => ?_)
                · have k3 : hasP ax ay bx b' cx cy (256 * x + 128) (256 * y + 128) := of_decide_eq_true k
                  exact absurd hcut (by simp [k0, k1, k2, k3])
                · have k3 : ¬ hasP ax ay bx b' cx cy (256 * x + 128) (256 * y + 128) := of_decide_eq_false k
                  refine h_call (c := c10) rfl trivial fun rs hk hr => ?_
                  have hr : rs = [.b true] := hr
                  subst hr
                  rfl
  · cases hp
theorem pre6 (dvs : List DV) (hh : dvsIn (cts sg6.args) dvs) : c6.pre dvs := by
  simp only [sg6, cts, List.flatMap_cons, List.flatMap_nil, VT.cts, List.append_nil, List.cons_append, List.nil_append] at hh
  match dvs, hh with
  | [.i ax, .i ay, .i bx, .i b', .i cx, .i cy, .i dx, .i dy, .i x, .i y], hh => trivial

end Go.Proofs.Ytmnnaofonefobaa.Fns

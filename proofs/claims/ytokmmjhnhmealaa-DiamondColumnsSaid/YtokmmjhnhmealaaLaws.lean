/- Layer 13: the laws, as functions. -/
import Derived.Test.YtokmmjhnhmealaaFns4
set_option linter.unusedVariables false
set_option linter.unusedSimpArgs false
set_option maxRecDepth 10000
namespace Go.Proofs.Ytokmmjhnhmealaa.Fns
open Go.Sx Go.Proofs.Ytokmmjhnhmealaa.Trees Go.Proofs.Ytokmmjhnhmealaa.Plain

def c3 : Contract := CFn sg3 (fun | [.i x, .i y] => True | _ => False) (fun _ => [.b true])
theorem ok3 : ContractOk Try.prog 3 c3 := by
  refine contract_of (Γ := knownOf [(8, c8), (9, c9), (10, c10), (11, c11)]) (known_cons ok8 rfl (known_cons ok9 rfl (known_cons ok10 rfl (known_cons ok11 rfl known_nil)))) Try.func3 rfl rfl is3 fun ds hk hp => ?_
  split at hp
  · skip
    rename_i x y
    refine h_call (c := c8) rfl trivial fun rs hk hr => ?_
    have hr : rs = [.b (decide (mayP x y))] := hr
    subst hr
    refine h_ite (fun g => ?_) (fun g => ?_)
    · refine h_call (c := c9) rfl trivial fun rs hk hr => ?_
      have hr : rs = [.b true] := hr
      subst hr
      rfl
    · have g : (!decide (mayP x y)) = false := g
      rw [Bool.not_eq_false', decide_eq_true_eq] at g
      refine h_call (c := c10) rfl (show bigP x ∧ bigP y by unfold mayP at g; unfold bigP; omega) fun rs hk hr => ?_
      have hr : rs = [.i (inT x y).1, .i (inT x y).2.1, .b (inT x y).2.2] := hr
      subst hr
      refine h_call (c := c11) rfl g fun rs hk hr => ?_
      have hr : rs = [.i (inT x y).1, .i (inT x y).2.1, .b (inT x y).2.2] := hr
      subst hr
      refine h_call (c := c9) rfl trivial fun rs hk hr => ?_
      have hr : rs = [.b true] := hr
      subst hr
      simp [Tree.holds, DE.den, BE.den, IE.den, Env.sets, Env.set, DV.bool, DV.int]
  · cases hp
theorem pre3 (dvs : List DV) (hh : dvsIn (cts sg3.args) dvs) : c3.pre dvs := by
  simp only [sg3, cts, List.flatMap_cons, List.flatMap_nil, VT.cts, List.append_nil, List.cons_append, List.nil_append] at hh
  match dvs, hh with
  | [.i x, .i y], hh => trivial

def c5 : Contract := CFn sg5 (fun | [.i ax, .i ay, .i bx, .i b', .i x, .i y] => True | _ => False) (fun _ => [.b true])
theorem ok5 : ContractOk Try.prog 5 c5 := by
  refine contract_of (Γ := knownOf [(8, c8), (9, c9), (13, c13), (12, cMeets sg12), (14, cMeets sg14), (15, cExits sg15), (16, cExits sg16)]) (known_cons ok8 rfl (known_cons ok9 rfl (known_cons ok13 rfl (known_cons ok12 rfl (known_cons ok14 rfl (known_cons ok15 rfl (known_cons ok16 rfl known_nil))))))) Try.func5 rfl rfl is5 fun ds hk hp => ?_
  split at hp
  · skip
    rename_i ax ay bx b' x y
    refine h_call (c := c8) rfl trivial fun rs hk hr => ?_
    have hr : rs = [.b (decide (mayP ax ay))] := hr
    subst hr
    refine h_callg (c := c8) rfl (fun _ => trivial) fun rs hk hr2 => ?_
    obtain ⟨i2, rfl⟩ := kinds1b hk
    have hr2 : decide (mayP ax ay) = true → [DV.b i2] = [DV.b (decide (mayP bx b'))] := hr2
    refine h_callg (c := c13) rfl (fun _ => trivial) fun rs hk hr3 => ?_
    obtain ⟨i3, rfl⟩ := kinds1b hk
    have hr3 : (!(!decide (mayP ax ay) || !i2)) = true → [DV.b i3] = [DV.b (decide (nearP x y))] := hr3
    refine h_ite (fun g => ?_) (fun g => ?_)
    · refine h_call (c := c9) rfl trivial fun rs hk hr => ?_
      have hr : rs = [.b true] := hr
      subst hr
      rfl
    · have g : ((!decide (mayP ax ay) || !i2) || !i3) = false := g
      simp only [Bool.or_eq_false_iff, Bool.not_eq_false', decide_eq_true_eq] at g
      obtain ⟨⟨g1, rfl⟩, rfl⟩ := g
      have g2 : mayP bx b' := by have := b_of (hr2 (by simp [g1])); simpa using this.symm
      have g3 : nearP x y := by have := b_of (hr3 (by simp [g1])); simpa using this.symm
      clear hr2 hr3
      refine h_call (c := c9) rfl trivial fun rs hk hr => ?_
      have hr : rs = [.b true] := hr
      subst hr
      refine h_cally (c := cMeets sg12) rfl (by simp [Env.sets, Env.set, BE.den, IE.den, DV.bool, DV.int]) (show mayP ax ay ∧ mayP bx b' ∧ nearP x y from ⟨g1, g2, g3⟩) fun rs hk hr => ?_
      have hr : rs = [.b (decide (meetsP ax ay bx b' x y))] := hr
      subst hr
      refine h_cally (c := cMeets sg14) rfl (by simp [Env.sets, Env.set, BE.den, IE.den, DV.bool, DV.int]) (show mayP ax ay ∧ mayP bx b' ∧ nearP x y from ⟨g1, g2, g3⟩) fun rs hk hr => ?_
      have hr : rs = [.b (decide (meetsP ax ay bx b' x y))] := hr
      subst hr
      refine h_cally (c := cExits sg15) rfl (by simp [Env.sets, Env.set, BE.den, IE.den, DV.bool, DV.int]) (show mayP ax ay ∧ mayP bx b' ∧ nearP x y from ⟨g1, g2, g3⟩) fun rs hk hr => ?_
      have hr : rs = [.b (decide (meetsP ax ay bx b' x y) && !decide (inP bx b' x y))] := hr
      subst hr
      refine h_cally (c := cExits sg16) rfl (by simp [Env.sets, Env.set, BE.den, IE.den, DV.bool, DV.int]) (show mayP ax ay ∧ mayP bx b' ∧ nearP x y from ⟨g1, g2, g3⟩) fun rs hk hr => ?_
      have hr : rs = [.b (decide (meetsP ax ay bx b' x y) && !decide (inP bx b' x y))] := hr
      subst hr
      simp [Tree.holds, DE.den, BE.den, IE.den, Env.sets, Env.set, DV.bool, DV.int]
  · cases hp
theorem pre5 (dvs : List DV) (hh : dvsIn (cts sg5.args) dvs) : c5.pre dvs := by
  simp only [sg5, cts, List.flatMap_cons, List.flatMap_nil, VT.cts, List.append_nil, List.cons_append, List.nil_append] at hh
  match dvs, hh with
  | [.i ax, .i ay, .i bx, .i b', .i x, .i y], hh => trivial

def c6 : Contract := CFn sg6 (fun | [.i ax, .i ay, .i bx, .i b', .i x, .i y] => True | _ => False) (fun _ => [.b true])
theorem ok6 : ContractOk Try.prog 6 c6 := by
  refine contract_of (Γ := knownOf [(8, c8), (9, c9), (13, c13), (10, c10), (12, cMeets sg12), (15, cExits sg15)]) (known_cons ok8 rfl (known_cons ok9 rfl (known_cons ok13 rfl (known_cons ok10 rfl (known_cons ok12 rfl (known_cons ok15 rfl known_nil)))))) Try.func6 rfl rfl is6 fun ds hk hp => ?_
  split at hp
  · skip
    rename_i ax ay bx b' x y
    refine h_call (c := c8) rfl trivial fun rs hk hr => ?_
    have hr : rs = [.b (decide (mayP ax ay))] := hr
    subst hr
    refine h_callg (c := c8) rfl (fun _ => trivial) fun rs hk hr2 => ?_
    obtain ⟨i2, rfl⟩ := kinds1b hk
    have hr2 : decide (mayP ax ay) = true → [DV.b i2] = [DV.b (decide (mayP bx b'))] := hr2
    refine h_callg (c := c13) rfl (fun _ => trivial) fun rs hk hr3 => ?_
    obtain ⟨i3, rfl⟩ := kinds1b hk
    have hr3 : (!(!decide (mayP ax ay) || !i2)) = true → [DV.b i3] = [DV.b (decide (nearP x y))] := hr3
    refine h_ite (fun g => ?_) (fun g => ?_)
    · refine h_call (c := c9) rfl trivial fun rs hk hr => ?_
      have hr : rs = [.b true] := hr
      subst hr
      rfl
    · have g : ((!decide (mayP ax ay) || !i2) || !i3) = false := g
      simp only [Bool.or_eq_false_iff, Bool.not_eq_false', decide_eq_true_eq] at g
      obtain ⟨⟨g1, rfl⟩, rfl⟩ := g
      have g2 : mayP bx b' := by have := b_of (hr2 (by simp [g1])); simpa using this.symm
      have g3 : nearP x y := by have := b_of (hr3 (by simp [g1])); simpa using this.symm
      clear hr2 hr3
      refine h_call (c := c10) rfl (show bigP ax ∧ bigP ay by unfold mayP at g1; unfold bigP; omega) fun rs hk hr => ?_
      have hr : rs = [.i (inT ax ay).1, .i (inT ax ay).2.1, .b (inT ax ay).2.2] := hr
      subst hr
      obtain ⟨u, v, w, ht⟩ : ∃ u v w, inT ax ay = (u, v, w) := ⟨_, _, _, rfl⟩
      have hin := inT_iff (px := ax) (py := ay) (x := u) (y := v)
      rw [ht] at hin ⊢
      refine h_call (c := c9) rfl trivial fun rs hk hr => ?_
      have hr : rs = [.b true] := hr
      subst hr
      refine h_cally (c := cMeets sg12) rfl (by simp [Env.sets, Env.set, BE.den, IE.den, DV.bool, DV.int]) (show mayP ax ay ∧ mayP bx b' ∧ nearP x y from ⟨g1, g2, g3⟩) fun rs hk hr => ?_
      have hr : rs = [.b (decide (meetsP ax ay bx b' x y))] := hr
      subst hr
      refine h_cally (c := cMeets sg12) rfl (by simp [Env.sets, Env.set, BE.den, IE.den, DV.bool, DV.int]) (show mayP bx b' ∧ mayP ax ay ∧ nearP x y from ⟨g2, g1, g3⟩) fun rs hk hr => ?_
      have hr : rs = [.b (decide (meetsP bx b' ax ay x y))] := hr
      subst hr
      have hsw : decide (meetsP bx b' ax ay x y) = decide (meetsP ax ay bx b' x y) := eqb meets_swap
      refine h_callg (c := c13) rfl (fun _ => trivial) fun rs hk hr3 => ?_
      obtain ⟨i3, rfl⟩ := kinds1b hk
      have hr3 : ((true && (decide (meetsP ax ay bx b' x y) == decide (meetsP bx b' ax ay x y))) && w) = true → [DV.b i3] = [DV.b (decide (nearP u v))] := hr3
      rw [hsw] at hr3
      refine h_callg (c := cMeets sg12) rfl (fun g => ?_) fun rs hk hr4 => ?_
      · have g : ((true && (decide (meetsP ax ay bx b' x y) == decide (meetsP bx b' ax ay x y))) && !(!w || !i3)) = true := g
        rw [hsw] at g
        simp only [beq_self_eq_true, Bool.true_and, Bool.not_or, Bool.not_not, Bool.and_eq_true] at g
        obtain ⟨rfl, rfl⟩ := g
        have := b_of (hr3 (by simp))
        exact (show mayP ax ay ∧ mayP bx b' ∧ nearP u v from ⟨g1, g2, by simpa using this.symm⟩)
      obtain ⟨i4, rfl⟩ := kinds1b hk
      have hr4 : ((true && (decide (meetsP ax ay bx b' x y) == decide (meetsP bx b' ax ay x y))) && !(!w || !i3)) = true → [DV.b i4] = [DV.b (decide (meetsP ax ay bx b' u v))] := hr4
      rw [hsw] at hr4
      have h4 : ((!w || !i3) || i4) = true := by
        cases w with
        | false => rfl
        | true =>
          cases i3 with
          | false => rfl
          | true =>
            rw [b_of (hr4 (by simp))]
            simp only [Bool.not_true, Bool.or_self, Bool.false_or, decide_eq_true_eq]
            exact meets_end (hin.1 ⟨rfl, rfl, rfl⟩)
      have hall : ((true && (decide (meetsP ax ay bx b' x y) == decide (meetsP bx b' ax ay x y))) && ((!w || !i3) || i4)) = true := by rw [hsw, h4]; simp
      refine h_cally (c := cExits sg15) rfl hall (show mayP ax ay ∧ mayP ax ay ∧ nearP x y from ⟨g1, g1, g3⟩) fun rs hk hr => ?_
      have hr : rs = [.b (decide (meetsP ax ay ax ay x y) && !decide (inP ax ay x y))] := hr
      have hz : (decide (meetsP ax ay ax ay x y) && !decide (inP ax ay x y)) = false := by
        rw [eqb (meets_self (ax := ax) (ay := ay) (x := x) (y := y))]
        cases decide (inP ax ay x y) <;> rfl
      rw [hz] at hr
      subst hr
      show [DV.b (((true && (decide (meetsP ax ay bx b' x y) == decide (meetsP bx b' ax ay x y))) && ((!w || !i3) || i4)) && !false)] = [DV.b true]
      rw [hall]
      rfl
  · cases hp
theorem pre6 (dvs : List DV) (hh : dvsIn (cts sg6.args) dvs) : c6.pre dvs := by
  simp only [sg6, cts, List.flatMap_cons, List.flatMap_nil, VT.cts, List.append_nil, List.cons_append, List.nil_append] at hh
  match dvs, hh with
  | [.i ax, .i ay, .i bx, .i b', .i x, .i y], hh => trivial

def sh (x : Int) : Prop := -32768 ≤ x ∧ x ≤ 32767
def by1 (x : Int) : Prop := 0 ≤ x ∧ x ≤ 255
def c7 : Contract := CFn sg7 (fun | [.i ax, .i ay, .i dx, .i dy, .i m, .i k, .i x, .i y] => sh dx ∧ sh dy ∧ by1 m ∧ by1 k ∧ sh x ∧ sh y | _ => False) (fun _ => [.b true])
theorem ok7 : ContractOk Try.prog 7 c7 := by
  refine contract_of (Γ := knownOf [(9, c9), (10, c10), (12, cMeets sg12), (15, cExits sg15)]) (known_cons ok9 rfl (known_cons ok10 rfl (known_cons ok12 rfl (known_cons ok15 rfl known_nil)))) Try.func7 rfl rfl is7 fun ds hk hp => ?_
  split at hp
  · skip
    rename_i ax ay dx dy m k x y
    obtain ⟨b1, b2, b3, b4, b5, b6⟩ := hp
    unfold sh at b1 b2 b5 b6
    unfold by1 at b3 b4
    have tm1 := Int.tmod_lt_of_pos m (show (0:Int) < 16 by omega)
    have tm2 := Int.tmod_nonneg 16 (show 0 ≤ m by omega)
    have tk1 := Int.tmod_lt_of_pos k (show (0:Int) < 16 by omega)
    have tk2 := Int.tmod_nonneg 16 (show 0 ≤ k by omega)
    have p1 := mul_bd (a := m.tmod 16) (b := dx) (A := 15) (B := 32768) (by omega) (by omega) (by omega) (by omega)
    have p2 := mul_bd (a := m.tmod 16) (b := dy) (A := 15) (B := 32768) (by omega) (by omega) (by omega) (by omega)
    have p3 := mul_bd (a := k.tmod 16) (b := dx) (A := 15) (B := 32768) (by omega) (by omega) (by omega) (by omega)
    have p4 := mul_bd (a := k.tmod 16) (b := dy) (A := 15) (B := 32768) (by omega) (by omega) (by omega) (by omega)
    have hparts := meets_parts (dx := dx) (dy := dy) (m := m.tmod 16) (k := k.tmod 16) (ax := ax) (ay := ay) (x := x) (y := y) tm2 tk2
    refine h_ite (fun g0 => ?_) (fun g0 => ?_)
    · refine h_call (c := c9) rfl trivial fun rs hk hr => ?_
      have hr : rs = [.b true] := hr
      subst hr
      rfl
    · simp only [Env.sets, Env.set, BE.den, IE.den, DE.den, DV.int, DV.bool, DV.list, LOp.den, List.map_cons, List.map_nil, Nat.reduceEqDiff, ↓reduceIte, reduceCtorEq, Bool.and_eq_true, Bool.or_eq_true, Bool.not_eq_true', Bool.not_eq_false', Bool.and_eq_false_iff, Bool.or_eq_false_iff, decide_eq_true_eq, decide_eq_false_iff_not] at g0
      iterate 14 refine h_need (by simp only [Env.sets, Env.set, BE.den, IE.den, DE.den, DV.int, DV.bool, DV.list, LOp.den, List.map_cons, List.map_nil, Nat.reduceEqDiff, ↓reduceIte, reduceCtorEq, Bool.and_eq_true, Bool.or_eq_true, Bool.not_eq_true', Bool.not_eq_false', Bool.and_eq_false_iff, Bool.or_eq_false_iff, decide_eq_true_eq, decide_eq_false_iff_not]; omega) ?_
      have hA : mayP ax ay := by unfold mayP; omega
      have hC : mayP (ax + m.tmod 16 * dx) (ay + m.tmod 16 * dy) := by unfold mayP; omega
      have hB : mayP (ax + m.tmod 16 * dx + k.tmod 16 * dx) (ay + m.tmod 16 * dy + k.tmod 16 * dy) := by unfold mayP; omega
      have hN : nearP x y := by unfold nearP; omega
      refine h_call (c := cMeets sg12) rfl (show mayP ax ay ∧ mayP (ax + m.tmod 16 * dx + k.tmod 16 * dx) (ay + m.tmod 16 * dy + k.tmod 16 * dy) ∧ nearP x y from ⟨hA, hB, hN⟩) fun rs hk hr => ?_
      have hr : rs = [.b (decide (meetsP ax ay (ax + m.tmod 16 * dx + k.tmod 16 * dx) (ay + m.tmod 16 * dy + k.tmod 16 * dy) x y))] := hr
      subst hr
      refine h_call (c := c10) rfl (show bigP (ax + m.tmod 16 * dx + k.tmod 16 * dx) ∧ bigP (ay + m.tmod 16 * dy + k.tmod 16 * dy) by unfold mayP at hB; unfold bigP; omega) fun rs hk hr => ?_
      have hr : rs = [.i (inT (ax + m.tmod 16 * dx + k.tmod 16 * dx) (ay + m.tmod 16 * dy + k.tmod 16 * dy)).1, .i (inT (ax + m.tmod 16 * dx + k.tmod 16 * dx) (ay + m.tmod 16 * dy + k.tmod 16 * dy)).2.1, .b (inT (ax + m.tmod 16 * dx + k.tmod 16 * dx) (ay + m.tmod 16 * dy + k.tmod 16 * dy)).2.2] := hr
      subst hr
      have hin := inT_iff (px := (ax + m.tmod 16 * dx + k.tmod 16 * dx)) (py := (ay + m.tmod 16 * dy + k.tmod 16 * dy)) (x := x) (y := y)
      refine h_call (c := c9) rfl trivial fun rs hk hr => ?_
      have hr : rs = [.b true] := hr
      subst hr
      refine h_callg (c := cMeets sg12) rfl (fun _ => (show mayP ax ay ∧ mayP (ax + m.tmod 16 * dx) (ay + m.tmod 16 * dy) ∧ nearP x y from ⟨hA, hC, hN⟩)) fun rs hk hr1 => ?_
      obtain ⟨i1, rfl⟩ := kinds1b hk
      have h1 : i1 = decide (meetsP ax ay (ax + m.tmod 16 * dx) (ay + m.tmod 16 * dy) x y) := b_of (hr1 rfl)
      refine h_callg (c := cMeets sg12) rfl (fun _ => (show mayP (ax + m.tmod 16 * dx) (ay + m.tmod 16 * dy) ∧ mayP (ax + m.tmod 16 * dx + k.tmod 16 * dx) (ay + m.tmod 16 * dy + k.tmod 16 * dy) ∧ nearP x y from ⟨hC, hB, hN⟩)) fun rs hk hr2 => ?_
      obtain ⟨i2, rfl⟩ := kinds1b hk
      have hr2 : (true && !i1) = true → [DV.b i2] = [DV.b (decide (meetsP (ax + m.tmod 16 * dx) (ay + m.tmod 16 * dy) (ax + m.tmod 16 * dx + k.tmod 16 * dx) (ay + m.tmod 16 * dy + k.tmod 16 * dy) x y))] := hr2
      have h2 : (i1 || i2) = decide (meetsP ax ay (ax + m.tmod 16 * dx + k.tmod 16 * dx) (ay + m.tmod 16 * dy + k.tmod 16 * dy) x y) := by
        rw [eqb hparts, Bool.decide_or, ← h1]
        cases i1 with
        | true => rfl
        | false => rw [b_of (hr2 rfl)]
      have h3 : (true && (decide (meetsP ax ay (ax + m.tmod 16 * dx + k.tmod 16 * dx) (ay + m.tmod 16 * dy + k.tmod 16 * dy) x y) == (i1 || i2))) = true := by rw [h2]; simp
      refine h_cally (c := cExits sg15) rfl h3 (show mayP ax ay ∧ mayP (ax + m.tmod 16 * dx + k.tmod 16 * dx) (ay + m.tmod 16 * dy + k.tmod 16 * dy) ∧ nearP x y from ⟨hA, hB, hN⟩) fun rs hk hr => ?_
      have hr : rs = [.b (decide (meetsP ax ay (ax + m.tmod 16 * dx + k.tmod 16 * dx) (ay + m.tmod 16 * dy + k.tmod 16 * dy) x y) && !decide (inP (ax + m.tmod 16 * dx + k.tmod 16 * dx) (ay + m.tmod 16 * dy + k.tmod 16 * dy) x y))] := hr
      subst hr
      show [DV.b ((true && (decide (meetsP ax ay (ax + m.tmod 16 * dx + k.tmod 16 * dx) (ay + m.tmod 16 * dy + k.tmod 16 * dy) x y) == (i1 || i2))) && ((decide (meetsP ax ay (ax + m.tmod 16 * dx + k.tmod 16 * dx) (ay + m.tmod 16 * dy + k.tmod 16 * dy) x y) && !decide (inP (ax + m.tmod 16 * dx + k.tmod 16 * dx) (ay + m.tmod 16 * dy + k.tmod 16 * dy) x y)) == (decide (meetsP ax ay (ax + m.tmod 16 * dx + k.tmod 16 * dx) (ay + m.tmod 16 * dy + k.tmod 16 * dy) x y) && !(((inT (ax + m.tmod 16 * dx + k.tmod 16 * dx) (ay + m.tmod 16 * dy + k.tmod 16 * dy)).2.2 && decide ((inT (ax + m.tmod 16 * dx + k.tmod 16 * dx) (ay + m.tmod 16 * dy + k.tmod 16 * dy)).1 = x)) && decide ((inT (ax + m.tmod 16 * dx + k.tmod 16 * dx) (ay + m.tmod 16 * dy + k.tmod 16 * dy)).2.1 = y)))))] = [DV.b true]
      have h4 : (((inT (ax + m.tmod 16 * dx + k.tmod 16 * dx) (ay + m.tmod 16 * dy + k.tmod 16 * dy)).2.2 && decide ((inT (ax + m.tmod 16 * dx + k.tmod 16 * dx) (ay + m.tmod 16 * dy + k.tmod 16 * dy)).1 = x)) && decide ((inT (ax + m.tmod 16 * dx + k.tmod 16 * dx) (ay + m.tmod 16 * dy + k.tmod 16 * dy)).2.1 = y)) = decide (inP (ax + m.tmod 16 * dx + k.tmod 16 * dx) (ay + m.tmod 16 * dy + k.tmod 16 * dy) x y) := by
        have := b_of (retB (X := (((inT (ax + m.tmod 16 * dx + k.tmod 16 * dx) (ay + m.tmod 16 * dy + k.tmod 16 * dy)).2.2 && decide ((inT (ax + m.tmod 16 * dx + k.tmod 16 * dx) (ay + m.tmod 16 * dy + k.tmod 16 * dy)).1 = x)) && decide ((inT (ax + m.tmod 16 * dx + k.tmod 16 * dx) (ay + m.tmod 16 * dy + k.tmod 16 * dy)).2.1 = y))) (P := inP (ax + m.tmod 16 * dx + k.tmod 16 * dx) (ay + m.tmod 16 * dy + k.tmod 16 * dy) x y) (by unfold inP; rw [← hin]; simp only [Bool.and_eq_true, decide_eq_true_eq, and_assoc]))
        exact this
      rw [h3, h4]
      simp
  · cases hp
theorem pre7 (dvs : List DV) (hh : dvsIn (cts sg7.args) dvs) : c7.pre dvs := by
  simp only [sg7, cts, List.flatMap_cons, List.flatMap_nil, VT.cts, List.append_nil, List.cons_append, List.nil_append] at hh
  match dvs, hh with
  | [.i ax, .i ay, .i dx, .i dy, .i m, .i k, .i x, .i y], hh => 
    obtain ⟨_, _, h1, h2, h3, h4, h5, h6, _⟩ := hh
    exact (show sh dx ∧ sh dy ∧ by1 m ∧ by1 k ∧ sh x ∧ sh y from ⟨h1, h2, h3, h4, h5, h6⟩)

end Go.Proofs.Ytokmmjhnhmealaa.Fns

/- Layer 20: has. -/
import Derived.Test.YtmnnaofonefobaaFns
set_option linter.unusedVariables false
set_option linter.unusedSimpArgs false
set_option maxRecDepth 10000
namespace Go.Proofs.Ytmnnaofonefobaa.Fns
open Go.Sx Go.Proofs.Ytmnnaofonefobaa.Trees Go.Proofs.Ytmnnaofonefobaa.Plain

def okS (s : List Int) (x y : Int) : Prop := s.getD 4 0 ≤ sideAt (s.getD 0 0) (s.getD 1 0) (s.getD 2 0) (s.getD 3 0) x y
theorem okS_of {px py qx qy x y : Int} : okS (sideOf px py qx qy) x y ↔ leftP px py qx qy (256 * x + 128) (256 * y + 128) := by
  have := side_area (px := px) (py := py) (qx := qx) (qy := qy) (x := x) (y := y)
  unfold okS leftP
  rw [← this]
  rfl
theorem has_sides {ax ay bx b' cx cy x y : Int} : hasP ax ay bx b' cx cy (256 * x + 128) (256 * y + 128) ↔ (0 < (sidesL ax ay bx b' cx cy).length ∧ ∀ s ∈ sidesL ax ay bx b' cx cy, okS s x y) := by
  unfold hasP sidesL
  by_cases h : areaI ax ay bx b' cx cy < 0
  · rw [if_pos h]
    simp only [List.mem_cons, List.not_mem_nil, or_false, forall_eq_or_imp, forall_eq, okS_of, List.length_cons, List.length_nil]
    constructor
    · rintro (⟨a, b⟩ | ⟨_, b, c, d⟩)
      · omega
      · exact ⟨by omega, b, c, d⟩
    · rintro ⟨_, b, c, d⟩; exact .inr ⟨h, b, c, d⟩
  · by_cases h2 : areaI ax ay bx b' cx cy = 0
    · rw [if_neg h, if_pos h2]
      simp only [List.length_nil]
      constructor
      · rintro (⟨a, b⟩ | ⟨a, b⟩) <;> omega
      · rintro ⟨a, _⟩; omega
    · rw [if_neg h, if_neg h2]
      simp only [List.mem_cons, List.not_mem_nil, or_false, forall_eq_or_imp, forall_eq, okS_of, List.length_cons, List.length_nil]
      constructor
      · rintro (⟨_, b, c, d⟩ | ⟨a, b⟩)
        · exact ⟨by omega, b, c, d⟩
        · omega
      · rintro ⟨_, b, c, d⟩; exact .inl ⟨by omega, b, c, d⟩
theorem side_ok {px py qx qy : Int} (h1 : farP px py) (h2 : farP qx qy) : sideP ((sideOf px py qx qy).getD 0 0) ((sideOf px py qx qy).getD 1 0) ((sideOf px py qx qy).getD 2 0) ((sideOf px py qx qy).getD 3 0) ((sideOf px py qx qy).getD 4 0) := by
  show sideP px py (qx - px) (qy - py) (leastI px py qx qy)
  unfold sideP farP leastI at *
  split <;> omega
theorem sides_ok {ax ay bx b' cx cy : Int} (ha : farP ax ay) (hb : farP bx b') (hc : farP cx cy) : ∀ s ∈ sidesL ax ay bx b' cx cy, sideP (s.getD 0 0) (s.getD 1 0) (s.getD 2 0) (s.getD 3 0) (s.getD 4 0) := by
  intro s hs
  unfold sidesL at hs
  split at hs
  · simp only [List.mem_cons, List.not_mem_nil, or_false] at hs
    rcases hs with rfl | rfl | rfl
    · exact side_ok ha hc
    · exact side_ok hc hb
    · exact side_ok hb ha
  · split at hs
    · simp at hs
    · simp only [List.mem_cons, List.not_mem_nil, or_false] at hs
      rcases hs with rfl | rfl | rfl
      · exact side_ok ha hb
      · exact side_ok hb hc
      · exact side_ok hc ha
theorem sides_len {ax ay bx b' cx cy : Int} : (sidesL ax ay bx b' cx cy).length ≤ 3 := by
  unfold sidesL
  split
  · simp
  · split <;> simp
theorem mem_getD {l : List (List Int)} {i : Nat} (h : i < l.length) : l.getD i [] ∈ l := by
  have e : l.getD i [] = l[i] := by simp [List.getD, List.getElem?_eq_getElem h]
  rw [e]; exact List.getElem_mem h
theorem ok19 : ContractOk Try.prog 19 (cHas sg19) := by
  refine contract_of (Γ := knownOf [(22, c22), (26, c26)]) (known_cons ok22 rfl (known_cons ok26 rfl known_nil)) Try.func19 rfl rfl is19 fun ds hk hp => ?_
  split at hp
  · skip
    rename_i a0 a1 a2 a3 a4 a5 a6 b0 b1 b2 b3 b4 b5 b6 c0 c1 c2 c3 c4 c5 c6 x y
    obtain ⟨ha, hb, hc, hn⟩ := hp
    have hside := sides_ok ha hb hc
    have hlen := sides_len (ax := a0) (ay := a1) (bx := b0) (b' := b1) (cx := c0) (cy := c1)
    have hH := has_sides (ax := a0) (ay := a1) (bx := b0) (b' := b1) (cx := c0) (cy := c1) (x := x) (y := y)
    obtain ⟨l, hl⟩ : ∃ l, sidesL a0 a1 b0 b1 c0 c1 = l := ⟨_, rfl⟩
    rw [hl] at hside hlen hH
    refine h_call (c := c22) rfl (show farP a0 a1 ∧ farP b0 b1 ∧ farP c0 c1 from ⟨ha, hb, hc⟩) fun rs hk hr => ?_
    have hr : rs = [.l (sidesL a0 a1 b0 b1 c0 c1)] := hr
    rw [hl] at hr
    subst hr
    refine h_loop (fun ds => ∃ (r : Bool) (i : Nat), ds = [.b r, .i i] ∧ i ≤ l.length ∧ ∀ j, j < i → okS (l.getD j []) x y) (fun | [_, .i i] => ((l.length : Int) - i).toNat | _ => 0) ⟨false, 0, by simp [DE.den, BE.den, IE.den], by omega, fun j h => by omega⟩ ?_
    intro ds _ ⟨r, i, hds, hi, hall⟩
    subst hds
    refine h_ite (fun g0 => ?_) (fun g0 => ?_)
    · simp only [Env.sets, Env.set, BE.den, IE.den, DE.den, DV.int, DV.bool, DV.list, LOp.den, List.map_cons, List.map_nil, Nat.reduceEqDiff, ↓reduceIte, reduceCtorEq, Bool.and_eq_true, Bool.or_eq_true, Bool.not_eq_true', Bool.not_eq_false', Bool.and_eq_false_iff, Bool.or_eq_false_iff, decide_eq_true_eq, decide_eq_false_iff_not] at g0
      have hlt : i < l.length := by omega
      refine h_need (by simp only [Env.sets, Env.set, BE.den, IE.den, DE.den, DV.int, DV.bool, DV.list, LOp.den, List.map_cons, List.map_nil, Nat.reduceEqDiff, ↓reduceIte, reduceCtorEq, Bool.and_eq_true, Bool.or_eq_true, Bool.not_eq_true', Bool.not_eq_false', Bool.and_eq_false_iff, Bool.or_eq_false_iff, decide_eq_true_eq, decide_eq_false_iff_not]; omega) ?_
      have hsi := hside _ (mem_getD hlt)
      refine h_call (c := c26) rfl (show sideP ((l.getD i []).getD 0 0) ((l.getD i []).getD 1 0) ((l.getD i []).getD 2 0) ((l.getD i []).getD 3 0) ((l.getD i []).getD 4 0) ∧ nearP x y from ⟨hsi, hn⟩) fun rs hk hr => ?_
      have hr : rs = [.i (sideAt ((l.getD i []).getD 0 0) ((l.getD i []).getD 1 0) ((l.getD i []).getD 2 0) ((l.getD i []).getD 3 0) x y)] := hr
      subst hr
      refine h_ite (fun g1 => ?_) (fun g1 => ?_)
      · have g1 : decide (sideAt ((l.getD i []).getD 0 0) ((l.getD i []).getD 1 0) ((l.getD i []).getD 2 0) ((l.getD i []).getD 3 0) x y < (l.getD i []).getD 4 0) = true := g1
        rw [decide_eq_true_eq] at g1
        refine retN (P := hasP a0 a1 b0 b1 c0 c1 (256 * x + 128) (256 * y + 128)) fun h => ?_
        have := (hH.1 h).2 _ (mem_getD hlt)
        unfold okS at this
        omega
      · have g1 : decide (sideAt ((l.getD i []).getD 0 0) ((l.getD i []).getD 1 0) ((l.getD i []).getD 2 0) ((l.getD i []).getD 3 0) x y < (l.getD i []).getD 4 0) = false := g1
        rw [decide_eq_false_iff_not] at g1
        refine h_need (by simp only [Env.sets, Env.set, BE.den, IE.den, DE.den, DV.int, DV.bool, DV.list, LOp.den, List.map_cons, List.map_nil, Nat.reduceEqDiff, ↓reduceIte, reduceCtorEq, Bool.and_eq_true, Bool.or_eq_true, Bool.not_eq_true', Bool.not_eq_false', Bool.and_eq_false_iff, Bool.or_eq_false_iff, decide_eq_true_eq, decide_eq_false_iff_not]; omega) ?_
        refine h_again ⟨⟨r, i + 1, by simp [DE.den, BE.den, IE.den, Env.sets, Env.set, DV.int, DV.bool], by omega, fun j hj => ?_⟩, ?_⟩
        · by_cases he : j = i
          · subst he; unfold okS; omega
          · exact hall j (by omega)
        · simp only [Env.sets, Env.set, BE.den, IE.den, DE.den, DV.int, DV.bool, DV.list, LOp.den, List.map_cons, List.map_nil, Nat.reduceEqDiff, ↓reduceIte, reduceCtorEq, Bool.and_eq_true, Bool.or_eq_true, Bool.not_eq_true', Bool.not_eq_false', Bool.and_eq_false_iff, Bool.or_eq_false_iff, decide_eq_true_eq, decide_eq_false_iff_not]
          omega
    · simp only [Env.sets, Env.set, BE.den, IE.den, DE.den, DV.int, DV.bool, DV.list, LOp.den, List.map_cons, List.map_nil, Nat.reduceEqDiff, ↓reduceIte, reduceCtorEq, Bool.and_eq_true, Bool.or_eq_true, Bool.not_eq_true', Bool.not_eq_false', Bool.and_eq_false_iff, Bool.or_eq_false_iff, decide_eq_true_eq, decide_eq_false_iff_not] at g0
      have hi' : i = l.length := by omega
      refine retB (X := decide ((0 : Int) < (l.length : Int))) (P := hasP a0 a1 b0 b1 c0 c1 (256 * x + 128) (256 * y + 128)) ?_
      rw [hH, decide_eq_true_eq]
      constructor
      · intro h
        refine ⟨by omega, fun s hs => ?_⟩
        obtain ⟨j, hj, rfl⟩ := List.getElem_of_mem hs
        have := hall j (by omega)
        simpa [List.getD, List.getElem?_eq_getElem hj] using this
      · intro h
        have := h.1
        omega
  · cases hp
theorem ok18 : ContractOk Try.prog 18 (cHas sg18) := by
  refine contract_of (Γ := knownOf [(16, (cArea sg16)), (25, c25)]) (known_cons ok16 rfl (known_cons ok25 rfl known_nil)) Try.func18 rfl rfl is18 fun ds hk hp => ?_
  split at hp
  · skip
    rename_i a0 a1 a2 a3 a4 a5 a6 b0 b1 b2 b3 b4 b5 b6 c0 c1 c2 c3 c4 c5 c6 x y
    obtain ⟨ha, hb, hc, hn⟩ := hp
    obtain ⟨n, hA⟩ : ∃ n, areaI a0 a1 b0 b1 c0 c1 = n := ⟨_, rfl⟩
    refine h_call (c := cArea sg16) rfl (show farP a0 a1 ∧ farP b0 b1 ∧ midP c0 c1 from ⟨ha, hb, by unfold farP at hc; unfold midP; omega⟩) fun rs hk hr => ?_
    have hr : rs = [.i (areaI a0 a1 b0 b1 c0 c1)] := hr
    rw [hA] at hr
    subst hr
    refine h_ite (fun g => ?_) (fun g => ?_)
    · have g : decide (n < 0) = true := g
      rw [decide_eq_true_eq] at g
      refine h_callg (c := c25) rfl (fun _ => show farP a0 a1 ∧ farP c0 c1 ∧ nearP x y from ⟨ha, hc, hn⟩) fun rs hk hr1 => ?_
      obtain ⟨i1, rfl⟩ := kinds1b hk
      have hr1 : (!decide (n = 0)) = true → [DV.b i1] = [DV.b (decide (leftP a0 a1 c0 c1 (256 * x + 128) (256 * y + 128)))] := hr1
      refine h_callg (c := c25) rfl (fun _ => show farP c0 c1 ∧ farP b0 b1 ∧ nearP x y from ⟨hc, hb, hn⟩) fun rs hk hr2 => ?_
      obtain ⟨i2, rfl⟩ := kinds1b hk
      have hr2 : (!decide (n = 0) && i1) = true → [DV.b i2] = [DV.b (decide (leftP c0 c1 b0 b1 (256 * x + 128) (256 * y + 128)))] := hr2
      refine h_callg (c := c25) rfl (fun _ => show farP b0 b1 ∧ farP a0 a1 ∧ nearP x y from ⟨hb, ha, hn⟩) fun rs hk hr3 => ?_
      obtain ⟨i3, rfl⟩ := kinds1b hk
      have hr3 : ((!decide (n = 0) && i1) && i2) = true → [DV.b i3] = [DV.b (decide (leftP b0 b1 a0 a1 (256 * x + 128) (256 * y + 128)))] := hr3
      refine retB (X := ((!decide (n = 0) && i1) && i2) && i3) (P := hasP a0 a1 b0 b1 c0 c1 (256 * x + 128) (256 * y + 128)) ?_
      unfold hasP
      rw [hA]
      simp only [Bool.and_eq_true, Bool.not_eq_true', decide_eq_false_iff_not] at *
      constructor
      · rintro ⟨⟨⟨a, b⟩, c⟩, d⟩
        have e1 := b_of (hr1 a)
        have e2 := b_of (hr2 ⟨a, b⟩)
        have e3 := b_of (hr3 ⟨⟨a, b⟩, c⟩)
        rw [b] at e1
        rw [c] at e2
        rw [d] at e3
        exact .inr ⟨by omega, by simpa using e1.symm, by simpa using e2.symm, by simpa using e3.symm⟩
      · rintro (⟨a, b, c, d⟩ | ⟨a, b, c, d⟩)
        · omega
        · skip
          have a' : ¬ n = 0 := by omega
          have e1 : i1 = true := by rw [b_of (hr1 a')]; simpa using b
          have e2 : i2 = true := by rw [b_of (hr2 ⟨a', e1⟩)]; simpa using c
          have e3 : i3 = true := by rw [b_of (hr3 ⟨⟨a', e1⟩, e2⟩)]; simpa using d
          exact ⟨⟨⟨a', e1⟩, e2⟩, e3⟩
    · have g : decide (n < 0) = false := g
      rw [decide_eq_false_iff_not] at g
      refine h_callg (c := c25) rfl (fun _ => show farP a0 a1 ∧ farP b0 b1 ∧ nearP x y from ⟨ha, hb, hn⟩) fun rs hk hr1 => ?_
      obtain ⟨i1, rfl⟩ := kinds1b hk
      have hr1 : (!decide (n = 0)) = true → [DV.b i1] = [DV.b (decide (leftP a0 a1 b0 b1 (256 * x + 128) (256 * y + 128)))] := hr1
      refine h_callg (c := c25) rfl (fun _ => show farP b0 b1 ∧ farP c0 c1 ∧ nearP x y from ⟨hb, hc, hn⟩) fun rs hk hr2 => ?_
      obtain ⟨i2, rfl⟩ := kinds1b hk
      have hr2 : (!decide (n = 0) && i1) = true → [DV.b i2] = [DV.b (decide (leftP b0 b1 c0 c1 (256 * x + 128) (256 * y + 128)))] := hr2
      refine h_callg (c := c25) rfl (fun _ => show farP c0 c1 ∧ farP a0 a1 ∧ nearP x y from ⟨hc, ha, hn⟩) fun rs hk hr3 => ?_
      obtain ⟨i3, rfl⟩ := kinds1b hk
      have hr3 : ((!decide (n = 0) && i1) && i2) = true → [DV.b i3] = [DV.b (decide (leftP c0 c1 a0 a1 (256 * x + 128) (256 * y + 128)))] := hr3
      refine retB (X := ((!decide (n = 0) && i1) && i2) && i3) (P := hasP a0 a1 b0 b1 c0 c1 (256 * x + 128) (256 * y + 128)) ?_
      unfold hasP
      rw [hA]
      simp only [Bool.and_eq_true, Bool.not_eq_true', decide_eq_false_iff_not] at *
      constructor
      · rintro ⟨⟨⟨a, b⟩, c⟩, d⟩
        have e1 := b_of (hr1 a)
        have e2 := b_of (hr2 ⟨a, b⟩)
        have e3 := b_of (hr3 ⟨⟨a, b⟩, c⟩)
        rw [b] at e1
        rw [c] at e2
        rw [d] at e3
        exact .inl ⟨by omega, by simpa using e1.symm, by simpa using e2.symm, by simpa using e3.symm⟩
      · rintro (⟨a, b, c, d⟩ | ⟨a, b, c, d⟩)
        · skip
          have a' : ¬ n = 0 := by omega
          have e1 : i1 = true := by rw [b_of (hr1 a')]; simpa using b
          have e2 : i2 = true := by rw [b_of (hr2 ⟨a', e1⟩)]; simpa using c
          have e3 : i3 = true := by rw [b_of (hr3 ⟨⟨a', e1⟩, e2⟩)]; simpa using d
          exact ⟨⟨⟨a', e1⟩, e2⟩, e3⟩
        · omega
  · cases hp
end Go.Proofs.Ytmnnaofonefobaa.Fns

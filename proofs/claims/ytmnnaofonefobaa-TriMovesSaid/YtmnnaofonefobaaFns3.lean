/- Layer 20: spans. -/
import Derived.Test.YtmnnaofonefobaaFns2
set_option linter.unusedVariables false
set_option linter.unusedSimpArgs false
set_option maxRecDepth 10000
namespace Go.Proofs.Ytmnnaofonefobaa.Fns
open Go.Sx Go.Proofs.Ytmnnaofonefobaa.Trees Go.Proofs.Ytmnnaofonefobaa.Plain

theorem h_againO {Γ : Known} {R : List DV → Prop} {env : Env} {F : Nat → List DV → Prop} {vals : List DE} {id id' : Nat} {G G' : List DV → Prop} (hne : id ≠ id') (h : G (vals.map (DE.den env))) : (Tree.again id vals).holds Γ R env (upF (upF F id G) id' G') := by
  simpa [Tree.holds, upF, hne] using h
def spansL (ax ay bx b' cx cy X0 Y0 X1 Y1 : Int) : List (List Int) := if rightP X0 Y0 X1 Y1 then spansFrom (spanAt ax ay bx b' cx cy X0 X1) Y0 (Y1 - Y0).toNat else []
theorem spansL_len {ax ay bx b' cx cy X0 Y0 X1 Y1 : Int} : (spansL ax ay bx b' cx cy X0 Y0 X1 Y1).length ≤ 8388608 := by
  unfold spansL
  split
  · rename_i h
    unfold rightP at h
    have := spans_len (g := spanAt ax ay bx b' cx cy X0 X1) (y0 := Y0) (fun y => spanAt_len) (n := (Y1 - Y0).toNat)
    omega
  · simp
theorem ft_step {l : List Side} {y f t : Int} {k : Nat} (h : k < l.length) : rowFT (l.take (k + 1)) y f t = stepOf (l.getD k []) y (rowFT (l.take k) y f t) := by
  rw [List.take_succ_eq_append_getElem h]
  have e : l.getD k [] = l[k] := by simp [List.getD, List.getElem?_eq_getElem h]
  rw [e]
  unfold rowFT
  rw [List.foldl_append]
  rfl
theorem spans_next {g : Int → List (List Int)} {lo y : Int} (h : lo ≤ y) : spansFrom g lo (y + 1 - lo).toNat = spansFrom g lo (y - lo).toNat ++ g y := by
  rw [show (y + 1 - lo).toNat = (y - lo).toNat + 1 by omega, spansFrom, show lo + ((y - lo).toNat : Int) = y by omega]
def cSpans (sg : Sig) : Contract := CFn sg (fun | [.i a0, .i a1, .i a2, .i a3, .i a4, .i a5, .i a6, .i b0, .i b1, .i b2, .i b3, .i b4, .i b5, .i b6, .i c0, .i c1, .i c2, .i c3, .i c4, .i c5, .i c6, .i X0, .i Y0, .i X1, .i Y1] => farP a0 a1 ∧ farP b0 b1 ∧ farP c0 c1 | _ => False) (fun | [.i a0, .i a1, .i a2, .i a3, .i a4, .i a5, .i a6, .i b0, .i b1, .i b2, .i b3, .i b4, .i b5, .i b6, .i c0, .i c1, .i c2, .i c3, .i c4, .i c5, .i c6, .i X0, .i Y0, .i X1, .i Y1] => [.l (spansL a0 a1 b0 b1 c0 c1 X0 Y0 X1 Y1)] | _ => [])
def c12 : Contract := CFn sg12 (fun | [.l a, .l b] => a = b ∧ a.length ≤ 1000000000 | _ => False) (fun | [.l a, .l b] => [.b true] | _ => [])
def c10 : Contract := CFn sg10 (fun | [] => True | _ => False) (fun | [] => [.b true] | _ => [])
theorem ok13 : ContractOk Try.prog 13 (cSpans sg13) := by
  refine contract_of (Γ := knownOf [(22, c22), (23, c23), (24, c24)]) (known_cons ok22 rfl (known_cons ok23 rfl (known_cons ok24 rfl known_nil))) Try.func13 rfl rfl is13 fun ds hk hp => ?_
  split at hp
  · skip
    rename_i a0 a1 a2 a3 a4 a5 a6 b0 b1 b2 b3 b4 b5 b6 c0 c1 c2 c3 c4 c5 c6 X0 Y0 X1 Y1
    obtain ⟨ha, hb, hc⟩ := hp
    have hside := sides_ok ha hb hc
    have hlen := sides_len (ax := a0) (ay := a1) (bx := b0) (b' := b1) (cx := c0) (cy := c1)
    have hA : (sidesL a0 a1 b0 b1 c0 c1).length = 0 ↔ areaI a0 a1 b0 b1 c0 c1 = 0 := by
      unfold sidesL
      by_cases h : areaI a0 a1 b0 b1 c0 c1 < 0
      · rw [if_pos h]; simp; omega
      · by_cases h2 : areaI a0 a1 b0 b1 c0 c1 = 0
        · rw [if_neg h, if_pos h2]; simp [h2]
        · rw [if_neg h, if_neg h2]; simp [h2]
    obtain ⟨g, hg⟩ : ∃ g, spanAt a0 a1 b0 b1 c0 c1 X0 X1 = g := ⟨_, rfl⟩
    have hg0 : areaI a0 a1 b0 b1 c0 c1 = 0 → ∀ y, g y = [] := fun h y => by rw [← hg]; unfold spanAt; rw [if_pos h]
    have hgy : areaI a0 a1 b0 b1 c0 c1 ≠ 0 → ∀ y, g y = if (rowFT (sidesL a0 a1 b0 b1 c0 c1) y X0 X1).1 < (rowFT (sidesL a0 a1 b0 b1 c0 c1) y X0 X1).2 then [[y, (rowFT (sidesL a0 a1 b0 b1 c0 c1) y X0 X1).1, (rowFT (sidesL a0 a1 b0 b1 c0 c1) y X0 X1).2]] else [] := fun h y => by rw [← hg]; unfold spanAt; rw [if_neg h]
    have hgl : ∀ y, (g y).length ≤ 1 := fun y => by rw [← hg]; exact spanAt_len
    have hgn : ∀ y, 256 * y + 128 < min (min a1 b1) c1 ∨ max (max a1 b1) c1 < 256 * y + 128 → g y = [] := fun y h => by rw [← hg]; exact spanAt_nil h
    obtain ⟨l, hl⟩ : ∃ l, sidesL a0 a1 b0 b1 c0 c1 = l := ⟨_, rfl⟩
    rw [hl] at hside hlen hA hgy
    have hF : ∀ L, L = spansL a0 a1 b0 b1 c0 c1 X0 Y0 X1 Y1 → [DV.l L] = [DV.l (spansL a0 a1 b0 b1 c0 c1 X0 Y0 X1 Y1)] := fun L h => by rw [h]
    refine h_call (c := c22) rfl (show farP a0 a1 ∧ farP b0 b1 ∧ farP c0 c1 from ⟨ha, hb, hc⟩) fun rs hk hr => ?_
    have hr : rs = [.l (sidesL a0 a1 b0 b1 c0 c1)] := hr
    rw [hl] at hr
    subst hr
    refine h_callg (c := c23) rfl (fun _ => trivial) fun rs hk hr2 => ?_
    obtain ⟨i2, rfl⟩ := kinds1b hk
    have hr2 : (!decide ((l.length : Int) = 0)) = true → [DV.b i2] = [DV.b (decide (rightP X0 Y0 X1 Y1))] := hr2
    refine h_ite (fun g0 => ?_) (fun g0 => ?_)
    · have g0 : (decide ((l.length : Int) = 0) || !i2) = true := g0
      refine hF [] ?_
      unfold spansL
      split
      · rename_i hR
        rw [hg]
        symm
        refine spans_nil fun y _ _ => hg0 (hA.1 ?_) y
        by_cases hz : l.length = 0
        · exact hz
        · have := b_of (hr2 (by rw [Bool.not_eq_true', decide_eq_false_iff_not]; omega))
          rw [this] at g0
          simp [hR] at g0
          rw [g0]; rfl
      · rfl
    · have g0 : (decide ((l.length : Int) = 0) || !i2) = false := g0
      simp only [Bool.or_eq_false_iff, decide_eq_false_iff_not, Bool.not_eq_false'] at g0
      obtain ⟨hz, rfl⟩ := g0
      have hR : rightP X0 Y0 X1 Y1 := by have := b_of (hr2 (by rw [Bool.not_eq_true', decide_eq_false_iff_not]; omega)); simpa using this.symm
      have hR' := hR
      unfold rightP at hR'
      have hne : areaI a0 a1 b0 b1 c0 c1 ≠ 0 := fun h => hz (by rw [hA.2 h]; rfl)
      have hgy := hgy hne
      have ha' := ha
      have hb' := hb
      have hc' := hc
      unfold farP at ha' hb' hc'
      iterate 2 refine h_need (by simp only [Env.sets, Env.set, BE.den, IE.den, DE.den, DV.int, DV.bool, DV.list, LOp.den, List.map_cons, List.map_nil, Nat.reduceEqDiff, ↓reduceIte, reduceCtorEq, Bool.and_eq_true, Bool.or_eq_true, Bool.not_eq_true', Bool.not_eq_false', Bool.and_eq_false_iff, Bool.or_eq_false_iff, decide_eq_true_eq, decide_eq_false_iff_not]; omega) ?_
      obtain ⟨lo, hlo⟩ : ∃ lo, max Y0 (min (min a1 b1) c1 / 256 - 1) = lo := ⟨_, rfl⟩
      obtain ⟨hi, hhi⟩ : ∃ hi, min Y1 (max (max a1 b1) c1 / 256 + 2) = hi := ⟨_, rfl⟩
      refine h_loop (fun ds => ∃ y : Int, ds = [.l (spansFrom g lo (y - lo).toNat), .i y] ∧ lo ≤ y ∧ y ≤ max lo hi) (fun | [_, .i y] => (max lo hi - y).toNat | _ => 0) ⟨lo, by rw [Int.sub_self]; simp [DE.den, IE.den, Env.sets, Env.set, DV.int, ← hlo, spansFrom], by omega, by omega⟩ ?_
      intro ds _ ⟨y, hds, hy1, hy2⟩
      subst hds
      have hsl := spans_len (g := g) (y0 := lo) hgl (n := (y - lo).toNat)
      refine h_ite (fun g1 => ?_) (fun g1 => ?_)
      · simp only [Env.sets, Env.set, BE.den, IE.den, DE.den, DV.int, DV.bool, DV.list, LOp.den, List.map_cons, List.map_nil, Nat.reduceEqDiff, ↓reduceIte, reduceCtorEq, Bool.and_eq_true, Bool.or_eq_true, Bool.not_eq_true', Bool.not_eq_false', Bool.and_eq_false_iff, Bool.or_eq_false_iff, decide_eq_true_eq, decide_eq_false_iff_not, hhi] at g1
        refine h_loop (fun ds => ∃ k : Nat, ds = [.i (rowFT (l.take k) y X0 X1).1, .i (rowFT (l.take k) y X0 X1).2, .i k] ∧ k ≤ l.length) (fun | [_, _, .i k] => ((l.length : Int) - k).toNat | _ => 0) ⟨0, by simp [DE.den, IE.den, Env.sets, Env.set, DV.int, rowFT], by omega⟩ ?_
        intro ds _ ⟨k, hds, hk2⟩
        subst hds
        refine h_ite (fun g2 => ?_) (fun g2 => ?_)
        · simp only [Env.sets, Env.set, BE.den, IE.den, DE.den, DV.int, DV.bool, DV.list, LOp.den, List.map_cons, List.map_nil, Nat.reduceEqDiff, ↓reduceIte, reduceCtorEq, Bool.and_eq_true, Bool.or_eq_true, Bool.not_eq_true', Bool.not_eq_false', Bool.and_eq_false_iff, Bool.or_eq_false_iff, decide_eq_true_eq, decide_eq_false_iff_not] at g2
          have hlt : k < l.length := by omega
          have hst := ft_step (y := y) (f := X0) (t := X1) hlt
          have hsi := hside _ (mem_getD hlt)
          refine h_need (by simp only [Env.sets, Env.set, BE.den, IE.den, DE.den, DV.int, DV.bool, DV.list, LOp.den, List.map_cons, List.map_nil, Nat.reduceEqDiff, ↓reduceIte, reduceCtorEq, Bool.and_eq_true, Bool.or_eq_true, Bool.not_eq_true', Bool.not_eq_false', Bool.and_eq_false_iff, Bool.or_eq_false_iff, decide_eq_true_eq, decide_eq_false_iff_not]; omega) ?_
          refine h_call (c := c24) rfl (show sideP ((l.getD k []).getD 0 0) ((l.getD k []).getD 1 0) ((l.getD k []).getD 2 0) ((l.getD k []).getD 3 0) ((l.getD k []).getD 4 0) ∧ nearP 0 y from ⟨hsi, by unfold nearP; omega⟩) fun rs hk hr => ?_
          have hr : rs = [.i (stepOf (l.getD k []) y (rowFT (l.take k) y X0 X1)).1, .i (stepOf (l.getD k []) y (rowFT (l.take k) y X0 X1)).2] := hr
          rw [← hst] at hr
          subst hr
          refine h_need (by simp only [Env.sets, Env.set, BE.den, IE.den, DE.den, DV.int, DV.bool, DV.list, LOp.den, List.map_cons, List.map_nil, Nat.reduceEqDiff, ↓reduceIte, reduceCtorEq, Bool.and_eq_true, Bool.or_eq_true, Bool.not_eq_true', Bool.not_eq_false', Bool.and_eq_false_iff, Bool.or_eq_false_iff, decide_eq_true_eq, decide_eq_false_iff_not]; omega) ?_
          refine h_again ⟨⟨k + 1, by simp [DE.den, IE.den, Env.sets, Env.set, DV.int], by omega⟩, ?_⟩
          simp only [Env.sets, Env.set, BE.den, IE.den, DE.den, DV.int, DV.bool, DV.list, LOp.den, List.map_cons, List.map_nil, Nat.reduceEqDiff, ↓reduceIte, reduceCtorEq, Bool.and_eq_true, Bool.or_eq_true, Bool.not_eq_true', Bool.not_eq_false', Bool.and_eq_false_iff, Bool.or_eq_false_iff, decide_eq_true_eq, decide_eq_false_iff_not]
          omega
        · simp only [Env.sets, Env.set, BE.den, IE.den, DE.den, DV.int, DV.bool, DV.list, LOp.den, List.map_cons, List.map_nil, Nat.reduceEqDiff, ↓reduceIte, reduceCtorEq, Bool.and_eq_true, Bool.or_eq_true, Bool.not_eq_true', Bool.not_eq_false', Bool.and_eq_false_iff, Bool.or_eq_false_iff, decide_eq_true_eq, decide_eq_false_iff_not] at g2
          have hk' : k = l.length := by omega
          subst hk'
          rw [List.take_of_length_le (Nat.le_refl _)]
          have hgy := hgy y
          generalize rowFT l y X0 X1 = ft at *
          have hnx := spans_next (g := g) hy1
          refine h_ite (fun g3 => ?_) (fun g3 => ?_)
          · simp only [Env.sets, Env.set, BE.den, IE.den, DE.den, DV.int, DV.bool, DV.list, LOp.den, List.map_cons, List.map_nil, Nat.reduceEqDiff, ↓reduceIte, reduceCtorEq, Bool.and_eq_true, Bool.or_eq_true, Bool.not_eq_true', Bool.not_eq_false', Bool.and_eq_false_iff, Bool.or_eq_false_iff, decide_eq_true_eq, decide_eq_false_iff_not] at g3
            rw [if_pos g3] at hgy
            rw [hgy] at hnx
            refine h_letE (M := [[y, ft.1, ft.2]]) rfl ?_
            refine h_need (by simp only [Env.sets, Env.set, BE.den, IE.den, DE.den, DV.int, DV.bool, DV.list, LOp.den, List.map_cons, List.map_nil, Nat.reduceEqDiff, ↓reduceIte, reduceCtorEq, Bool.and_eq_true, Bool.or_eq_true, Bool.not_eq_true', Bool.not_eq_false', Bool.and_eq_false_iff, Bool.or_eq_false_iff, decide_eq_true_eq, decide_eq_false_iff_not, List.length_cons, List.length_nil]; omega) ?_
            refine h_letE (M := spansFrom g lo (y + 1 - lo).toNat) ?_ ?_
            · exact hnx.symm
            refine h_need (by simp only [Env.sets, Env.set, BE.den, IE.den, DE.den, DV.int, DV.bool, DV.list, LOp.den, List.map_cons, List.map_nil, Nat.reduceEqDiff, ↓reduceIte, reduceCtorEq, Bool.and_eq_true, Bool.or_eq_true, Bool.not_eq_true', Bool.not_eq_false', Bool.and_eq_false_iff, Bool.or_eq_false_iff, decide_eq_true_eq, decide_eq_false_iff_not]; omega) ?_
            refine h_againO (by decide) ⟨⟨y + 1, by simp [DE.den, IE.den, Env.sets, Env.set, DV.int, DV.list], by omega, by omega⟩, ?_⟩
            simp only [Env.sets, Env.set, BE.den, IE.den, DE.den, DV.int, DV.bool, DV.list, LOp.den, List.map_cons, List.map_nil, Nat.reduceEqDiff, ↓reduceIte, reduceCtorEq, Bool.and_eq_true, Bool.or_eq_true, Bool.not_eq_true', Bool.not_eq_false', Bool.and_eq_false_iff, Bool.or_eq_false_iff, decide_eq_true_eq, decide_eq_false_iff_not]
            omega
          · simp only [Env.sets, Env.set, BE.den, IE.den, DE.den, DV.int, DV.bool, DV.list, LOp.den, List.map_cons, List.map_nil, Nat.reduceEqDiff, ↓reduceIte, reduceCtorEq, Bool.and_eq_true, Bool.or_eq_true, Bool.not_eq_true', Bool.not_eq_false', Bool.and_eq_false_iff, Bool.or_eq_false_iff, decide_eq_true_eq, decide_eq_false_iff_not] at g3
            rw [if_neg g3] at hgy
            rw [hgy, List.append_nil] at hnx
            refine h_need (by simp only [Env.sets, Env.set, BE.den, IE.den, DE.den, DV.int, DV.bool, DV.list, LOp.den, List.map_cons, List.map_nil, Nat.reduceEqDiff, ↓reduceIte, reduceCtorEq, Bool.and_eq_true, Bool.or_eq_true, Bool.not_eq_true', Bool.not_eq_false', Bool.and_eq_false_iff, Bool.or_eq_false_iff, decide_eq_true_eq, decide_eq_false_iff_not]; omega) ?_
            refine h_againO (by decide) ⟨⟨y + 1, by rw [hnx]; simp [DE.den, IE.den, Env.sets, Env.set, DV.int, DV.list], by omega, by omega⟩, ?_⟩
            simp only [Env.sets, Env.set, BE.den, IE.den, DE.den, DV.int, DV.bool, DV.list, LOp.den, List.map_cons, List.map_nil, Nat.reduceEqDiff, ↓reduceIte, reduceCtorEq, Bool.and_eq_true, Bool.or_eq_true, Bool.not_eq_true', Bool.not_eq_false', Bool.and_eq_false_iff, Bool.or_eq_false_iff, decide_eq_true_eq, decide_eq_false_iff_not]
            omega
      · simp only [Env.sets, Env.set, BE.den, IE.den, DE.den, DV.int, DV.bool, DV.list, LOp.den, List.map_cons, List.map_nil, Nat.reduceEqDiff, ↓reduceIte, reduceCtorEq, Bool.and_eq_true, Bool.or_eq_true, Bool.not_eq_true', Bool.not_eq_false', Bool.and_eq_false_iff, Bool.or_eq_false_iff, decide_eq_true_eq, decide_eq_false_iff_not, hhi] at g1
        refine hF (spansFrom g lo (y - lo).toNat) ?_
        unfold spansL
        rw [if_pos hR, hg, show (y - lo).toNat = (hi - lo).toNat by omega]
        exact spans_cut (by omega) (by omega) (by omega) fun y h1 h2 h3 => hgn y (by omega)
  · cases hp
theorem ok14 : ContractOk Try.prog 14 (cSpans sg14) := by
  refine contract_of (Γ := knownOf [(21, c21), (18, cHas sg18)]) (known_cons ok21 rfl (known_cons ok18 rfl known_nil)) Try.func14 rfl rfl is14 fun ds hk hp => ?_
  split at hp
  · skip
    rename_i a0 a1 a2 a3 a4 a5 a6 b0 b1 b2 b3 b4 b5 b6 c0 c1 c2 c3 c4 c5 c6 X0 Y0 X1 Y1
    obtain ⟨ha, hb, hc⟩ := hp
    have hF : ∀ L, L = spansL a0 a1 b0 b1 c0 c1 X0 Y0 X1 Y1 → [DV.l L] = [DV.l (spansL a0 a1 b0 b1 c0 c1 X0 Y0 X1 Y1)] := fun L h => by rw [h]
    refine h_call (c := c21) rfl (trivial) fun rs hk hr => ?_
    have hr : rs = [.b (decide (rightP X0 Y0 X1 Y1))] := hr
    subst hr
    refine h_ite (fun g0 => ?_) (fun g0 => ?_)
    · have g0 : (!decide (rightP X0 Y0 X1 Y1)) = true := g0
      simp only [Bool.not_eq_true', decide_eq_false_iff_not] at g0
      exact hF [] (by unfold spansL; rw [if_neg g0])
    · have g0 : (!decide (rightP X0 Y0 X1 Y1)) = false := g0
      simp only [Bool.not_eq_false', decide_eq_true_eq] at g0
      have hR := g0
      unfold rightP at hR
      obtain ⟨g, hg⟩ : ∃ g, spanAt a0 a1 b0 b1 c0 c1 X0 X1 = g := ⟨_, rfl⟩
      have hgl : ∀ y, (g y).length ≤ 1 := fun y => by rw [← hg]; exact spanAt_len
      refine h_loop (fun ds => ∃ y : Int, ds = [.l (spansFrom g Y0 (y - Y0).toNat), .i y] ∧ Y0 ≤ y ∧ y ≤ Y1) (fun | [_, .i y] => (Y1 - y).toNat | _ => 0) ⟨Y0, by rw [Int.sub_self]; simp [DE.den, IE.den, Env.sets, Env.set, DV.int, spansFrom], by omega, by omega⟩ ?_
      intro ds _ ⟨y, hds, hy1, hy2⟩
      subst hds
      have hsl := spans_len (g := g) (y0 := Y0) hgl (n := (y - Y0).toNat)
      refine h_ite (fun g1 => ?_) (fun g1 => ?_)
      · simp only [Env.sets, Env.set, BE.den, IE.den, DE.den, DV.int, DV.bool, DV.list, LOp.den, List.map_cons, List.map_nil, Nat.reduceEqDiff, ↓reduceIte, reduceCtorEq, Bool.and_eq_true, Bool.or_eq_true, Bool.not_eq_true', Bool.not_eq_false', Bool.and_eq_false_iff, Bool.or_eq_false_iff, decide_eq_true_eq, decide_eq_false_iff_not] at g1
        obtain ⟨f, t, hft, hgy⟩ := spanAt_spec (ax := a0) (ay := a1) (bx := b0) (by' := b1) (cx := c0) (cy := c1) (X0 := X0) (X1 := X1) (y := y)
        rw [hg] at hgy
        have hf1 : f < t → X0 ≤ f ∧ t ≤ X1 := fun h => by
          have h1 := (hft f).1 ⟨Int.le_refl _, h⟩
          have h2 := (hft (t - 1)).1 ⟨by omega, by omega⟩
          omega
        refine h_loop (fun ds => ∃ n x u v : Int, ds = [.i n, .i x, .i u, .i v] ∧ X0 ≤ x ∧ x ≤ X1 ∧ ((n = 0 ∧ u = 0 ∧ v = 0 ∧ (x ≤ f ∨ t ≤ f)) ∨ (f < x ∧ f < t ∧ n = min x t - f ∧ u = f ∧ v = min x t))) (fun | [_, .i x, _, _] => (X1 - x).toNat | _ => 0) ⟨0, X0, 0, 0, by simp [DE.den, IE.den, Env.sets, Env.set, DV.int], by omega, by omega, .inl ⟨rfl, rfl, rfl, by omega⟩⟩ ?_
        intro ds _ ⟨n, x, u, v, hds, hx1, hx2, hc2⟩
        subst hds
        refine h_ite (fun g2 => ?_) (fun g2 => ?_)
        · simp only [Env.sets, Env.set, BE.den, IE.den, DE.den, DV.int, DV.bool, DV.list, LOp.den, List.map_cons, List.map_nil, Nat.reduceEqDiff, ↓reduceIte, reduceCtorEq, Bool.and_eq_true, Bool.or_eq_true, Bool.not_eq_true', Bool.not_eq_false', Bool.and_eq_false_iff, Bool.or_eq_false_iff, decide_eq_true_eq, decide_eq_false_iff_not] at g2
          have hfx := hft x
          refine h_call (c := cHas sg18) rfl (show farP a0 a1 ∧ farP b0 b1 ∧ farP c0 c1 ∧ nearP x y from ⟨ha, hb, hc, by unfold nearP; omega⟩) fun rs hk hr => ?_
          have hr : rs = [.b (decide (hasP a0 a1 b0 b1 c0 c1 (256 * x + 128) (256 * y + 128)))] := hr
          subst hr
          refine h_ite (fun g3 => ?_) (fun g3 => ?_)
          · have g3 : (!decide (hasP a0 a1 b0 b1 c0 c1 (256 * x + 128) (256 * y + 128))) = true := g3
            simp only [Bool.not_eq_true', decide_eq_false_iff_not] at g3
            simp only [g3, and_false, iff_false] at hfx
            refine h_need (by simp only [Env.sets, Env.set, BE.den, IE.den, DE.den, DV.int, DV.bool, DV.list, LOp.den, List.map_cons, List.map_nil, Nat.reduceEqDiff, ↓reduceIte, reduceCtorEq, Bool.and_eq_true, Bool.or_eq_true, Bool.not_eq_true', Bool.not_eq_false', Bool.and_eq_false_iff, Bool.or_eq_false_iff, decide_eq_true_eq, decide_eq_false_iff_not]; omega) ?_
            refine h_again ⟨⟨n, x + 1, u, v, by simp [DE.den, IE.den, Env.sets, Env.set, DV.int], by omega, by omega, by omega⟩, ?_⟩
            simp only [Env.sets, Env.set, BE.den, IE.den, DE.den, DV.int, DV.bool, DV.list, LOp.den, List.map_cons, List.map_nil, Nat.reduceEqDiff, ↓reduceIte, reduceCtorEq, Bool.and_eq_true, Bool.or_eq_true, Bool.not_eq_true', Bool.not_eq_false', Bool.and_eq_false_iff, Bool.or_eq_false_iff, decide_eq_true_eq, decide_eq_false_iff_not]
            omega
          · have g3 : (!decide (hasP a0 a1 b0 b1 c0 c1 (256 * x + 128) (256 * y + 128))) = false := g3
            simp only [Bool.not_eq_false', decide_eq_true_eq] at g3
            simp only [g3, and_true] at hfx
            have hfx : f ≤ x ∧ x < t := hfx.2 ⟨by omega, by omega⟩
            refine h_ite (fun g4 => ?_) (fun g4 => ?_)
            · simp only [Env.sets, Env.set, BE.den, IE.den, DE.den, DV.int, DV.bool, DV.list, LOp.den, List.map_cons, List.map_nil, Nat.reduceEqDiff, ↓reduceIte, reduceCtorEq, Bool.and_eq_true, Bool.or_eq_true, Bool.not_eq_true', Bool.not_eq_false', Bool.and_eq_false_iff, Bool.or_eq_false_iff, decide_eq_true_eq, decide_eq_false_iff_not] at g4
              iterate 2 refine h_need (by simp only [Env.sets, Env.set, BE.den, IE.den, DE.den, DV.int, DV.bool, DV.list, LOp.den, List.map_cons, List.map_nil, Nat.reduceEqDiff, ↓reduceIte, reduceCtorEq, Bool.and_eq_true, Bool.or_eq_true, Bool.not_eq_true', Bool.not_eq_false', Bool.and_eq_false_iff, Bool.or_eq_false_iff, decide_eq_true_eq, decide_eq_false_iff_not]; omega) ?_
              refine h_again ⟨⟨n + 1, x + 1, x, x + 1, by simp [DE.den, IE.den, Env.sets, Env.set, DV.int], by omega, by omega, by omega⟩, ?_⟩
              simp only [Env.sets, Env.set, BE.den, IE.den, DE.den, DV.int, DV.bool, DV.list, LOp.den, List.map_cons, List.map_nil, Nat.reduceEqDiff, ↓reduceIte, reduceCtorEq, Bool.and_eq_true, Bool.or_eq_true, Bool.not_eq_true', Bool.not_eq_false', Bool.and_eq_false_iff, Bool.or_eq_false_iff, decide_eq_true_eq, decide_eq_false_iff_not]
              omega
            · simp only [Env.sets, Env.set, BE.den, IE.den, DE.den, DV.int, DV.bool, DV.list, LOp.den, List.map_cons, List.map_nil, Nat.reduceEqDiff, ↓reduceIte, reduceCtorEq, Bool.and_eq_true, Bool.or_eq_true, Bool.not_eq_true', Bool.not_eq_false', Bool.and_eq_false_iff, Bool.or_eq_false_iff, decide_eq_true_eq, decide_eq_false_iff_not] at g4
              iterate 2 refine h_need (by simp only [Env.sets, Env.set, BE.den, IE.den, DE.den, DV.int, DV.bool, DV.list, LOp.den, List.map_cons, List.map_nil, Nat.reduceEqDiff, ↓reduceIte, reduceCtorEq, Bool.and_eq_true, Bool.or_eq_true, Bool.not_eq_true', Bool.not_eq_false', Bool.and_eq_false_iff, Bool.or_eq_false_iff, decide_eq_true_eq, decide_eq_false_iff_not]; omega) ?_
              refine h_again ⟨⟨n + 1, x + 1, u, x + 1, by simp [DE.den, IE.den, Env.sets, Env.set, DV.int], by omega, by omega, by omega⟩, ?_⟩
              simp only [Env.sets, Env.set, BE.den, IE.den, DE.den, DV.int, DV.bool, DV.list, LOp.den, List.map_cons, List.map_nil, Nat.reduceEqDiff, ↓reduceIte, reduceCtorEq, Bool.and_eq_true, Bool.or_eq_true, Bool.not_eq_true', Bool.not_eq_false', Bool.and_eq_false_iff, Bool.or_eq_false_iff, decide_eq_true_eq, decide_eq_false_iff_not]
              omega
        · simp only [Env.sets, Env.set, BE.den, IE.den, DE.den, DV.int, DV.bool, DV.list, LOp.den, List.map_cons, List.map_nil, Nat.reduceEqDiff, ↓reduceIte, reduceCtorEq, Bool.and_eq_true, Bool.or_eq_true, Bool.not_eq_true', Bool.not_eq_false', Bool.and_eq_false_iff, Bool.or_eq_false_iff, decide_eq_true_eq, decide_eq_false_iff_not] at g2
          have hx : x = X1 := by omega
          subst hx
          have hnx := spans_next (g := g) hy1
          refine h_ite (fun g3 => ?_) (fun g3 => ?_)
          · simp only [Env.sets, Env.set, BE.den, IE.den, DE.den, DV.int, DV.bool, DV.list, LOp.den, List.map_cons, List.map_nil, Nat.reduceEqDiff, ↓reduceIte, reduceCtorEq, Bool.and_eq_true, Bool.or_eq_true, Bool.not_eq_true', Bool.not_eq_false', Bool.and_eq_false_iff, Bool.or_eq_false_iff, decide_eq_true_eq, decide_eq_false_iff_not] at g3
            have hft' : f < t := by omega
            obtain ⟨rfl, rfl⟩ : u = f ∧ v = t := by omega
            rw [if_pos hft'] at hgy
            rw [hgy] at hnx
            refine h_letE (M := [[y, u, v]]) rfl ?_
            refine h_need (by simp only [Env.sets, Env.set, BE.den, IE.den, DE.den, DV.int, DV.bool, DV.list, LOp.den, List.map_cons, List.map_nil, Nat.reduceEqDiff, ↓reduceIte, reduceCtorEq, Bool.and_eq_true, Bool.or_eq_true, Bool.not_eq_true', Bool.not_eq_false', Bool.and_eq_false_iff, Bool.or_eq_false_iff, decide_eq_true_eq, decide_eq_false_iff_not, List.length_cons, List.length_nil]; omega) ?_
            refine h_letE (M := spansFrom g Y0 (y + 1 - Y0).toNat) ?_ ?_
            · exact hnx.symm
            refine h_need (by simp only [Env.sets, Env.set, BE.den, IE.den, DE.den, DV.int, DV.bool, DV.list, LOp.den, List.map_cons, List.map_nil, Nat.reduceEqDiff, ↓reduceIte, reduceCtorEq, Bool.and_eq_true, Bool.or_eq_true, Bool.not_eq_true', Bool.not_eq_false', Bool.and_eq_false_iff, Bool.or_eq_false_iff, decide_eq_true_eq, decide_eq_false_iff_not]; omega) ?_
            refine h_againO (by decide) ⟨⟨y + 1, by simp [DE.den, IE.den, Env.sets, Env.set, DV.int, DV.list], by omega, by omega⟩, ?_⟩
            simp only [Env.sets, Env.set, BE.den, IE.den, DE.den, DV.int, DV.bool, DV.list, LOp.den, List.map_cons, List.map_nil, Nat.reduceEqDiff, ↓reduceIte, reduceCtorEq, Bool.and_eq_true, Bool.or_eq_true, Bool.not_eq_true', Bool.not_eq_false', Bool.and_eq_false_iff, Bool.or_eq_false_iff, decide_eq_true_eq, decide_eq_false_iff_not]
            omega
          · simp only [Env.sets, Env.set, BE.den, IE.den, DE.den, DV.int, DV.bool, DV.list, LOp.den, List.map_cons, List.map_nil, Nat.reduceEqDiff, ↓reduceIte, reduceCtorEq, Bool.and_eq_true, Bool.or_eq_true, Bool.not_eq_true', Bool.not_eq_false', Bool.and_eq_false_iff, Bool.or_eq_false_iff, decide_eq_true_eq, decide_eq_false_iff_not] at g3
            have hft' : ¬ f < t := by omega
            rw [if_neg hft'] at hgy
            rw [hgy, List.append_nil] at hnx
            refine h_need (by simp only [Env.sets, Env.set, BE.den, IE.den, DE.den, DV.int, DV.bool, DV.list, LOp.den, List.map_cons, List.map_nil, Nat.reduceEqDiff, ↓reduceIte, reduceCtorEq, Bool.and_eq_true, Bool.or_eq_true, Bool.not_eq_true', Bool.not_eq_false', Bool.and_eq_false_iff, Bool.or_eq_false_iff, decide_eq_true_eq, decide_eq_false_iff_not]; omega) ?_
            refine h_againO (by decide) ⟨⟨y + 1, by rw [hnx]; simp [DE.den, IE.den, Env.sets, Env.set, DV.int, DV.list], by omega, by omega⟩, ?_⟩
            simp only [Env.sets, Env.set, BE.den, IE.den, DE.den, DV.int, DV.bool, DV.list, LOp.den, List.map_cons, List.map_nil, Nat.reduceEqDiff, ↓reduceIte, reduceCtorEq, Bool.and_eq_true, Bool.or_eq_true, Bool.not_eq_true', Bool.not_eq_false', Bool.and_eq_false_iff, Bool.or_eq_false_iff, decide_eq_true_eq, decide_eq_false_iff_not]
            omega
      · simp only [Env.sets, Env.set, BE.den, IE.den, DE.den, DV.int, DV.bool, DV.list, LOp.den, List.map_cons, List.map_nil, Nat.reduceEqDiff, ↓reduceIte, reduceCtorEq, Bool.and_eq_true, Bool.or_eq_true, Bool.not_eq_true', Bool.not_eq_false', Bool.and_eq_false_iff, Bool.or_eq_false_iff, decide_eq_true_eq, decide_eq_false_iff_not] at g1
        refine hF (spansFrom g Y0 (y - Y0).toNat) ?_
        unfold spansL
        rw [if_pos g0, hg, show y = Y1 by omega]
  · cases hp
theorem ok12 : ContractOk Try.prog 12 c12 := by
  refine contract_of (Γ := knownOf []) known_nil Try.func12 rfl rfl is12 fun ds hk hp => ?_
  split at hp
  · skip
    rename_i a b
    obtain ⟨rfl, hl⟩ := hp
    refine h_ite (fun g0 => ?_) (fun g0 => ?_)
    · simp [BE.den, IE.den, Env.sets, Env.set, DV.list] at g0
    · refine h_loop (fun ds => ∃ (r : Bool) (i : Nat), ds = [.b r, .i i] ∧ i ≤ a.length) (fun | [_, .i i] => ((a.length : Int) - i).toNat | _ => 0) ⟨false, 0, by simp [DE.den, BE.den, IE.den], by omega⟩ ?_
      intro ds _ ⟨r, i, hds, hi⟩
      subst hds
      refine h_ite (fun g1 => ?_) (fun g1 => ?_)
      · simp only [Env.sets, Env.set, BE.den, IE.den, DE.den, DV.int, DV.bool, DV.list, LOp.den, List.map_cons, List.map_nil, Nat.reduceEqDiff, ↓reduceIte, reduceCtorEq, Bool.and_eq_true, Bool.or_eq_true, Bool.not_eq_true', Bool.not_eq_false', Bool.and_eq_false_iff, Bool.or_eq_false_iff, decide_eq_true_eq, decide_eq_false_iff_not] at g1
        iterate 2 refine h_need (by simp only [Env.sets, Env.set, BE.den, IE.den, DE.den, DV.int, DV.bool, DV.list, LOp.den, List.map_cons, List.map_nil, Nat.reduceEqDiff, ↓reduceIte, reduceCtorEq, Bool.and_eq_true, Bool.or_eq_true, Bool.not_eq_true', Bool.not_eq_false', Bool.and_eq_false_iff, Bool.or_eq_false_iff, decide_eq_true_eq, decide_eq_false_iff_not]; omega) ?_
        refine h_ite (fun g2 => ?_) (fun g2 => ?_)
        · simp [BE.den, IE.den, Env.sets, Env.set, DV.list] at g2
        · refine h_need (by simp only [Env.sets, Env.set, BE.den, IE.den, DE.den, DV.int, DV.bool, DV.list, LOp.den, List.map_cons, List.map_nil, Nat.reduceEqDiff, ↓reduceIte, reduceCtorEq, Bool.and_eq_true, Bool.or_eq_true, Bool.not_eq_true', Bool.not_eq_false', Bool.and_eq_false_iff, Bool.or_eq_false_iff, decide_eq_true_eq, decide_eq_false_iff_not]; omega) ?_
          refine h_again ⟨⟨r, i + 1, by simp [DE.den, BE.den, IE.den, Env.sets, Env.set, DV.int, DV.bool], by omega⟩, ?_⟩
          simp only [Env.sets, Env.set, BE.den, IE.den, DE.den, DV.int, DV.bool, DV.list, LOp.den, List.map_cons, List.map_nil, Nat.reduceEqDiff, ↓reduceIte, reduceCtorEq, Bool.and_eq_true, Bool.or_eq_true, Bool.not_eq_true', Bool.not_eq_false', Bool.and_eq_false_iff, Bool.or_eq_false_iff, decide_eq_true_eq, decide_eq_false_iff_not]
          omega
      · rfl
  · cases hp
theorem awake_spans : spansL 0 0 512 0 0 512 (-3) (-3) 5 5 = [[0, 0, 1]] := by decide +kernel
theorem ok10 : ContractOk Try.prog 10 c10 := by
  refine contract_of (Γ := knownOf [(13, cSpans sg13), (12, c12), (15, cArea sg15)]) (known_cons ok13 rfl (known_cons ok12 rfl (known_cons ok15 rfl known_nil))) Try.func10 rfl rfl is10 fun ds hk hp => ?_
  split at hp
  · skip
    refine h_call (c := cSpans sg13) rfl (show farP 0 0 ∧ farP 512 0 ∧ farP 0 512 by unfold farP; omega) fun rs hk hr => ?_
    have hr : rs = [.l (spansL 0 0 512 0 0 512 (-3) (-3) 5 5)] := hr
    rw [awake_spans] at hr
    subst hr
    refine h_letE (M := [[0, 0, 1]]) rfl ?_
    refine h_call (c := c12) rfl (show ([[0, 0, 1]] : List (List Int)) = [[0, 0, 1]] ∧ ([[0, 0, 1]] : List (List Int)).length ≤ 1000000000 by simp) fun rs hk hr => ?_
    have hr : rs = [.b true] := hr
    subst hr
    refine h_cally (c := cArea sg15) rfl (by simp [Env.sets, Env.set, BE.den, DV.bool]) (show farP 0 0 ∧ farP 512 0 ∧ midP 0 512 by unfold farP midP; omega) fun rs hk hr => ?_
    have hr : rs = [.i 262144] := hr
    subst hr
    simp [Tree.holds, DE.den, BE.den, IE.den, Env.sets, Env.set, DV.bool, DV.int]
  · cases hp
end Go.Proofs.Ytmnnaofonefobaa.Fns

/- Layer 13: the law DiamondColumns, as a function. -/
import Derived.Test.YtokmmjhnhmealaaLaws
set_option linter.unusedVariables false
set_option linter.unusedSimpArgs false
set_option maxRecDepth 10000
namespace Go.Proofs.Ytokmmjhnhmealaa.Fns
open Go.Sx Go.Proofs.Ytokmmjhnhmealaa.Trees Go.Proofs.Ytokmmjhnhmealaa.Plain

theorem not_in {u v : Int} (h : u < -128 ∨ 128 < u) : ¬ InD u v := by unfold InD; omega
theorem not_in' {u v : Int} (h : v < -128 ∨ 128 < v) : ¬ InD u v := by unfold InD; omega
/-- where it crosses, it is between its ends -/
theorem between {ay w h t n e : Int} (hw : 0 < w) (ht1 : 0 ≤ t) (ht2 : t ≤ w) (he : e = 0 ∨ e = 1) (hn : n = ay * w + h * t - e) : min ay (ay + h) / 256 - 1 ≤ n / (256 * w) ∧ n / (256 * w) ≤ max ay (ay + h) / 256 := by
  have a1 : 0 ≤ h → 0 ≤ h * t := fun hh => Int.mul_nonneg hh ht1
  have a2 : 0 ≤ h → 0 ≤ h * (w - t) := fun hh => Int.mul_nonneg hh (by omega)
  have a3 : h ≤ 0 → 0 ≤ (-h) * t := fun hh => Int.mul_nonneg (by omega) ht1
  have a4 : h ≤ 0 → 0 ≤ (-h) * (w - t) := fun hh => Int.mul_nonneg (by omega) (by omega)
  have low : min ay (ay + h) * w ≤ ay * w + h * t := by
    rcases Int.le_total 0 h with hh | hh
    · rw [show min ay (ay + h) = ay by omega]; have := a1 hh; omega
    · rw [show min ay (ay + h) = ay + h by omega]; have := a4 hh; grind
  have high : ay * w + h * t ≤ max ay (ay + h) * w := by
    rcases Int.le_total 0 h with hh | hh
    · rw [show max ay (ay + h) = ay + h by omega]; have := a2 hh; grind
    · rw [show max ay (ay + h) = ay by omega]; have := a3 hh; grind
  obtain ⟨l, hl⟩ : ∃ l, min ay (ay + h) = l := ⟨_, rfl⟩
  obtain ⟨g, hg⟩ : ∃ g, max ay (ay + h) = g := ⟨_, rfl⟩
  rw [hl] at low ⊢
  rw [hg] at high ⊢
  constructor
  · apply Int.le_ediv_of_mul_le (by omega)
    have : 0 ≤ w * (l - 256 - 256 * (l / 256 - 1)) := Int.mul_nonneg (by omega) (by omega)
    grind
  · apply Int.le_of_lt_add_one
    apply Int.ediv_lt_of_lt_mul (by omega)
    have : 0 < w * (256 * (g / 256 + 1) - g) := Int.mul_pos (by omega) (by omega)
    grind
/-- a column that a wide line crosses -/
theorem column {ax ay w h : Int} (hw : 513 ≤ w) (h1 : -w ≤ h) (h2 : h ≤ w) : ∃ C, min ay (ay + h) / 256 - 1 ≤ C ∧ C ≤ max ay (ay + h) / 256 + 1 ∧ ∀ y, meetsP ax ay (ax + w) (ay + h) ((ax + 256) / 256) y ↔ C = y := by
  obtain ⟨x, hx⟩ : ∃ x, (ax + 256) / 256 = x := ⟨_, rfl⟩
  have t1 : 128 < 256 * x + 128 - ax := by omega
  have t2 : 256 * x + 128 - ax ≤ 384 := by omega
  rw [hx]
  refine ⟨crossI ax ay (ax + w) (ay + h) x, ?_, ?_, fun y => ?_⟩
  · unfold crossI
    rw [if_neg (by omega), show ax + w - ax = w by omega, show ay + h - ay = h by omega]
    split
    · exact (between (t := 256 * x + 128 - ax) (e := 1) (by omega) (by omega) (by omega) (by omega) rfl).1
    · exact (between (t := 256 * x + 128 - ax) (e := 0) (by omega) (by omega) (by omega) (by omega) (by omega)).1
  · unfold crossI
    rw [if_neg (by omega), show ax + w - ax = w by omega, show ay + h - ay = h by omega]
    split
    · have := (between (ay := ay) (w := w) (h := h) (t := 256 * x + 128 - ax) (e := 1) (by omega) (by omega) (by omega) (by omega) rfl).2; omega
    · have := (between (ay := ay) (w := w) (h := h) (n := ay * w + h * (256 * x + 128 - ax)) (t := 256 * x + 128 - ax) (e := 0) (by omega) (by omega) (by omega) (by omega) (by omega)).2; omega
  · rw [meets_iff, if_pos (by omega)]
    constructor
    · rintro (i | i | ⟨_, i⟩)
      · exact absurd i (not_in (by omega))
      · exact absurd i (not_in (by omega))
      · exact i
    · intro i
      exact .inr (.inr ⟨by omega, i⟩)
/-- and turned -/
theorem column' {ax ay w h : Int} (hw : 513 ≤ w) (h1 : -w ≤ h) (h2 : h ≤ w) : ∃ C, min ay (ay + h) / 256 - 1 ≤ C ∧ C ≤ max ay (ay + h) / 256 + 1 ∧ ∀ y, meetsP ay ax (ay + h) (ax + w) y ((ax + 256) / 256) ↔ C = y := by
  obtain ⟨x, hx⟩ : ∃ x, (ax + 256) / 256 = x := ⟨_, rfl⟩
  have t1 : 128 < 256 * x + 128 - ax := by omega
  have t2 : 256 * x + 128 - ax ≤ 384 := by omega
  rw [hx]
  have hb := between (ay := ay) (w := w) (h := h) (n := ay * w + h * (256 * x + 128 - ax) - 1) (t := 256 * x + 128 - ax) (e := 1) (by omega) (by omega) (by omega) (by omega) rfl
  refine ⟨(ay * w + h * (256 * x + 128 - ax) - 1) / (256 * w), hb.1, by omega, fun y => ?_⟩
  unfold meetsP
  rw [ref_tall (by omega) (by omega) (by omega), cross2 (by omega)]
  rw [show ay + h - 256 * y - 128 - (ay - 256 * y - 128) = h by omega, show ax + w - 256 * x - 128 - (ax - 256 * x - 128) = w by omega]
  constructor
  · rintro (i | i | ⟨_, _, i⟩)
    · exact absurd i (not_in' (by omega))
    · exact absurd i (not_in' (by omega))
    · exact i
  · intro i
    exact .inr (.inr ⟨by omega, by omega, i⟩)

def c4 : Contract := CFn sg4 (fun | [.i ax, .i ay, .i w, .i h, .b t] => 0 ≤ w ∧ w ≤ 65535 ∧ sh h | _ => False) (fun _ => [.b true])
theorem ok4 : ContractOk Try.prog 4 c4 := by
  refine contract_of (Γ := knownOf [(9, c9), (12, cMeets sg12)]) (known_cons ok9 rfl (known_cons ok12 rfl known_nil)) Try.func4 rfl rfl is4 fun ds hk hp => ?_
  split at hp
  · skip
    rename_i ax ay w0 h0 t
    obtain ⟨b1, b2, b3⟩ := hp
    unfold sh at b3
    have tm1 := Int.tmod_lt_of_pos w0 (show (0:Int) < 2048 by omega)
    have tm2 := Int.tmod_nonneg 2048 (show 0 ≤ w0 by omega)
    have th1 := Int.tmod_lt_of_pos h0 (show (0:Int) < 514 + (w0.tmod 2048) by omega)
    have th2 := Int.lt_tmod_of_pos h0 (show (0:Int) < 514 + (w0.tmod 2048) by omega)
    refine h_ite (fun g0 => ?_) (fun g0 => ?_)
    · refine h_call (c := c9) rfl trivial fun rs hk hr => ?_
      have hr : rs = [.b true] := hr
      subst hr
      rfl
    · simp only [Env.sets, Env.set, BE.den, IE.den, DE.den, DV.int, DV.bool, DV.list, LOp.den, List.map_cons, List.map_nil, Nat.reduceEqDiff, ↓reduceIte, reduceCtorEq, Bool.and_eq_true, Bool.or_eq_true, Bool.not_eq_true', Bool.not_eq_false', Bool.and_eq_false_iff, Bool.or_eq_false_iff, decide_eq_true_eq, decide_eq_false_iff_not] at g0
      iterate 7 refine h_need (by simp only [Env.sets, Env.set, BE.den, IE.den, DE.den, DV.int, DV.bool, DV.list, LOp.den, List.map_cons, List.map_nil, Nat.reduceEqDiff, ↓reduceIte, reduceCtorEq, Bool.and_eq_true, Bool.or_eq_true, Bool.not_eq_true', Bool.not_eq_false', Bool.and_eq_false_iff, Bool.or_eq_false_iff, decide_eq_true_eq, decide_eq_false_iff_not]; omega) ?_
      refine h_ite (fun gt => ?_) (fun gt => ?_)
      · have gt : t = true := gt
        subst gt
        obtain ⟨C, hC1, hC2, hC⟩ := column' (ax := ax) (ay := ay) (w := 513 + (w0.tmod 2048)) (h := (h0.tmod (514 + w0.tmod 2048))) (by omega) (by omega) (by omega)
        rw [← Int.add_assoc] at hC
        iterate 3 refine h_need (by simp only [Env.sets, Env.set, BE.den, IE.den, DE.den, DV.int, DV.bool, DV.list, LOp.den, List.map_cons, List.map_nil, Nat.reduceEqDiff, ↓reduceIte, reduceCtorEq, Bool.and_eq_true, Bool.or_eq_true, Bool.not_eq_true', Bool.not_eq_false', Bool.and_eq_false_iff, Bool.or_eq_false_iff, decide_eq_true_eq, decide_eq_false_iff_not]; omega) ?_
        refine h_loop (fun ds => ∃ y : Int, ds = [.i (if C < y then 1 else 0), .i y] ∧ (min ay (ay + (h0.tmod (514 + w0.tmod 2048)))) / 256 - 1 ≤ y ∧ y ≤ (max ay (ay + (h0.tmod (514 + w0.tmod 2048)))) / 256 + 2) (fun | [_, .i y] => ((max ay (ay + (h0.tmod (514 + w0.tmod 2048)))) / 256 + 2 - y).toNat | _ => 0) ⟨(min ay (ay + (h0.tmod (514 + w0.tmod 2048)))) / 256 - 1, by simp only [Env.sets, Env.set, BE.den, IE.den, DE.den, DV.int, DV.bool, DV.list, LOp.den, List.map_cons, List.map_nil, Nat.reduceEqDiff, ↓reduceIte, reduceCtorEq, Bool.and_eq_true, Bool.or_eq_true, Bool.not_eq_true', Bool.not_eq_false', Bool.and_eq_false_iff, Bool.or_eq_false_iff, decide_eq_true_eq, decide_eq_false_iff_not]; rw [if_neg (by omega)]; rfl, by omega, by omega⟩ ?_
        intro ds _ ⟨y, hds, hy1, hy2⟩
        subst hds
        refine h_need (by simp only [Env.sets, Env.set, BE.den, IE.den, DE.den, DV.int, DV.bool, DV.list, LOp.den, List.map_cons, List.map_nil, Nat.reduceEqDiff, ↓reduceIte, reduceCtorEq, Bool.and_eq_true, Bool.or_eq_true, Bool.not_eq_true', Bool.not_eq_false', Bool.and_eq_false_iff, Bool.or_eq_false_iff, decide_eq_true_eq, decide_eq_false_iff_not]; omega) ?_
        refine h_ite (fun g1 => ?_) (fun g1 => ?_)
        · simp only [Env.sets, Env.set, BE.den, IE.den, DE.den, DV.int, DV.bool, DV.list, LOp.den, List.map_cons, List.map_nil, Nat.reduceEqDiff, ↓reduceIte, reduceCtorEq, Bool.and_eq_true, Bool.or_eq_true, Bool.not_eq_true', Bool.not_eq_false', Bool.and_eq_false_iff, Bool.or_eq_false_iff, decide_eq_true_eq, decide_eq_false_iff_not] at g1
          refine h_callg (c := cMeets sg12) rfl (fun g => by simp [Env.sets, Env.set, BE.den, DV.bool] at g) fun rs hk hr1 => ?_
          obtain ⟨i1, rfl⟩ := kinds1b hk
          refine h_cally (c := cMeets sg12) rfl (by simp [Env.sets, Env.set, BE.den, DV.bool]) (show mayP ay ax ∧ mayP (ay + (h0.tmod (514 + w0.tmod 2048))) (ax + 513 + (w0.tmod 2048)) ∧ nearP y ((ax + 256) / 256) from ⟨by unfold mayP; omega, by unfold mayP; omega, by unfold nearP; omega⟩) fun rs hk hr => ?_
          have hr : rs = [.b (decide (meetsP ay ax (ay + (h0.tmod (514 + w0.tmod 2048))) (ax + 513 + (w0.tmod 2048)) y ((ax + 256) / 256)))] := hr
          rw [eqb (hC y)] at hr
          subst hr
          refine h_ite (fun g2 => ?_) (fun g2 => ?_)
          · have g2 : C = y := by simpa [Env.sets, Env.set, BE.den, DV.bool] using g2
            iterate 2 refine h_need (by simp only [Env.sets, Env.set, BE.den, IE.den, DE.den, DV.int, DV.bool, DV.list, LOp.den, List.map_cons, List.map_nil, Nat.reduceEqDiff, ↓reduceIte, reduceCtorEq, Bool.and_eq_true, Bool.or_eq_true, Bool.not_eq_true', Bool.not_eq_false', Bool.and_eq_false_iff, Bool.or_eq_false_iff, decide_eq_true_eq, decide_eq_false_iff_not]; omega) ?_
            refine h_again ⟨⟨y + 1, ?_, by omega, by omega⟩, ?_⟩
            · simp only [Env.sets, Env.set, BE.den, IE.den, DE.den, DV.int, DV.bool, DV.list, LOp.den, List.map_cons, List.map_nil, Nat.reduceEqDiff, ↓reduceIte, reduceCtorEq, Bool.and_eq_true, Bool.or_eq_true, Bool.not_eq_true', Bool.not_eq_false', Bool.and_eq_false_iff, Bool.or_eq_false_iff, decide_eq_true_eq, decide_eq_false_iff_not]
              rw [if_neg (by omega), if_pos (by omega)]
              rfl
            · simp only [Env.sets, Env.set, BE.den, IE.den, DE.den, DV.int, DV.bool, DV.list, LOp.den, List.map_cons, List.map_nil, Nat.reduceEqDiff, ↓reduceIte, reduceCtorEq, Bool.and_eq_true, Bool.or_eq_true, Bool.not_eq_true', Bool.not_eq_false', Bool.and_eq_false_iff, Bool.or_eq_false_iff, decide_eq_true_eq, decide_eq_false_iff_not]
              omega
          · have g2 : ¬ C = y := by simpa [Env.sets, Env.set, BE.den, DV.bool] using g2
            refine h_need (by simp only [Env.sets, Env.set, BE.den, IE.den, DE.den, DV.int, DV.bool, DV.list, LOp.den, List.map_cons, List.map_nil, Nat.reduceEqDiff, ↓reduceIte, reduceCtorEq, Bool.and_eq_true, Bool.or_eq_true, Bool.not_eq_true', Bool.not_eq_false', Bool.and_eq_false_iff, Bool.or_eq_false_iff, decide_eq_true_eq, decide_eq_false_iff_not]; omega) ?_
            refine h_again ⟨⟨y + 1, ?_, by omega, by omega⟩, ?_⟩
            · simp only [Env.sets, Env.set, BE.den, IE.den, DE.den, DV.int, DV.bool, DV.list, LOp.den, List.map_cons, List.map_nil, Nat.reduceEqDiff, ↓reduceIte, reduceCtorEq, Bool.and_eq_true, Bool.or_eq_true, Bool.not_eq_true', Bool.not_eq_false', Bool.and_eq_false_iff, Bool.or_eq_false_iff, decide_eq_true_eq, decide_eq_false_iff_not]
              have e : (C < y + 1) ↔ (C < y) := by omega
              simp only [e]
            · simp only [Env.sets, Env.set, BE.den, IE.den, DE.den, DV.int, DV.bool, DV.list, LOp.den, List.map_cons, List.map_nil, Nat.reduceEqDiff, ↓reduceIte, reduceCtorEq, Bool.and_eq_true, Bool.or_eq_true, Bool.not_eq_true', Bool.not_eq_false', Bool.and_eq_false_iff, Bool.or_eq_false_iff, decide_eq_true_eq, decide_eq_false_iff_not]
              omega
        · simp only [Env.sets, Env.set, BE.den, IE.den, DE.den, DV.int, DV.bool, DV.list, LOp.den, List.map_cons, List.map_nil, Nat.reduceEqDiff, ↓reduceIte, reduceCtorEq, Bool.and_eq_true, Bool.or_eq_true, Bool.not_eq_true', Bool.not_eq_false', Bool.and_eq_false_iff, Bool.or_eq_false_iff, decide_eq_true_eq, decide_eq_false_iff_not] at g1
          refine h_call (c := c9) rfl trivial fun rs hk hr => ?_
          have hr : rs = [.b true] := hr
          subst hr
          have : C < y := by omega
          simp [Tree.holds, DE.den, BE.den, IE.den, Env.sets, Env.set, DV.bool, DV.int, this]
      · have gt : t = false := gt
        subst gt
        obtain ⟨C, hC1, hC2, hC⟩ := column (ax := ax) (ay := ay) (w := 513 + (w0.tmod 2048)) (h := (h0.tmod (514 + w0.tmod 2048))) (by omega) (by omega) (by omega)
        rw [← Int.add_assoc] at hC
        iterate 3 refine h_need (by simp only [Env.sets, Env.set, BE.den, IE.den, DE.den, DV.int, DV.bool, DV.list, LOp.den, List.map_cons, List.map_nil, Nat.reduceEqDiff, ↓reduceIte, reduceCtorEq, Bool.and_eq_true, Bool.or_eq_true, Bool.not_eq_true', Bool.not_eq_false', Bool.and_eq_false_iff, Bool.or_eq_false_iff, decide_eq_true_eq, decide_eq_false_iff_not]; omega) ?_
        refine h_loop (fun ds => ∃ y : Int, ds = [.i (if C < y then 1 else 0), .i y] ∧ (min ay (ay + (h0.tmod (514 + w0.tmod 2048)))) / 256 - 1 ≤ y ∧ y ≤ (max ay (ay + (h0.tmod (514 + w0.tmod 2048)))) / 256 + 2) (fun | [_, .i y] => ((max ay (ay + (h0.tmod (514 + w0.tmod 2048)))) / 256 + 2 - y).toNat | _ => 0) ⟨(min ay (ay + (h0.tmod (514 + w0.tmod 2048)))) / 256 - 1, by simp only [Env.sets, Env.set, BE.den, IE.den, DE.den, DV.int, DV.bool, DV.list, LOp.den, List.map_cons, List.map_nil, Nat.reduceEqDiff, ↓reduceIte, reduceCtorEq, Bool.and_eq_true, Bool.or_eq_true, Bool.not_eq_true', Bool.not_eq_false', Bool.and_eq_false_iff, Bool.or_eq_false_iff, decide_eq_true_eq, decide_eq_false_iff_not]; rw [if_neg (by omega)]; rfl, by omega, by omega⟩ ?_
        intro ds _ ⟨y, hds, hy1, hy2⟩
        subst hds
        refine h_need (by simp only [Env.sets, Env.set, BE.den, IE.den, DE.den, DV.int, DV.bool, DV.list, LOp.den, List.map_cons, List.map_nil, Nat.reduceEqDiff, ↓reduceIte, reduceCtorEq, Bool.and_eq_true, Bool.or_eq_true, Bool.not_eq_true', Bool.not_eq_false', Bool.and_eq_false_iff, Bool.or_eq_false_iff, decide_eq_true_eq, decide_eq_false_iff_not]; omega) ?_
        refine h_ite (fun g1 => ?_) (fun g1 => ?_)
        · simp only [Env.sets, Env.set, BE.den, IE.den, DE.den, DV.int, DV.bool, DV.list, LOp.den, List.map_cons, List.map_nil, Nat.reduceEqDiff, ↓reduceIte, reduceCtorEq, Bool.and_eq_true, Bool.or_eq_true, Bool.not_eq_true', Bool.not_eq_false', Bool.and_eq_false_iff, Bool.or_eq_false_iff, decide_eq_true_eq, decide_eq_false_iff_not] at g1
          refine h_cally (c := cMeets sg12) rfl (by simp [Env.sets, Env.set, BE.den, DV.bool]) (show mayP ax ay ∧ mayP (ax + 513 + (w0.tmod 2048)) (ay + (h0.tmod (514 + w0.tmod 2048))) ∧ nearP ((ax + 256) / 256) y from ⟨by unfold mayP; omega, by unfold mayP; omega, by unfold nearP; omega⟩) fun rs hk hr => ?_
          have hr : rs = [.b (decide (meetsP ax ay (ax + 513 + (w0.tmod 2048)) (ay + (h0.tmod (514 + w0.tmod 2048))) ((ax + 256) / 256) y))] := hr
          rw [eqb (hC y)] at hr
          subst hr
          refine h_callg (c := cMeets sg12) rfl (fun g => by simp [Env.sets, Env.set, BE.den, DV.bool] at g) fun rs hk hr1 => ?_
          obtain ⟨i1, rfl⟩ := kinds1b hk
          refine h_ite (fun g2 => ?_) (fun g2 => ?_)
          · have g2 : C = y := by simpa [Env.sets, Env.set, BE.den, DV.bool] using g2
            iterate 2 refine h_need (by simp only [Env.sets, Env.set, BE.den, IE.den, DE.den, DV.int, DV.bool, DV.list, LOp.den, List.map_cons, List.map_nil, Nat.reduceEqDiff, ↓reduceIte, reduceCtorEq, Bool.and_eq_true, Bool.or_eq_true, Bool.not_eq_true', Bool.not_eq_false', Bool.and_eq_false_iff, Bool.or_eq_false_iff, decide_eq_true_eq, decide_eq_false_iff_not]; omega) ?_
            refine h_again ⟨⟨y + 1, ?_, by omega, by omega⟩, ?_⟩
            · simp only [Env.sets, Env.set, BE.den, IE.den, DE.den, DV.int, DV.bool, DV.list, LOp.den, List.map_cons, List.map_nil, Nat.reduceEqDiff, ↓reduceIte, reduceCtorEq, Bool.and_eq_true, Bool.or_eq_true, Bool.not_eq_true', Bool.not_eq_false', Bool.and_eq_false_iff, Bool.or_eq_false_iff, decide_eq_true_eq, decide_eq_false_iff_not]
              rw [if_neg (by omega), if_pos (by omega)]
              rfl
            · simp only [Env.sets, Env.set, BE.den, IE.den, DE.den, DV.int, DV.bool, DV.list, LOp.den, List.map_cons, List.map_nil, Nat.reduceEqDiff, ↓reduceIte, reduceCtorEq, Bool.and_eq_true, Bool.or_eq_true, Bool.not_eq_true', Bool.not_eq_false', Bool.and_eq_false_iff, Bool.or_eq_false_iff, decide_eq_true_eq, decide_eq_false_iff_not]
              omega
          · have g2 : ¬ C = y := by simpa [Env.sets, Env.set, BE.den, DV.bool] using g2
            refine h_need (by simp only [Env.sets, Env.set, BE.den, IE.den, DE.den, DV.int, DV.bool, DV.list, LOp.den, List.map_cons, List.map_nil, Nat.reduceEqDiff, ↓reduceIte, reduceCtorEq, Bool.and_eq_true, Bool.or_eq_true, Bool.not_eq_true', Bool.not_eq_false', Bool.and_eq_false_iff, Bool.or_eq_false_iff, decide_eq_true_eq, decide_eq_false_iff_not]; omega) ?_
            refine h_again ⟨⟨y + 1, ?_, by omega, by omega⟩, ?_⟩
            · simp only [Env.sets, Env.set, BE.den, IE.den, DE.den, DV.int, DV.bool, DV.list, LOp.den, List.map_cons, List.map_nil, Nat.reduceEqDiff, ↓reduceIte, reduceCtorEq, Bool.and_eq_true, Bool.or_eq_true, Bool.not_eq_true', Bool.not_eq_false', Bool.and_eq_false_iff, Bool.or_eq_false_iff, decide_eq_true_eq, decide_eq_false_iff_not]
              have e : (C < y + 1) ↔ (C < y) := by omega
              simp only [e]
            · simp only [Env.sets, Env.set, BE.den, IE.den, DE.den, DV.int, DV.bool, DV.list, LOp.den, List.map_cons, List.map_nil, Nat.reduceEqDiff, ↓reduceIte, reduceCtorEq, Bool.and_eq_true, Bool.or_eq_true, Bool.not_eq_true', Bool.not_eq_false', Bool.and_eq_false_iff, Bool.or_eq_false_iff, decide_eq_true_eq, decide_eq_false_iff_not]
              omega
        · simp only [Env.sets, Env.set, BE.den, IE.den, DE.den, DV.int, DV.bool, DV.list, LOp.den, List.map_cons, List.map_nil, Nat.reduceEqDiff, ↓reduceIte, reduceCtorEq, Bool.and_eq_true, Bool.or_eq_true, Bool.not_eq_true', Bool.not_eq_false', Bool.and_eq_false_iff, Bool.or_eq_false_iff, decide_eq_true_eq, decide_eq_false_iff_not] at g1
          refine h_call (c := c9) rfl trivial fun rs hk hr => ?_
          have hr : rs = [.b true] := hr
          subst hr
          have : C < y := by omega
          simp [Tree.holds, DE.den, BE.den, IE.den, Env.sets, Env.set, DV.bool, DV.int, this]
  · cases hp
theorem pre4 (dvs : List DV) (hh : dvsIn (cts sg4.args) dvs) : c4.pre dvs := by
  simp only [sg4, cts, List.flatMap_cons, List.flatMap_nil, VT.cts, List.append_nil, List.cons_append, List.nil_append] at hh
  match dvs, hh with
  | [.i ax, .i ay, .i w, .i h, .b t], hh => 
    obtain ⟨_, _, h1, h2, _⟩ := hh
    exact (show 0 ≤ w ∧ w ≤ 65535 ∧ sh h from ⟨h1.1, h1.2, h2⟩)

end Go.Proofs.Ytokmmjhnhmealaa.Fns

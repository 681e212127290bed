/- Layer 5: products. -/
import Derived.Test.YthdcbfgaohondaaFns
set_option linter.unusedVariables false
set_option linter.unusedSimpArgs false
set_option maxRecDepth 10000
namespace Go.Proofs.Ythdcbfgaohondaa.Fns
open Go.Sx Go.Proofs.Ythdcbfgaohondaa.Trees

theorem rows_ok {l : List Int} (h : rightP l) : ∀ r ∈ l.map (fun x => [x]), inB (r.getD 0 0) := by
  intro r hr
  obtain ⟨x, hx, rfl⟩ := List.mem_map.1 hr
  exact h x hx
theorem mul_bad {A B : List Int} (h : ¬ (rightP A ∧ rightP B)) : (∀ j, mulI A B j = 0) ∧ mulE A B = 1 := by
  constructor
  · intro j; unfold mulI; rw [if_neg (fun g => h ⟨g.1, g.2.1⟩)]
  · unfold mulE; rw [if_neg h]
theorem mul_far {A B : List Int} (hA : rightP A) (hB : rightP B) (h : ¬ rightP (prodL A B)) : (∀ j, mulI A B j = 0) ∧ mulE A B = 4 := by
  constructor
  · intro j; unfold mulI; rw [if_neg (fun g => h g.2.2)]
  · unfold mulE; rw [if_pos ⟨hA, hB⟩, if_neg h]
theorem mul_ok {A B : List Int} (hA : rightP A) (hB : rightP B) (h : rightP (prodL A B)) : (∀ j, mulI A B j = (prodL A B).getD j 0) ∧ mulE A B = 0 := by
  constructor
  · intro j; unfold mulI; rw [if_pos ⟨hA, hB, h⟩]
  · unfold mulE; rw [if_pos ⟨hA, hB⟩, if_pos h]
theorem app_bad {M v : List Int} {n : Int} (h : ¬ appOk M v n) : (∀ j, appI M v n j = 0) ∧ appE M v n = 1 := by
  constructor
  · intro j; unfold appI; rw [if_neg (fun g => h g.1)]
  · unfold appE; rw [if_neg h]
theorem app_far {M v : List Int} {n : Int} (h1 : appOk M v n) (h : ¬ near n (appL M v)) : (∀ j, appI M v n j = 0) ∧ appE M v n = 4 := by
  constructor
  · intro j; unfold appI; rw [if_neg (fun g => h g.2)]
  · unfold appE; rw [if_pos h1, if_neg h]
theorem app_ok {M v : List Int} {n : Int} (h1 : appOk M v n) (h : near n (appL M v)) : (∀ j, appI M v n j = (appL M v).getD j 0) ∧ appE M v n = 0 := by
  constructor
  · intro j; unfold appI; rw [if_pos ⟨h1, h⟩]
  · unfold appE; rw [if_pos h1, if_pos h]
theorem ok12 : ContractOk Try.prog 12 (cMul sg12) := by
  refine contract_of (Γ := knownOf [(14, cRight sg14), (25, c25)]) (known_cons ok14 rfl (known_cons ok25 rfl known_nil)) Try.func12 rfl rfl is12 fun ds hk hp => ?_
  split at hp
  · skip
    rename_i a0 a1 a2 a3 a4 a5 a6 a7 a8 a9 a10 a11 a12 a13 a14 a15 b0 b1 b2 b3 b4 b5 b6 b7 b8 b9 b10 b11 b12 b13 b14 b15
    refine h_call (c := cRight sg14) rfl trivial fun rs hk hr => ?_
    have hr : rs = [.b (decide (rightP [a0, a1, a2, a3, a4, a5, a6, a7, a8, a9, a10, a11, a12, a13, a14, a15]))] := hr
    subst hr
    refine h_callg (c := cRight sg14) rfl (fun _ => trivial) fun rs hk hr2 => ?_
    obtain ⟨i2, rfl⟩ := kinds1b hk
    have hr2 : decide (rightP [a0, a1, a2, a3, a4, a5, a6, a7, a8, a9, a10, a11, a12, a13, a14, a15]) = true → [DV.b i2] = [DV.b (decide (rightP [b0, b1, b2, b3, b4, b5, b6, b7, b8, b9, b10, b11, b12, b13, b14, b15]))] := hr2
    refine h_ite (fun g => ?_) (fun g => ?_)
    · have g : (!decide (rightP [a0, a1, a2, a3, a4, a5, a6, a7, a8, a9, a10, a11, a12, a13, a14, a15]) || !i2) = true := g
      have hbad : ¬ (rightP [a0, a1, a2, a3, a4, a5, a6, a7, a8, a9, a10, a11, a12, a13, a14, a15] ∧ rightP [b0, b1, b2, b3, b4, b5, b6, b7, b8, b9, b10, b11, b12, b13, b14, b15]) := fun ⟨h1, h2⟩ => by
        rw [b_of (hr2 (by simpa using h1))] at g
        simp [h1, h2] at g
      show ([.i 0, .i 0, .i 0, .i 0, .i 0, .i 0, .i 0, .i 0, .i 0, .i 0, .i 0, .i 0, .i 0, .i 0, .i 0, .i 0, .i 1] : List DV) = [.i (mulI [a0, a1, a2, a3, a4, a5, a6, a7, a8, a9, a10, a11, a12, a13, a14, a15] [b0, b1, b2, b3, b4, b5, b6, b7, b8, b9, b10, b11, b12, b13, b14, b15] 0), .i (mulI [a0, a1, a2, a3, a4, a5, a6, a7, a8, a9, a10, a11, a12, a13, a14, a15] [b0, b1, b2, b3, b4, b5, b6, b7, b8, b9, b10, b11, b12, b13, b14, b15] 1), .i (mulI [a0, a1, a2, a3, a4, a5, a6, a7, a8, a9, a10, a11, a12, a13, a14, a15] [b0, b1, b2, b3, b4, b5, b6, b7, b8, b9, b10, b11, b12, b13, b14, b15] 2), .i (mulI [a0, a1, a2, a3, a4, a5, a6, a7, a8, a9, a10, a11, a12, a13, a14, a15] [b0, b1, b2, b3, b4, b5, b6, b7, b8, b9, b10, b11, b12, b13, b14, b15] 3), .i (mulI [a0, a1, a2, a3, a4, a5, a6, a7, a8, a9, a10, a11, a12, a13, a14, a15] [b0, b1, b2, b3, b4, b5, b6, b7, b8, b9, b10, b11, b12, b13, b14, b15] 4), .i (mulI [a0, a1, a2, a3, a4, a5, a6, a7, a8, a9, a10, a11, a12, a13, a14, a15] [b0, b1, b2, b3, b4, b5, b6, b7, b8, b9, b10, b11, b12, b13, b14, b15] 5), .i (mulI [a0, a1, a2, a3, a4, a5, a6, a7, a8, a9, a10, a11, a12, a13, a14, a15] [b0, b1, b2, b3, b4, b5, b6, b7, b8, b9, b10, b11, b12, b13, b14, b15] 6), .i (mulI [a0, a1, a2, a3, a4, a5, a6, a7, a8, a9, a10, a11, a12, a13, a14, a15] [b0, b1, b2, b3, b4, b5, b6, b7, b8, b9, b10, b11, b12, b13, b14, b15] 7), .i (mulI [a0, a1, a2, a3, a4, a5, a6, a7, a8, a9, a10, a11, a12, a13, a14, a15] [b0, b1, b2, b3, b4, b5, b6, b7, b8, b9, b10, b11, b12, b13, b14, b15] 8), .i (mulI [a0, a1, a2, a3, a4, a5, a6, a7, a8, a9, a10, a11, a12, a13, a14, a15] [b0, b1, b2, b3, b4, b5, b6, b7, b8, b9, b10, b11, b12, b13, b14, b15] 9), .i (mulI [a0, a1, a2, a3, a4, a5, a6, a7, a8, a9, a10, a11, a12, a13, a14, a15] [b0, b1, b2, b3, b4, b5, b6, b7, b8, b9, b10, b11, b12, b13, b14, b15] 10), .i (mulI [a0, a1, a2, a3, a4, a5, a6, a7, a8, a9, a10, a11, a12, a13, a14, a15] [b0, b1, b2, b3, b4, b5, b6, b7, b8, b9, b10, b11, b12, b13, b14, b15] 11), .i (mulI [a0, a1, a2, a3, a4, a5, a6, a7, a8, a9, a10, a11, a12, a13, a14, a15] [b0, b1, b2, b3, b4, b5, b6, b7, b8, b9, b10, b11, b12, b13, b14, b15] 12), .i (mulI [a0, a1, a2, a3, a4, a5, a6, a7, a8, a9, a10, a11, a12, a13, a14, a15] [b0, b1, b2, b3, b4, b5, b6, b7, b8, b9, b10, b11, b12, b13, b14, b15] 13), .i (mulI [a0, a1, a2, a3, a4, a5, a6, a7, a8, a9, a10, a11, a12, a13, a14, a15] [b0, b1, b2, b3, b4, b5, b6, b7, b8, b9, b10, b11, b12, b13, b14, b15] 14), .i (mulI [a0, a1, a2, a3, a4, a5, a6, a7, a8, a9, a10, a11, a12, a13, a14, a15] [b0, b1, b2, b3, b4, b5, b6, b7, b8, b9, b10, b11, b12, b13, b14, b15] 15), .i (mulE [a0, a1, a2, a3, a4, a5, a6, a7, a8, a9, a10, a11, a12, a13, a14, a15] [b0, b1, b2, b3, b4, b5, b6, b7, b8, b9, b10, b11, b12, b13, b14, b15])]
      rw [(mul_bad hbad).2]
      simp only [(mul_bad hbad).1]
    · have g : (!decide (rightP [a0, a1, a2, a3, a4, a5, a6, a7, a8, a9, a10, a11, a12, a13, a14, a15]) || !i2) = false := g
      simp only [Bool.or_eq_false_iff, Bool.not_eq_false', decide_eq_true_eq] at g
      obtain ⟨hA, rfl⟩ := g
      have hB : rightP [b0, b1, b2, b3, b4, b5, b6, b7, b8, b9, b10, b11, b12, b13, b14, b15] := by have := b_of (hr2 (by simpa using hA)); simpa using this.symm
      clear hr2
      have hC0 : rightP [b0, b4, b8, b12] := fun x hx => hB x (by simp only [List.mem_cons, List.not_mem_nil, or_false] at hx ⊢; rcases hx with rfl | rfl | rfl | rfl <;> simp)
      have hC1 : rightP [b1, b5, b9, b13] := fun x hx => hB x (by simp only [List.mem_cons, List.not_mem_nil, or_false] at hx ⊢; rcases hx with rfl | rfl | rfl | rfl <;> simp)
      have hC2 : rightP [b2, b6, b10, b14] := fun x hx => hB x (by simp only [List.mem_cons, List.not_mem_nil, or_false] at hx ⊢; rcases hx with rfl | rfl | rfl | rfl <;> simp)
      have hC3 : rightP [b3, b7, b11, b15] := fun x hx => hB x (by simp only [List.mem_cons, List.not_mem_nil, or_false] at hx ⊢; rcases hx with rfl | rfl | rfl | rfl <;> simp)
      refine h_call (c := c25) rfl (show ([[a0], [a1], [a2], [a3], [a4], [a5], [a6], [a7], [a8], [a9], [a10], [a11], [a12], [a13], [a14], [a15]] : List (List Int)).length = 16 ∧ ([[b0], [b4], [b8], [b12]] : List (List Int)).length = 4 ∧ (0 ≤ (0 : Int) ∧ (0 : Int) ≤ 3) ∧ _ ∧ _ from ⟨rfl, rfl, by omega, rows_ok hA, rows_ok hC0⟩) fun rs hk hr => ?_
      have hr : rs = [.i (ent [a0, a1, a2, a3, a4, a5, a6, a7, a8, a9, a10, a11, a12, a13, a14, a15] [b0, b1, b2, b3, b4, b5, b6, b7, b8, b9, b10, b11, b12, b13, b14, b15] 0 0)] := hr
      subst hr
      refine h_call (c := c25) rfl (show ([[a0], [a1], [a2], [a3], [a4], [a5], [a6], [a7], [a8], [a9], [a10], [a11], [a12], [a13], [a14], [a15]] : List (List Int)).length = 16 ∧ ([[b0], [b4], [b8], [b12]] : List (List Int)).length = 4 ∧ (0 ≤ (1 : Int) ∧ (1 : Int) ≤ 3) ∧ _ ∧ _ from ⟨rfl, rfl, by omega, rows_ok hA, rows_ok hC0⟩) fun rs hk hr => ?_
      have hr : rs = [.i (ent [a0, a1, a2, a3, a4, a5, a6, a7, a8, a9, a10, a11, a12, a13, a14, a15] [b0, b1, b2, b3, b4, b5, b6, b7, b8, b9, b10, b11, b12, b13, b14, b15] 1 0)] := hr
      subst hr
      refine h_call (c := c25) rfl (show ([[a0], [a1], [a2], [a3], [a4], [a5], [a6], [a7], [a8], [a9], [a10], [a11], [a12], [a13], [a14], [a15]] : List (List Int)).length = 16 ∧ ([[b0], [b4], [b8], [b12]] : List (List Int)).length = 4 ∧ (0 ≤ (2 : Int) ∧ (2 : Int) ≤ 3) ∧ _ ∧ _ from ⟨rfl, rfl, by omega, rows_ok hA, rows_ok hC0⟩) fun rs hk hr => ?_
      have hr : rs = [.i (ent [a0, a1, a2, a3, a4, a5, a6, a7, a8, a9, a10, a11, a12, a13, a14, a15] [b0, b1, b2, b3, b4, b5, b6, b7, b8, b9, b10, b11, b12, b13, b14, b15] 2 0)] := hr
      subst hr
      refine h_call (c := c25) rfl (show ([[a0], [a1], [a2], [a3], [a4], [a5], [a6], [a7], [a8], [a9], [a10], [a11], [a12], [a13], [a14], [a15]] : List (List Int)).length = 16 ∧ ([[b0], [b4], [b8], [b12]] : List (List Int)).length = 4 ∧ (0 ≤ (3 : Int) ∧ (3 : Int) ≤ 3) ∧ _ ∧ _ from ⟨rfl, rfl, by omega, rows_ok hA, rows_ok hC0⟩) fun rs hk hr => ?_
      have hr : rs = [.i (ent [a0, a1, a2, a3, a4, a5, a6, a7, a8, a9, a10, a11, a12, a13, a14, a15] [b0, b1, b2, b3, b4, b5, b6, b7, b8, b9, b10, b11, b12, b13, b14, b15] 3 0)] := hr
      subst hr
      refine h_call (c := c25) rfl (show ([[a0], [a1], [a2], [a3], [a4], [a5], [a6], [a7], [a8], [a9], [a10], [a11], [a12], [a13], [a14], [a15]] : List (List Int)).length = 16 ∧ ([[b1], [b5], [b9], [b13]] : List (List Int)).length = 4 ∧ (0 ≤ (0 : Int) ∧ (0 : Int) ≤ 3) ∧ _ ∧ _ from ⟨rfl, rfl, by omega, rows_ok hA, rows_ok hC1⟩) fun rs hk hr => ?_
      have hr : rs = [.i (ent [a0, a1, a2, a3, a4, a5, a6, a7, a8, a9, a10, a11, a12, a13, a14, a15] [b0, b1, b2, b3, b4, b5, b6, b7, b8, b9, b10, b11, b12, b13, b14, b15] 0 1)] := hr
      subst hr
      refine h_call (c := c25) rfl (show ([[a0], [a1], [a2], [a3], [a4], [a5], [a6], [a7], [a8], [a9], [a10], [a11], [a12], [a13], [a14], [a15]] : List (List Int)).length = 16 ∧ ([[b1], [b5], [b9], [b13]] : List (List Int)).length = 4 ∧ (0 ≤ (1 : Int) ∧ (1 : Int) ≤ 3) ∧ _ ∧ _ from ⟨rfl, rfl, by omega, rows_ok hA, rows_ok hC1⟩) fun rs hk hr => ?_
      have hr : rs = [.i (ent [a0, a1, a2, a3, a4, a5, a6, a7, a8, a9, a10, a11, a12, a13, a14, a15] [b0, b1, b2, b3, b4, b5, b6, b7, b8, b9, b10, b11, b12, b13, b14, b15] 1 1)] := hr
      subst hr
      refine h_call (c := c25) rfl (show ([[a0], [a1], [a2], [a3], [a4], [a5], [a6], [a7], [a8], [a9], [a10], [a11], [a12], [a13], [a14], [a15]] : List (List Int)).length = 16 ∧ ([[b1], [b5], [b9], [b13]] : List (List Int)).length = 4 ∧ (0 ≤ (2 : Int) ∧ (2 : Int) ≤ 3) ∧ _ ∧ _ from ⟨rfl, rfl, by omega, rows_ok hA, rows_ok hC1⟩) fun rs hk hr => ?_
      have hr : rs = [.i (ent [a0, a1, a2, a3, a4, a5, a6, a7, a8, a9, a10, a11, a12, a13, a14, a15] [b0, b1, b2, b3, b4, b5, b6, b7, b8, b9, b10, b11, b12, b13, b14, b15] 2 1)] := hr
      subst hr
      refine h_call (c := c25) rfl (show ([[a0], [a1], [a2], [a3], [a4], [a5], [a6], [a7], [a8], [a9], [a10], [a11], [a12], [a13], [a14], [a15]] : List (List Int)).length = 16 ∧ ([[b1], [b5], [b9], [b13]] : List (List Int)).length = 4 ∧ (0 ≤ (3 : Int) ∧ (3 : Int) ≤ 3) ∧ _ ∧ _ from ⟨rfl, rfl, by omega, rows_ok hA, rows_ok hC1⟩) fun rs hk hr => ?_
      have hr : rs = [.i (ent [a0, a1, a2, a3, a4, a5, a6, a7, a8, a9, a10, a11, a12, a13, a14, a15] [b0, b1, b2, b3, b4, b5, b6, b7, b8, b9, b10, b11, b12, b13, b14, b15] 3 1)] := hr
      subst hr
      refine h_call (c := c25) rfl (show ([[a0], [a1], [a2], [a3], [a4], [a5], [a6], [a7], [a8], [a9], [a10], [a11], [a12], [a13], [a14], [a15]] : List (List Int)).length = 16 ∧ ([[b2], [b6], [b10], [b14]] : List (List Int)).length = 4 ∧ (0 ≤ (0 : Int) ∧ (0 : Int) ≤ 3) ∧ _ ∧ _ from ⟨rfl, rfl, by omega, rows_ok hA, rows_ok hC2⟩) fun rs hk hr => ?_
      have hr : rs = [.i (ent [a0, a1, a2, a3, a4, a5, a6, a7, a8, a9, a10, a11, a12, a13, a14, a15] [b0, b1, b2, b3, b4, b5, b6, b7, b8, b9, b10, b11, b12, b13, b14, b15] 0 2)] := hr
      subst hr
      refine h_call (c := c25) rfl (show ([[a0], [a1], [a2], [a3], [a4], [a5], [a6], [a7], [a8], [a9], [a10], [a11], [a12], [a13], [a14], [a15]] : List (List Int)).length = 16 ∧ ([[b2], [b6], [b10], [b14]] : List (List Int)).length = 4 ∧ (0 ≤ (1 : Int) ∧ (1 : Int) ≤ 3) ∧ _ ∧ _ from ⟨rfl, rfl, by omega, rows_ok hA, rows_ok hC2⟩) fun rs hk hr => ?_
      have hr : rs = [.i (ent [a0, a1, a2, a3, a4, a5, a6, a7, a8, a9, a10, a11, a12, a13, a14, a15] [b0, b1, b2, b3, b4, b5, b6, b7, b8, b9, b10, b11, b12, b13, b14, b15] 1 2)] := hr
      subst hr
      refine h_call (c := c25) rfl (show ([[a0], [a1], [a2], [a3], [a4], [a5], [a6], [a7], [a8], [a9], [a10], [a11], [a12], [a13], [a14], [a15]] : List (List Int)).length = 16 ∧ ([[b2], [b6], [b10], [b14]] : List (List Int)).length = 4 ∧ (0 ≤ (2 : Int) ∧ (2 : Int) ≤ 3) ∧ _ ∧ _ from ⟨rfl, rfl, by omega, rows_ok hA, rows_ok hC2⟩) fun rs hk hr => ?_
      have hr : rs = [.i (ent [a0, a1, a2, a3, a4, a5, a6, a7, a8, a9, a10, a11, a12, a13, a14, a15] [b0, b1, b2, b3, b4, b5, b6, b7, b8, b9, b10, b11, b12, b13, b14, b15] 2 2)] := hr
      subst hr
      refine h_call (c := c25) rfl (show ([[a0], [a1], [a2], [a3], [a4], [a5], [a6], [a7], [a8], [a9], [a10], [a11], [a12], [a13], [a14], [a15]] : List (List Int)).length = 16 ∧ ([[b2], [b6], [b10], [b14]] : List (List Int)).length = 4 ∧ (0 ≤ (3 : Int) ∧ (3 : Int) ≤ 3) ∧ _ ∧ _ from ⟨rfl, rfl, by omega, rows_ok hA, rows_ok hC2⟩) fun rs hk hr => ?_
      have hr : rs = [.i (ent [a0, a1, a2, a3, a4, a5, a6, a7, a8, a9, a10, a11, a12, a13, a14, a15] [b0, b1, b2, b3, b4, b5, b6, b7, b8, b9, b10, b11, b12, b13, b14, b15] 3 2)] := hr
      subst hr
      refine h_call (c := c25) rfl (show ([[a0], [a1], [a2], [a3], [a4], [a5], [a6], [a7], [a8], [a9], [a10], [a11], [a12], [a13], [a14], [a15]] : List (List Int)).length = 16 ∧ ([[b3], [b7], [b11], [b15]] : List (List Int)).length = 4 ∧ (0 ≤ (0 : Int) ∧ (0 : Int) ≤ 3) ∧ _ ∧ _ from ⟨rfl, rfl, by omega, rows_ok hA, rows_ok hC3⟩) fun rs hk hr => ?_
      have hr : rs = [.i (ent [a0, a1, a2, a3, a4, a5, a6, a7, a8, a9, a10, a11, a12, a13, a14, a15] [b0, b1, b2, b3, b4, b5, b6, b7, b8, b9, b10, b11, b12, b13, b14, b15] 0 3)] := hr
      subst hr
      refine h_call (c := c25) rfl (show ([[a0], [a1], [a2], [a3], [a4], [a5], [a6], [a7], [a8], [a9], [a10], [a11], [a12], [a13], [a14], [a15]] : List (List Int)).length = 16 ∧ ([[b3], [b7], [b11], [b15]] : List (List Int)).length = 4 ∧ (0 ≤ (1 : Int) ∧ (1 : Int) ≤ 3) ∧ _ ∧ _ from ⟨rfl, rfl, by omega, rows_ok hA, rows_ok hC3⟩) fun rs hk hr => ?_
      have hr : rs = [.i (ent [a0, a1, a2, a3, a4, a5, a6, a7, a8, a9, a10, a11, a12, a13, a14, a15] [b0, b1, b2, b3, b4, b5, b6, b7, b8, b9, b10, b11, b12, b13, b14, b15] 1 3)] := hr
      subst hr
      refine h_call (c := c25) rfl (show ([[a0], [a1], [a2], [a3], [a4], [a5], [a6], [a7], [a8], [a9], [a10], [a11], [a12], [a13], [a14], [a15]] : List (List Int)).length = 16 ∧ ([[b3], [b7], [b11], [b15]] : List (List Int)).length = 4 ∧ (0 ≤ (2 : Int) ∧ (2 : Int) ≤ 3) ∧ _ ∧ _ from ⟨rfl, rfl, by omega, rows_ok hA, rows_ok hC3⟩) fun rs hk hr => ?_
      have hr : rs = [.i (ent [a0, a1, a2, a3, a4, a5, a6, a7, a8, a9, a10, a11, a12, a13, a14, a15] [b0, b1, b2, b3, b4, b5, b6, b7, b8, b9, b10, b11, b12, b13, b14, b15] 2 3)] := hr
      subst hr
      refine h_call (c := c25) rfl (show ([[a0], [a1], [a2], [a3], [a4], [a5], [a6], [a7], [a8], [a9], [a10], [a11], [a12], [a13], [a14], [a15]] : List (List Int)).length = 16 ∧ ([[b3], [b7], [b11], [b15]] : List (List Int)).length = 4 ∧ (0 ≤ (3 : Int) ∧ (3 : Int) ≤ 3) ∧ _ ∧ _ from ⟨rfl, rfl, by omega, rows_ok hA, rows_ok hC3⟩) fun rs hk hr => ?_
      have hr : rs = [.i (ent [a0, a1, a2, a3, a4, a5, a6, a7, a8, a9, a10, a11, a12, a13, a14, a15] [b0, b1, b2, b3, b4, b5, b6, b7, b8, b9, b10, b11, b12, b13, b14, b15] 3 3)] := hr
      subst hr
      refine h_call (c := cRight sg14) rfl trivial fun rs hk hr => ?_
      have hr : rs = [.b (decide (rightP (prodL [a0, a1, a2, a3, a4, a5, a6, a7, a8, a9, a10, a11, a12, a13, a14, a15] [b0, b1, b2, b3, b4, b5, b6, b7, b8, b9, b10, b11, b12, b13, b14, b15])))] := hr
      subst hr
      refine h_ite (fun g => ?_) (fun g => ?_)
      · have g : (!decide (rightP (prodL [a0, a1, a2, a3, a4, a5, a6, a7, a8, a9, a10, a11, a12, a13, a14, a15] [b0, b1, b2, b3, b4, b5, b6, b7, b8, b9, b10, b11, b12, b13, b14, b15]))) = true := g
        rw [Bool.not_eq_true', decide_eq_false_iff_not] at g
        show ([.i 0, .i 0, .i 0, .i 0, .i 0, .i 0, .i 0, .i 0, .i 0, .i 0, .i 0, .i 0, .i 0, .i 0, .i 0, .i 0, .i 4] : List DV) = [.i (mulI [a0, a1, a2, a3, a4, a5, a6, a7, a8, a9, a10, a11, a12, a13, a14, a15] [b0, b1, b2, b3, b4, b5, b6, b7, b8, b9, b10, b11, b12, b13, b14, b15] 0), .i (mulI [a0, a1, a2, a3, a4, a5, a6, a7, a8, a9, a10, a11, a12, a13, a14, a15] [b0, b1, b2, b3, b4, b5, b6, b7, b8, b9, b10, b11, b12, b13, b14, b15] 1), .i (mulI [a0, a1, a2, a3, a4, a5, a6, a7, a8, a9, a10, a11, a12, a13, a14, a15] [b0, b1, b2, b3, b4, b5, b6, b7, b8, b9, b10, b11, b12, b13, b14, b15] 2), .i (mulI [a0, a1, a2, a3, a4, a5, a6, a7, a8, a9, a10, a11, a12, a13, a14, a15] [b0, b1, b2, b3, b4, b5, b6, b7, b8, b9, b10, b11, b12, b13, b14, b15] 3), .i (mulI [a0, a1, a2, a3, a4, a5, a6, a7, a8, a9, a10, a11, a12, a13, a14, a15] [b0, b1, b2, b3, b4, b5, b6, b7, b8, b9, b10, b11, b12, b13, b14, b15] 4), .i (mulI [a0, a1, a2, a3, a4, a5, a6, a7, a8, a9, a10, a11, a12, a13, a14, a15] [b0, b1, b2, b3, b4, b5, b6, b7, b8, b9, b10, b11, b12, b13, b14, b15] 5), .i (mulI [a0, a1, a2, a3, a4, a5, a6, a7, a8, a9, a10, a11, a12, a13, a14, a15] [b0, b1, b2, b3, b4, b5, b6, b7, b8, b9, b10, b11, b12, b13, b14, b15] 6), .i (mulI [a0, a1, a2, a3, a4, a5, a6, a7, a8, a9, a10, a11, a12, a13, a14, a15] [b0, b1, b2, b3, b4, b5, b6, b7, b8, b9, b10, b11, b12, b13, b14, b15] 7), .i (mulI [a0, a1, a2, a3, a4, a5, a6, a7, a8, a9, a10, a11, a12, a13, a14, a15] [b0, b1, b2, b3, b4, b5, b6, b7, b8, b9, b10, b11, b12, b13, b14, b15] 8), .i (mulI [a0, a1, a2, a3, a4, a5, a6, a7, a8, a9, a10, a11, a12, a13, a14, a15] [b0, b1, b2, b3, b4, b5, b6, b7, b8, b9, b10, b11, b12, b13, b14, b15] 9), .i (mulI [a0, a1, a2, a3, a4, a5, a6, a7, a8, a9, a10, a11, a12, a13, a14, a15] [b0, b1, b2, b3, b4, b5, b6, b7, b8, b9, b10, b11, b12, b13, b14, b15] 10), .i (mulI [a0, a1, a2, a3, a4, a5, a6, a7, a8, a9, a10, a11, a12, a13, a14, a15] [b0, b1, b2, b3, b4, b5, b6, b7, b8, b9, b10, b11, b12, b13, b14, b15] 11), .i (mulI [a0, a1, a2, a3, a4, a5, a6, a7, a8, a9, a10, a11, a12, a13, a14, a15] [b0, b1, b2, b3, b4, b5, b6, b7, b8, b9, b10, b11, b12, b13, b14, b15] 12), .i (mulI [a0, a1, a2, a3, a4, a5, a6, a7, a8, a9, a10, a11, a12, a13, a14, a15] [b0, b1, b2, b3, b4, b5, b6, b7, b8, b9, b10, b11, b12, b13, b14, b15] 13), .i (mulI [a0, a1, a2, a3, a4, a5, a6, a7, a8, a9, a10, a11, a12, a13, a14, a15] [b0, b1, b2, b3, b4, b5, b6, b7, b8, b9, b10, b11, b12, b13, b14, b15] 14), .i (mulI [a0, a1, a2, a3, a4, a5, a6, a7, a8, a9, a10, a11, a12, a13, a14, a15] [b0, b1, b2, b3, b4, b5, b6, b7, b8, b9, b10, b11, b12, b13, b14, b15] 15), .i (mulE [a0, a1, a2, a3, a4, a5, a6, a7, a8, a9, a10, a11, a12, a13, a14, a15] [b0, b1, b2, b3, b4, b5, b6, b7, b8, b9, b10, b11, b12, b13, b14, b15])]
        rw [(mul_far hA hB g).2]
        simp only [(mul_far hA hB g).1]
      · have g : (!decide (rightP (prodL [a0, a1, a2, a3, a4, a5, a6, a7, a8, a9, a10, a11, a12, a13, a14, a15] [b0, b1, b2, b3, b4, b5, b6, b7, b8, b9, b10, b11, b12, b13, b14, b15]))) = false := g
        rw [Bool.not_eq_false', decide_eq_true_eq] at g
        show ([.i (ent [a0, a1, a2, a3, a4, a5, a6, a7, a8, a9, a10, a11, a12, a13, a14, a15] [b0, b1, b2, b3, b4, b5, b6, b7, b8, b9, b10, b11, b12, b13, b14, b15] 0 0), .i (ent [a0, a1, a2, a3, a4, a5, a6, a7, a8, a9, a10, a11, a12, a13, a14, a15] [b0, b1, b2, b3, b4, b5, b6, b7, b8, b9, b10, b11, b12, b13, b14, b15] 0 1), .i (ent [a0, a1, a2, a3, a4, a5, a6, a7, a8, a9, a10, a11, a12, a13, a14, a15] [b0, b1, b2, b3, b4, b5, b6, b7, b8, b9, b10, b11, b12, b13, b14, b15] 0 2), .i (ent [a0, a1, a2, a3, a4, a5, a6, a7, a8, a9, a10, a11, a12, a13, a14, a15] [b0, b1, b2, b3, b4, b5, b6, b7, b8, b9, b10, b11, b12, b13, b14, b15] 0 3), .i (ent [a0, a1, a2, a3, a4, a5, a6, a7, a8, a9, a10, a11, a12, a13, a14, a15] [b0, b1, b2, b3, b4, b5, b6, b7, b8, b9, b10, b11, b12, b13, b14, b15] 1 0), .i (ent [a0, a1, a2, a3, a4, a5, a6, a7, a8, a9, a10, a11, a12, a13, a14, a15] [b0, b1, b2, b3, b4, b5, b6, b7, b8, b9, b10, b11, b12, b13, b14, b15] 1 1), .i (ent [a0, a1, a2, a3, a4, a5, a6, a7, a8, a9, a10, a11, a12, a13, a14, a15] [b0, b1, b2, b3, b4, b5, b6, b7, b8, b9, b10, b11, b12, b13, b14, b15] 1 2), .i (ent [a0, a1, a2, a3, a4, a5, a6, a7, a8, a9, a10, a11, a12, a13, a14, a15] [b0, b1, b2, b3, b4, b5, b6, b7, b8, b9, b10, b11, b12, b13, b14, b15] 1 3), .i (ent [a0, a1, a2, a3, a4, a5, a6, a7, a8, a9, a10, a11, a12, a13, a14, a15] [b0, b1, b2, b3, b4, b5, b6, b7, b8, b9, b10, b11, b12, b13, b14, b15] 2 0), .i (ent [a0, a1, a2, a3, a4, a5, a6, a7, a8, a9, a10, a11, a12, a13, a14, a15] [b0, b1, b2, b3, b4, b5, b6, b7, b8, b9, b10, b11, b12, b13, b14, b15] 2 1), .i (ent [a0, a1, a2, a3, a4, a5, a6, a7, a8, a9, a10, a11, a12, a13, a14, a15] [b0, b1, b2, b3, b4, b5, b6, b7, b8, b9, b10, b11, b12, b13, b14, b15] 2 2), .i (ent [a0, a1, a2, a3, a4, a5, a6, a7, a8, a9, a10, a11, a12, a13, a14, a15] [b0, b1, b2, b3, b4, b5, b6, b7, b8, b9, b10, b11, b12, b13, b14, b15] 2 3), .i (ent [a0, a1, a2, a3, a4, a5, a6, a7, a8, a9, a10, a11, a12, a13, a14, a15] [b0, b1, b2, b3, b4, b5, b6, b7, b8, b9, b10, b11, b12, b13, b14, b15] 3 0), .i (ent [a0, a1, a2, a3, a4, a5, a6, a7, a8, a9, a10, a11, a12, a13, a14, a15] [b0, b1, b2, b3, b4, b5, b6, b7, b8, b9, b10, b11, b12, b13, b14, b15] 3 1), .i (ent [a0, a1, a2, a3, a4, a5, a6, a7, a8, a9, a10, a11, a12, a13, a14, a15] [b0, b1, b2, b3, b4, b5, b6, b7, b8, b9, b10, b11, b12, b13, b14, b15] 3 2), .i (ent [a0, a1, a2, a3, a4, a5, a6, a7, a8, a9, a10, a11, a12, a13, a14, a15] [b0, b1, b2, b3, b4, b5, b6, b7, b8, b9, b10, b11, b12, b13, b14, b15] 3 3), .i 0] : List DV) = [.i (mulI [a0, a1, a2, a3, a4, a5, a6, a7, a8, a9, a10, a11, a12, a13, a14, a15] [b0, b1, b2, b3, b4, b5, b6, b7, b8, b9, b10, b11, b12, b13, b14, b15] 0), .i (mulI [a0, a1, a2, a3, a4, a5, a6, a7, a8, a9, a10, a11, a12, a13, a14, a15] [b0, b1, b2, b3, b4, b5, b6, b7, b8, b9, b10, b11, b12, b13, b14, b15] 1), .i (mulI [a0, a1, a2, a3, a4, a5, a6, a7, a8, a9, a10, a11, a12, a13, a14, a15] [b0, b1, b2, b3, b4, b5, b6, b7, b8, b9, b10, b11, b12, b13, b14, b15] 2), .i (mulI [a0, a1, a2, a3, a4, a5, a6, a7, a8, a9, a10, a11, a12, a13, a14, a15] [b0, b1, b2, b3, b4, b5, b6, b7, b8, b9, b10, b11, b12, b13, b14, b15] 3), .i (mulI [a0, a1, a2, a3, a4, a5, a6, a7, a8, a9, a10, a11, a12, a13, a14, a15] [b0, b1, b2, b3, b4, b5, b6, b7, b8, b9, b10, b11, b12, b13, b14, b15] 4), .i (mulI [a0, a1, a2, a3, a4, a5, a6, a7, a8, a9, a10, a11, a12, a13, a14, a15] [b0, b1, b2, b3, b4, b5, b6, b7, b8, b9, b10, b11, b12, b13, b14, b15] 5), .i (mulI [a0, a1, a2, a3, a4, a5, a6, a7, a8, a9, a10, a11, a12, a13, a14, a15] [b0, b1, b2, b3, b4, b5, b6, b7, b8, b9, b10, b11, b12, b13, b14, b15] 6), .i (mulI [a0, a1, a2, a3, a4, a5, a6, a7, a8, a9, a10, a11, a12, a13, a14, a15] [b0, b1, b2, b3, b4, b5, b6, b7, b8, b9, b10, b11, b12, b13, b14, b15] 7), .i (mulI [a0, a1, a2, a3, a4, a5, a6, a7, a8, a9, a10, a11, a12, a13, a14, a15] [b0, b1, b2, b3, b4, b5, b6, b7, b8, b9, b10, b11, b12, b13, b14, b15] 8), .i (mulI [a0, a1, a2, a3, a4, a5, a6, a7, a8, a9, a10, a11, a12, a13, a14, a15] [b0, b1, b2, b3, b4, b5, b6, b7, b8, b9, b10, b11, b12, b13, b14, b15] 9), .i (mulI [a0, a1, a2, a3, a4, a5, a6, a7, a8, a9, a10, a11, a12, a13, a14, a15] [b0, b1, b2, b3, b4, b5, b6, b7, b8, b9, b10, b11, b12, b13, b14, b15] 10), .i (mulI [a0, a1, a2, a3, a4, a5, a6, a7, a8, a9, a10, a11, a12, a13, a14, a15] [b0, b1, b2, b3, b4, b5, b6, b7, b8, b9, b10, b11, b12, b13, b14, b15] 11), .i (mulI [a0, a1, a2, a3, a4, a5, a6, a7, a8, a9, a10, a11, a12, a13, a14, a15] [b0, b1, b2, b3, b4, b5, b6, b7, b8, b9, b10, b11, b12, b13, b14, b15] 12), .i (mulI [a0, a1, a2, a3, a4, a5, a6, a7, a8, a9, a10, a11, a12, a13, a14, a15] [b0, b1, b2, b3, b4, b5, b6, b7, b8, b9, b10, b11, b12, b13, b14, b15] 13), .i (mulI [a0, a1, a2, a3, a4, a5, a6, a7, a8, a9, a10, a11, a12, a13, a14, a15] [b0, b1, b2, b3, b4, b5, b6, b7, b8, b9, b10, b11, b12, b13, b14, b15] 14), .i (mulI [a0, a1, a2, a3, a4, a5, a6, a7, a8, a9, a10, a11, a12, a13, a14, a15] [b0, b1, b2, b3, b4, b5, b6, b7, b8, b9, b10, b11, b12, b13, b14, b15] 15), .i (mulE [a0, a1, a2, a3, a4, a5, a6, a7, a8, a9, a10, a11, a12, a13, a14, a15] [b0, b1, b2, b3, b4, b5, b6, b7, b8, b9, b10, b11, b12, b13, b14, b15])]
        rw [(mul_ok hA hB g).2]
        simp only [(mul_ok hA hB g).1]
        rfl
  · cases hp
theorem ok13 : ContractOk Try.prog 13 (cMul sg13) := by
  refine contract_of (Γ := knownOf [(15, cRight sg15), (27, c27), (28, c28)]) (known_cons ok15 rfl (known_cons ok27 rfl (known_cons ok28 rfl known_nil))) Try.func13 rfl rfl is13 fun ds hk hp => ?_
  split at hp
  · skip
    rename_i a0 a1 a2 a3 a4 a5 a6 a7 a8 a9 a10 a11 a12 a13 a14 a15 b0 b1 b2 b3 b4 b5 b6 b7 b8 b9 b10 b11 b12 b13 b14 b15
    refine h_call (c := cRight sg15) rfl trivial fun rs hk hr => ?_
    have hr : rs = [.b (decide (rightP [a0, a1, a2, a3, a4, a5, a6, a7, a8, a9, a10, a11, a12, a13, a14, a15]))] := hr
    subst hr
    refine h_callg (c := cRight sg15) rfl (fun _ => trivial) fun rs hk hr2 => ?_
    obtain ⟨i2, rfl⟩ := kinds1b hk
    have hr2 : decide (rightP [a0, a1, a2, a3, a4, a5, a6, a7, a8, a9, a10, a11, a12, a13, a14, a15]) = true → [DV.b i2] = [DV.b (decide (rightP [b0, b1, b2, b3, b4, b5, b6, b7, b8, b9, b10, b11, b12, b13, b14, b15]))] := hr2
    refine h_ite (fun g => ?_) (fun g => ?_)
    · have g : (!decide (rightP [a0, a1, a2, a3, a4, a5, a6, a7, a8, a9, a10, a11, a12, a13, a14, a15]) || !i2) = true := g
      have hbad : ¬ (rightP [a0, a1, a2, a3, a4, a5, a6, a7, a8, a9, a10, a11, a12, a13, a14, a15] ∧ rightP [b0, b1, b2, b3, b4, b5, b6, b7, b8, b9, b10, b11, b12, b13, b14, b15]) := fun ⟨h1, h2⟩ => by
        rw [b_of (hr2 (by simpa using h1))] at g
        simp [h1, h2] at g
      show ([.i 0, .i 0, .i 0, .i 0, .i 0, .i 0, .i 0, .i 0, .i 0, .i 0, .i 0, .i 0, .i 0, .i 0, .i 0, .i 0, .i 1] : List DV) = [.i (mulI [a0, a1, a2, a3, a4, a5, a6, a7, a8, a9, a10, a11, a12, a13, a14, a15] [b0, b1, b2, b3, b4, b5, b6, b7, b8, b9, b10, b11, b12, b13, b14, b15] 0), .i (mulI [a0, a1, a2, a3, a4, a5, a6, a7, a8, a9, a10, a11, a12, a13, a14, a15] [b0, b1, b2, b3, b4, b5, b6, b7, b8, b9, b10, b11, b12, b13, b14, b15] 1), .i (mulI [a0, a1, a2, a3, a4, a5, a6, a7, a8, a9, a10, a11, a12, a13, a14, a15] [b0, b1, b2, b3, b4, b5, b6, b7, b8, b9, b10, b11, b12, b13, b14, b15] 2), .i (mulI [a0, a1, a2, a3, a4, a5, a6, a7, a8, a9, a10, a11, a12, a13, a14, a15] [b0, b1, b2, b3, b4, b5, b6, b7, b8, b9, b10, b11, b12, b13, b14, b15] 3), .i (mulI [a0, a1, a2, a3, a4, a5, a6, a7, a8, a9, a10, a11, a12, a13, a14, a15] [b0, b1, b2, b3, b4, b5, b6, b7, b8, b9, b10, b11, b12, b13, b14, b15] 4), .i (mulI [a0, a1, a2, a3, a4, a5, a6, a7, a8, a9, a10, a11, a12, a13, a14, a15] [b0, b1, b2, b3, b4, b5, b6, b7, b8, b9, b10, b11, b12, b13, b14, b15] 5), .i (mulI [a0, a1, a2, a3, a4, a5, a6, a7, a8, a9, a10, a11, a12, a13, a14, a15] [b0, b1, b2, b3, b4, b5, b6, b7, b8, b9, b10, b11, b12, b13, b14, b15] 6), .i (mulI [a0, a1, a2, a3, a4, a5, a6, a7, a8, a9, a10, a11, a12, a13, a14, a15] [b0, b1, b2, b3, b4, b5, b6, b7, b8, b9, b10, b11, b12, b13, b14, b15] 7), .i (mulI [a0, a1, a2, a3, a4, a5, a6, a7, a8, a9, a10, a11, a12, a13, a14, a15] [b0, b1, b2, b3, b4, b5, b6, b7, b8, b9, b10, b11, b12, b13, b14, b15] 8), .i (mulI [a0, a1, a2, a3, a4, a5, a6, a7, a8, a9, a10, a11, a12, a13, a14, a15] [b0, b1, b2, b3, b4, b5, b6, b7, b8, b9, b10, b11, b12, b13, b14, b15] 9), .i (mulI [a0, a1, a2, a3, a4, a5, a6, a7, a8, a9, a10, a11, a12, a13, a14, a15] [b0, b1, b2, b3, b4, b5, b6, b7, b8, b9, b10, b11, b12, b13, b14, b15] 10), .i (mulI [a0, a1, a2, a3, a4, a5, a6, a7, a8, a9, a10, a11, a12, a13, a14, a15] [b0, b1, b2, b3, b4, b5, b6, b7, b8, b9, b10, b11, b12, b13, b14, b15] 11), .i (mulI [a0, a1, a2, a3, a4, a5, a6, a7, a8, a9, a10, a11, a12, a13, a14, a15] [b0, b1, b2, b3, b4, b5, b6, b7, b8, b9, b10, b11, b12, b13, b14, b15] 12), .i (mulI [a0, a1, a2, a3, a4, a5, a6, a7, a8, a9, a10, a11, a12, a13, a14, a15] [b0, b1, b2, b3, b4, b5, b6, b7, b8, b9, b10, b11, b12, b13, b14, b15] 13), .i (mulI [a0, a1, a2, a3, a4, a5, a6, a7, a8, a9, a10, a11, a12, a13, a14, a15] [b0, b1, b2, b3, b4, b5, b6, b7, b8, b9, b10, b11, b12, b13, b14, b15] 14), .i (mulI [a0, a1, a2, a3, a4, a5, a6, a7, a8, a9, a10, a11, a12, a13, a14, a15] [b0, b1, b2, b3, b4, b5, b6, b7, b8, b9, b10, b11, b12, b13, b14, b15] 15), .i (mulE [a0, a1, a2, a3, a4, a5, a6, a7, a8, a9, a10, a11, a12, a13, a14, a15] [b0, b1, b2, b3, b4, b5, b6, b7, b8, b9, b10, b11, b12, b13, b14, b15])]
      rw [(mul_bad hbad).2]
      simp only [(mul_bad hbad).1]
    · have g : (!decide (rightP [a0, a1, a2, a3, a4, a5, a6, a7, a8, a9, a10, a11, a12, a13, a14, a15]) || !i2) = false := g
      simp only [Bool.or_eq_false_iff, Bool.not_eq_false', decide_eq_true_eq] at g
      obtain ⟨hA, rfl⟩ := g
      have hB : rightP [b0, b1, b2, b3, b4, b5, b6, b7, b8, b9, b10, b11, b12, b13, b14, b15] := by have := b_of (hr2 (by simpa using hA)); simpa using this.symm
      clear hr2
      have hA0 : inB a0 := hA a0 (by simp)
      have hA1 : inB a1 := hA a1 (by simp)
      have hA2 : inB a2 := hA a2 (by simp)
      have hA3 : inB a3 := hA a3 (by simp)
      have hA4 : inB a4 := hA a4 (by simp)
      have hA5 : inB a5 := hA a5 (by simp)
      have hA6 : inB a6 := hA a6 (by simp)
      have hA7 : inB a7 := hA a7 (by simp)
      have hA8 : inB a8 := hA a8 (by simp)
      have hA9 : inB a9 := hA a9 (by simp)
      have hA10 : inB a10 := hA a10 (by simp)
      have hA11 : inB a11 := hA a11 (by simp)
      have hA12 : inB a12 := hA a12 (by simp)
      have hA13 : inB a13 := hA a13 (by simp)
      have hA14 : inB a14 := hA a14 (by simp)
      have hA15 : inB a15 := hA a15 (by simp)
      have hB0 : inB b0 := hB b0 (by simp)
      have hB1 : inB b1 := hB b1 (by simp)
      have hB2 : inB b2 := hB b2 (by simp)
      have hB3 : inB b3 := hB b3 (by simp)
      have hB4 : inB b4 := hB b4 (by simp)
      have hB5 : inB b5 := hB b5 (by simp)
      have hB6 : inB b6 := hB b6 (by simp)
      have hB7 : inB b7 := hB b7 (by simp)
      have hB8 : inB b8 := hB b8 (by simp)
      have hB9 : inB b9 := hB b9 (by simp)
      have hB10 : inB b10 := hB b10 (by simp)
      have hB11 : inB b11 := hB b11 (by simp)
      have hB12 : inB b12 := hB b12 (by simp)
      have hB13 : inB b13 := hB b13 (by simp)
      have hB14 : inB b14 := hB b14 (by simp)
      have hB15 : inB b15 := hB b15 (by simp)
      refine h_call (c := c27) rfl (show (0 ≤ (0 : Int) ∧ (0 : Int) ≤ 3) ∧ 0 ≤ (0 : Int) ∧ (0 : Int) ≤ 3 by omega) fun rs hk hr => ?_
      have hr : rs = [.i a0] := hr
      subst hr
      refine h_call (c := c27) rfl (show (0 ≤ (0 : Int) ∧ (0 : Int) ≤ 3) ∧ 0 ≤ (0 : Int) ∧ (0 : Int) ≤ 3 by omega) fun rs hk hr => ?_
      have hr : rs = [.i b0] := hr
      subst hr
      refine h_needR (a0 * b0) rfl (nd1 hA0 hB0) ?_
      refine h_call (c := c27) rfl (show (0 ≤ (0 : Int) ∧ (0 : Int) ≤ 3) ∧ 0 ≤ (1 : Int) ∧ (1 : Int) ≤ 3 by omega) fun rs hk hr => ?_
      have hr : rs = [.i a1] := hr
      subst hr
      refine h_call (c := c27) rfl (show (0 ≤ (1 : Int) ∧ (1 : Int) ≤ 3) ∧ 0 ≤ (0 : Int) ∧ (0 : Int) ≤ 3 by omega) fun rs hk hr => ?_
      have hr : rs = [.i b4] := hr
      subst hr
      refine h_needR (a1 * b4) rfl (nd1 hA1 hB4) ?_
      refine h_needR (a0 * b0 + a1 * b4) rfl (nd2 hA0 hB0 hA1 hB4) ?_
      refine h_call (c := c27) rfl (show (0 ≤ (0 : Int) ∧ (0 : Int) ≤ 3) ∧ 0 ≤ (2 : Int) ∧ (2 : Int) ≤ 3 by omega) fun rs hk hr => ?_
      have hr : rs = [.i a2] := hr
      subst hr
      refine h_call (c := c27) rfl (show (0 ≤ (2 : Int) ∧ (2 : Int) ≤ 3) ∧ 0 ≤ (0 : Int) ∧ (0 : Int) ≤ 3 by omega) fun rs hk hr => ?_
      have hr : rs = [.i b8] := hr
      subst hr
      refine h_needR (a2 * b8) rfl (nd1 hA2 hB8) ?_
      refine h_needR (a0 * b0 + a1 * b4 + a2 * b8) rfl (nd3 hA0 hB0 hA1 hB4 hA2 hB8) ?_
      refine h_call (c := c27) rfl (show (0 ≤ (0 : Int) ∧ (0 : Int) ≤ 3) ∧ 0 ≤ (3 : Int) ∧ (3 : Int) ≤ 3 by omega) fun rs hk hr => ?_
      have hr : rs = [.i a3] := hr
      subst hr
      refine h_call (c := c27) rfl (show (0 ≤ (3 : Int) ∧ (3 : Int) ≤ 3) ∧ 0 ≤ (0 : Int) ∧ (0 : Int) ≤ 3 by omega) fun rs hk hr => ?_
      have hr : rs = [.i b12] := hr
      subst hr
      refine h_needR (a3 * b12) rfl (nd1 hA3 hB12) ?_
      refine h_needR (a0 * b0 + a1 * b4 + a2 * b8 + a3 * b12) rfl (nd4 hA0 hB0 hA1 hB4 hA2 hB8 hA3 hB12) ?_
      refine h_call (c := c28) rfl (show bigP (a0 * b0 + a1 * b4 + a2 * b8 + a3 * b12) from big4 hA0 hB0 hA1 hB4 hA2 hB8 hA3 hB12) fun rs hk hr => ?_
      have hr : rs = [.i (ent [a0, a1, a2, a3, a4, a5, a6, a7, a8, a9, a10, a11, a12, a13, a14, a15] [b0, b1, b2, b3, b4, b5, b6, b7, b8, b9, b10, b11, b12, b13, b14, b15] 0 0)] := hr
      subst hr
      refine h_call (c := c27) rfl (show (0 ≤ (0 : Int) ∧ (0 : Int) ≤ 3) ∧ 0 ≤ (0 : Int) ∧ (0 : Int) ≤ 3 by omega) fun rs hk hr => ?_
      have hr : rs = [.i a0] := hr
      subst hr
      refine h_call (c := c27) rfl (show (0 ≤ (0 : Int) ∧ (0 : Int) ≤ 3) ∧ 0 ≤ (1 : Int) ∧ (1 : Int) ≤ 3 by omega) fun rs hk hr => ?_
      have hr : rs = [.i b1] := hr
      subst hr
      refine h_needR (a0 * b1) rfl (nd1 hA0 hB1) ?_
      refine h_call (c := c27) rfl (show (0 ≤ (0 : Int) ∧ (0 : Int) ≤ 3) ∧ 0 ≤ (1 : Int) ∧ (1 : Int) ≤ 3 by omega) fun rs hk hr => ?_
      have hr : rs = [.i a1] := hr
      subst hr
      refine h_call (c := c27) rfl (show (0 ≤ (1 : Int) ∧ (1 : Int) ≤ 3) ∧ 0 ≤ (1 : Int) ∧ (1 : Int) ≤ 3 by omega) fun rs hk hr => ?_
      have hr : rs = [.i b5] := hr
      subst hr
      refine h_needR (a1 * b5) rfl (nd1 hA1 hB5) ?_
      refine h_needR (a0 * b1 + a1 * b5) rfl (nd2 hA0 hB1 hA1 hB5) ?_
      refine h_call (c := c27) rfl (show (0 ≤ (0 : Int) ∧ (0 : Int) ≤ 3) ∧ 0 ≤ (2 : Int) ∧ (2 : Int) ≤ 3 by omega) fun rs hk hr => ?_
      have hr : rs = [.i a2] := hr
      subst hr
      refine h_call (c := c27) rfl (show (0 ≤ (2 : Int) ∧ (2 : Int) ≤ 3) ∧ 0 ≤ (1 : Int) ∧ (1 : Int) ≤ 3 by omega) fun rs hk hr => ?_
      have hr : rs = [.i b9] := hr
      subst hr
      refine h_needR (a2 * b9) rfl (nd1 hA2 hB9) ?_
      refine h_needR (a0 * b1 + a1 * b5 + a2 * b9) rfl (nd3 hA0 hB1 hA1 hB5 hA2 hB9) ?_
      refine h_call (c := c27) rfl (show (0 ≤ (0 : Int) ∧ (0 : Int) ≤ 3) ∧ 0 ≤ (3 : Int) ∧ (3 : Int) ≤ 3 by omega) fun rs hk hr => ?_
      have hr : rs = [.i a3] := hr
      subst hr
      refine h_call (c := c27) rfl (show (0 ≤ (3 : Int) ∧ (3 : Int) ≤ 3) ∧ 0 ≤ (1 : Int) ∧ (1 : Int) ≤ 3 by omega) fun rs hk hr => ?_
      have hr : rs = [.i b13] := hr
      subst hr
      refine h_needR (a3 * b13) rfl (nd1 hA3 hB13) ?_
      refine h_needR (a0 * b1 + a1 * b5 + a2 * b9 + a3 * b13) rfl (nd4 hA0 hB1 hA1 hB5 hA2 hB9 hA3 hB13) ?_
      refine h_call (c := c28) rfl (show bigP (a0 * b1 + a1 * b5 + a2 * b9 + a3 * b13) from big4 hA0 hB1 hA1 hB5 hA2 hB9 hA3 hB13) fun rs hk hr => ?_
      have hr : rs = [.i (ent [a0, a1, a2, a3, a4, a5, a6, a7, a8, a9, a10, a11, a12, a13, a14, a15] [b0, b1, b2, b3, b4, b5, b6, b7, b8, b9, b10, b11, b12, b13, b14, b15] 0 1)] := hr
      subst hr
      refine h_call (c := c27) rfl (show (0 ≤ (0 : Int) ∧ (0 : Int) ≤ 3) ∧ 0 ≤ (0 : Int) ∧ (0 : Int) ≤ 3 by omega) fun rs hk hr => ?_
      have hr : rs = [.i a0] := hr
      subst hr
      refine h_call (c := c27) rfl (show (0 ≤ (0 : Int) ∧ (0 : Int) ≤ 3) ∧ 0 ≤ (2 : Int) ∧ (2 : Int) ≤ 3 by omega) fun rs hk hr => ?_
      have hr : rs = [.i b2] := hr
      subst hr
      refine h_needR (a0 * b2) rfl (nd1 hA0 hB2) ?_
      refine h_call (c := c27) rfl (show (0 ≤ (0 : Int) ∧ (0 : Int) ≤ 3) ∧ 0 ≤ (1 : Int) ∧ (1 : Int) ≤ 3 by omega) fun rs hk hr => ?_
      have hr : rs = [.i a1] := hr
      subst hr
      refine h_call (c := c27) rfl (show (0 ≤ (1 : Int) ∧ (1 : Int) ≤ 3) ∧ 0 ≤ (2 : Int) ∧ (2 : Int) ≤ 3 by omega) fun rs hk hr => ?_
      have hr : rs = [.i b6] := hr
      subst hr
      refine h_needR (a1 * b6) rfl (nd1 hA1 hB6) ?_
      refine h_needR (a0 * b2 + a1 * b6) rfl (nd2 hA0 hB2 hA1 hB6) ?_
      refine h_call (c := c27) rfl (show (0 ≤ (0 : Int) ∧ (0 : Int) ≤ 3) ∧ 0 ≤ (2 : Int) ∧ (2 : Int) ≤ 3 by omega) fun rs hk hr => ?_
      have hr : rs = [.i a2] := hr
      subst hr
      refine h_call (c := c27) rfl (show (0 ≤ (2 : Int) ∧ (2 : Int) ≤ 3) ∧ 0 ≤ (2 : Int) ∧ (2 : Int) ≤ 3 by omega) fun rs hk hr => ?_
      have hr : rs = [.i b10] := hr
      subst hr
      refine h_needR (a2 * b10) rfl (nd1 hA2 hB10) ?_
      refine h_needR (a0 * b2 + a1 * b6 + a2 * b10) rfl (nd3 hA0 hB2 hA1 hB6 hA2 hB10) ?_
      refine h_call (c := c27) rfl (show (0 ≤ (0 : Int) ∧ (0 : Int) ≤ 3) ∧ 0 ≤ (3 : Int) ∧ (3 : Int) ≤ 3 by omega) fun rs hk hr => ?_
      have hr : rs = [.i a3] := hr
      subst hr
      refine h_call (c := c27) rfl (show (0 ≤ (3 : Int) ∧ (3 : Int) ≤ 3) ∧ 0 ≤ (2 : Int) ∧ (2 : Int) ≤ 3 by omega) fun rs hk hr => ?_
      have hr : rs = [.i b14] := hr
      subst hr
      refine h_needR (a3 * b14) rfl (nd1 hA3 hB14) ?_
      refine h_needR (a0 * b2 + a1 * b6 + a2 * b10 + a3 * b14) rfl (nd4 hA0 hB2 hA1 hB6 hA2 hB10 hA3 hB14) ?_
      refine h_call (c := c28) rfl (show bigP (a0 * b2 + a1 * b6 + a2 * b10 + a3 * b14) from big4 hA0 hB2 hA1 hB6 hA2 hB10 hA3 hB14) fun rs hk hr => ?_
      have hr : rs = [.i (ent [a0, a1, a2, a3, a4, a5, a6, a7, a8, a9, a10, a11, a12, a13, a14, a15] [b0, b1, b2, b3, b4, b5, b6, b7, b8, b9, b10, b11, b12, b13, b14, b15] 0 2)] := hr
      subst hr
      refine h_call (c := c27) rfl (show (0 ≤ (0 : Int) ∧ (0 : Int) ≤ 3) ∧ 0 ≤ (0 : Int) ∧ (0 : Int) ≤ 3 by omega) fun rs hk hr => ?_
      have hr : rs = [.i a0] := hr
      subst hr
      refine h_call (c := c27) rfl (show (0 ≤ (0 : Int) ∧ (0 : Int) ≤ 3) ∧ 0 ≤ (3 : Int) ∧ (3 : Int) ≤ 3 by omega) fun rs hk hr => ?_
      have hr : rs = [.i b3] := hr
      subst hr
      refine h_needR (a0 * b3) rfl (nd1 hA0 hB3) ?_
      refine h_call (c := c27) rfl (show (0 ≤ (0 : Int) ∧ (0 : Int) ≤ 3) ∧ 0 ≤ (1 : Int) ∧ (1 : Int) ≤ 3 by omega) fun rs hk hr => ?_
      have hr : rs = [.i a1] := hr
      subst hr
      refine h_call (c := c27) rfl (show (0 ≤ (1 : Int) ∧ (1 : Int) ≤ 3) ∧ 0 ≤ (3 : Int) ∧ (3 : Int) ≤ 3 by omega) fun rs hk hr => ?_
      have hr : rs = [.i b7] := hr
      subst hr
      refine h_needR (a1 * b7) rfl (nd1 hA1 hB7) ?_
      refine h_needR (a0 * b3 + a1 * b7) rfl (nd2 hA0 hB3 hA1 hB7) ?_
      refine h_call (c := c27) rfl (show (0 ≤ (0 : Int) ∧ (0 : Int) ≤ 3) ∧ 0 ≤ (2 : Int) ∧ (2 : Int) ≤ 3 by omega) fun rs hk hr => ?_
      have hr : rs = [.i a2] := hr
      subst hr
      refine h_call (c := c27) rfl (show (0 ≤ (2 : Int) ∧ (2 : Int) ≤ 3) ∧ 0 ≤ (3 : Int) ∧ (3 : Int) ≤ 3 by omega) fun rs hk hr => ?_
      have hr : rs = [.i b11] := hr
      subst hr
      refine h_needR (a2 * b11) rfl (nd1 hA2 hB11) ?_
      refine h_needR (a0 * b3 + a1 * b7 + a2 * b11) rfl (nd3 hA0 hB3 hA1 hB7 hA2 hB11) ?_
      refine h_call (c := c27) rfl (show (0 ≤ (0 : Int) ∧ (0 : Int) ≤ 3) ∧ 0 ≤ (3 : Int) ∧ (3 : Int) ≤ 3 by omega) fun rs hk hr => ?_
      have hr : rs = [.i a3] := hr
      subst hr
      refine h_call (c := c27) rfl (show (0 ≤ (3 : Int) ∧ (3 : Int) ≤ 3) ∧ 0 ≤ (3 : Int) ∧ (3 : Int) ≤ 3 by omega) fun rs hk hr => ?_
      have hr : rs = [.i b15] := hr
      subst hr
      refine h_needR (a3 * b15) rfl (nd1 hA3 hB15) ?_
      refine h_needR (a0 * b3 + a1 * b7 + a2 * b11 + a3 * b15) rfl (nd4 hA0 hB3 hA1 hB7 hA2 hB11 hA3 hB15) ?_
      refine h_call (c := c28) rfl (show bigP (a0 * b3 + a1 * b7 + a2 * b11 + a3 * b15) from big4 hA0 hB3 hA1 hB7 hA2 hB11 hA3 hB15) fun rs hk hr => ?_
      have hr : rs = [.i (ent [a0, a1, a2, a3, a4, a5, a6, a7, a8, a9, a10, a11, a12, a13, a14, a15] [b0, b1, b2, b3, b4, b5, b6, b7, b8, b9, b10, b11, b12, b13, b14, b15] 0 3)] := hr
      subst hr
      refine h_call (c := c27) rfl (show (0 ≤ (1 : Int) ∧ (1 : Int) ≤ 3) ∧ 0 ≤ (0 : Int) ∧ (0 : Int) ≤ 3 by omega) fun rs hk hr => ?_
      have hr : rs = [.i a4] := hr
      subst hr
      refine h_call (c := c27) rfl (show (0 ≤ (0 : Int) ∧ (0 : Int) ≤ 3) ∧ 0 ≤ (0 : Int) ∧ (0 : Int) ≤ 3 by omega) fun rs hk hr => ?_
      have hr : rs = [.i b0] := hr
      subst hr
      refine h_needR (a4 * b0) rfl (nd1 hA4 hB0) ?_
      refine h_call (c := c27) rfl (show (0 ≤ (1 : Int) ∧ (1 : Int) ≤ 3) ∧ 0 ≤ (1 : Int) ∧ (1 : Int) ≤ 3 by omega) fun rs hk hr => ?_
      have hr : rs = [.i a5] := hr
      subst hr
      refine h_call (c := c27) rfl (show (0 ≤ (1 : Int) ∧ (1 : Int) ≤ 3) ∧ 0 ≤ (0 : Int) ∧ (0 : Int) ≤ 3 by omega) fun rs hk hr => ?_
      have hr : rs = [.i b4] := hr
      subst hr
      refine h_needR (a5 * b4) rfl (nd1 hA5 hB4) ?_
      refine h_needR (a4 * b0 + a5 * b4) rfl (nd2 hA4 hB0 hA5 hB4) ?_
      refine h_call (c := c27) rfl (show (0 ≤ (1 : Int) ∧ (1 : Int) ≤ 3) ∧ 0 ≤ (2 : Int) ∧ (2 : Int) ≤ 3 by omega) fun rs hk hr => ?_
      have hr : rs = [.i a6] := hr
      subst hr
      refine h_call (c := c27) rfl (show (0 ≤ (2 : Int) ∧ (2 : Int) ≤ 3) ∧ 0 ≤ (0 : Int) ∧ (0 : Int) ≤ 3 by omega) fun rs hk hr => ?_
      have hr : rs = [.i b8] := hr
      subst hr
      refine h_needR (a6 * b8) rfl (nd1 hA6 hB8) ?_
      refine h_needR (a4 * b0 + a5 * b4 + a6 * b8) rfl (nd3 hA4 hB0 hA5 hB4 hA6 hB8) ?_
      refine h_call (c := c27) rfl (show (0 ≤ (1 : Int) ∧ (1 : Int) ≤ 3) ∧ 0 ≤ (3 : Int) ∧ (3 : Int) ≤ 3 by omega) fun rs hk hr => ?_
      have hr : rs = [.i a7] := hr
      subst hr
      refine h_call (c := c27) rfl (show (0 ≤ (3 : Int) ∧ (3 : Int) ≤ 3) ∧ 0 ≤ (0 : Int) ∧ (0 : Int) ≤ 3 by omega) fun rs hk hr => ?_
      have hr : rs = [.i b12] := hr
      subst hr
      refine h_needR (a7 * b12) rfl (nd1 hA7 hB12) ?_
      refine h_needR (a4 * b0 + a5 * b4 + a6 * b8 + a7 * b12) rfl (nd4 hA4 hB0 hA5 hB4 hA6 hB8 hA7 hB12) ?_
      refine h_call (c := c28) rfl (show bigP (a4 * b0 + a5 * b4 + a6 * b8 + a7 * b12) from big4 hA4 hB0 hA5 hB4 hA6 hB8 hA7 hB12) fun rs hk hr => ?_
      have hr : rs = [.i (ent [a0, a1, a2, a3, a4, a5, a6, a7, a8, a9, a10, a11, a12, a13, a14, a15] [b0, b1, b2, b3, b4, b5, b6, b7, b8, b9, b10, b11, b12, b13, b14, b15] 1 0)] := hr
      subst hr
      refine h_call (c := c27) rfl (show (0 ≤ (1 : Int) ∧ (1 : Int) ≤ 3) ∧ 0 ≤ (0 : Int) ∧ (0 : Int) ≤ 3 by omega) fun rs hk hr => ?_
      have hr : rs = [.i a4] := hr
      subst hr
      refine h_call (c := c27) rfl (show (0 ≤ (0 : Int) ∧ (0 : Int) ≤ 3) ∧ 0 ≤ (1 : Int) ∧ (1 : Int) ≤ 3 by omega) fun rs hk hr => ?_
      have hr : rs = [.i b1] := hr
      subst hr
      refine h_needR (a4 * b1) rfl (nd1 hA4 hB1) ?_
      refine h_call (c := c27) rfl (show (0 ≤ (1 : Int) ∧ (1 : Int) ≤ 3) ∧ 0 ≤ (1 : Int) ∧ (1 : Int) ≤ 3 by omega) fun rs hk hr => ?_
      have hr : rs = [.i a5] := hr
      subst hr
      refine h_call (c := c27) rfl (show (0 ≤ (1 : Int) ∧ (1 : Int) ≤ 3) ∧ 0 ≤ (1 : Int) ∧ (1 : Int) ≤ 3 by omega) fun rs hk hr => ?_
      have hr : rs = [.i b5] := hr
      subst hr
      refine h_needR (a5 * b5) rfl (nd1 hA5 hB5) ?_
      refine h_needR (a4 * b1 + a5 * b5) rfl (nd2 hA4 hB1 hA5 hB5) ?_
      refine h_call (c := c27) rfl (show (0 ≤ (1 : Int) ∧ (1 : Int) ≤ 3) ∧ 0 ≤ (2 : Int) ∧ (2 : Int) ≤ 3 by omega) fun rs hk hr => ?_
      have hr : rs = [.i a6] := hr
      subst hr
      refine h_call (c := c27) rfl (show (0 ≤ (2 : Int) ∧ (2 : Int) ≤ 3) ∧ 0 ≤ (1 : Int) ∧ (1 : Int) ≤ 3 by omega) fun rs hk hr => ?_
      have hr : rs = [.i b9] := hr
      subst hr
      refine h_needR (a6 * b9) rfl (nd1 hA6 hB9) ?_
      refine h_needR (a4 * b1 + a5 * b5 + a6 * b9) rfl (nd3 hA4 hB1 hA5 hB5 hA6 hB9) ?_
      refine h_call (c := c27) rfl (show (0 ≤ (1 : Int) ∧ (1 : Int) ≤ 3) ∧ 0 ≤ (3 : Int) ∧ (3 : Int) ≤ 3 by omega) fun rs hk hr => ?_
      have hr : rs = [.i a7] := hr
      subst hr
      refine h_call (c := c27) rfl (show (0 ≤ (3 : Int) ∧ (3 : Int) ≤ 3) ∧ 0 ≤ (1 : Int) ∧ (1 : Int) ≤ 3 by omega) fun rs hk hr => ?_
      have hr : rs = [.i b13] := hr
      subst hr
      refine h_needR (a7 * b13) rfl (nd1 hA7 hB13) ?_
      refine h_needR (a4 * b1 + a5 * b5 + a6 * b9 + a7 * b13) rfl (nd4 hA4 hB1 hA5 hB5 hA6 hB9 hA7 hB13) ?_
      refine h_call (c := c28) rfl (show bigP (a4 * b1 + a5 * b5 + a6 * b9 + a7 * b13) from big4 hA4 hB1 hA5 hB5 hA6 hB9 hA7 hB13) fun rs hk hr => ?_
      have hr : rs = [.i (ent [a0, a1, a2, a3, a4, a5, a6, a7, a8, a9, a10, a11, a12, a13, a14, a15] [b0, b1, b2, b3, b4, b5, b6, b7, b8, b9, b10, b11, b12, b13, b14, b15] 1 1)] := hr
      subst hr
      refine h_call (c := c27) rfl (show (0 ≤ (1 : Int) ∧ (1 : Int) ≤ 3) ∧ 0 ≤ (0 : Int) ∧ (0 : Int) ≤ 3 by omega) fun rs hk hr => ?_
      have hr : rs = [.i a4] := hr
      subst hr
      refine h_call (c := c27) rfl (show (0 ≤ (0 : Int) ∧ (0 : Int) ≤ 3) ∧ 0 ≤ (2 : Int) ∧ (2 : Int) ≤ 3 by omega) fun rs hk hr => ?_
      have hr : rs = [.i b2] := hr
      subst hr
      refine h_needR (a4 * b2) rfl (nd1 hA4 hB2) ?_
      refine h_call (c := c27) rfl (show (0 ≤ (1 : Int) ∧ (1 : Int) ≤ 3) ∧ 0 ≤ (1 : Int) ∧ (1 : Int) ≤ 3 by omega) fun rs hk hr => ?_
      have hr : rs = [.i a5] := hr
      subst hr
      refine h_call (c := c27) rfl (show (0 ≤ (1 : Int) ∧ (1 : Int) ≤ 3) ∧ 0 ≤ (2 : Int) ∧ (2 : Int) ≤ 3 by omega) fun rs hk hr => ?_
      have hr : rs = [.i b6] := hr
      subst hr
      refine h_needR (a5 * b6) rfl (nd1 hA5 hB6) ?_
      refine h_needR (a4 * b2 + a5 * b6) rfl (nd2 hA4 hB2 hA5 hB6) ?_
      refine h_call (c := c27) rfl (show (0 ≤ (1 : Int) ∧ (1 : Int) ≤ 3) ∧ 0 ≤ (2 : Int) ∧ (2 : Int) ≤ 3 by omega) fun rs hk hr => ?_
      have hr : rs = [.i a6] := hr
      subst hr
      refine h_call (c := c27) rfl (show (0 ≤ (2 : Int) ∧ (2 : Int) ≤ 3) ∧ 0 ≤ (2 : Int) ∧ (2 : Int) ≤ 3 by omega) fun rs hk hr => ?_
      have hr : rs = [.i b10] := hr
      subst hr
      refine h_needR (a6 * b10) rfl (nd1 hA6 hB10) ?_
      refine h_needR (a4 * b2 + a5 * b6 + a6 * b10) rfl (nd3 hA4 hB2 hA5 hB6 hA6 hB10) ?_
      refine h_call (c := c27) rfl (show (0 ≤ (1 : Int) ∧ (1 : Int) ≤ 3) ∧ 0 ≤ (3 : Int) ∧ (3 : Int) ≤ 3 by omega) fun rs hk hr => ?_
      have hr : rs = [.i a7] := hr
      subst hr
      refine h_call (c := c27) rfl (show (0 ≤ (3 : Int) ∧ (3 : Int) ≤ 3) ∧ 0 ≤ (2 : Int) ∧ (2 : Int) ≤ 3 by omega) fun rs hk hr => ?_
      have hr : rs = [.i b14] := hr
      subst hr
      refine h_needR (a7 * b14) rfl (nd1 hA7 hB14) ?_
      refine h_needR (a4 * b2 + a5 * b6 + a6 * b10 + a7 * b14) rfl (nd4 hA4 hB2 hA5 hB6 hA6 hB10 hA7 hB14) ?_
      refine h_call (c := c28) rfl (show bigP (a4 * b2 + a5 * b6 + a6 * b10 + a7 * b14) from big4 hA4 hB2 hA5 hB6 hA6 hB10 hA7 hB14) fun rs hk hr => ?_
      have hr : rs = [.i (ent [a0, a1, a2, a3, a4, a5, a6, a7, a8, a9, a10, a11, a12, a13, a14, a15] [b0, b1, b2, b3, b4, b5, b6, b7, b8, b9, b10, b11, b12, b13, b14, b15] 1 2)] := hr
      subst hr
      refine h_call (c := c27) rfl (show (0 ≤ (1 : Int) ∧ (1 : Int) ≤ 3) ∧ 0 ≤ (0 : Int) ∧ (0 : Int) ≤ 3 by omega) fun rs hk hr => ?_
      have hr : rs = [.i a4] := hr
      subst hr
      refine h_call (c := c27) rfl (show (0 ≤ (0 : Int) ∧ (0 : Int) ≤ 3) ∧ 0 ≤ (3 : Int) ∧ (3 : Int) ≤ 3 by omega) fun rs hk hr => ?_
      have hr : rs = [.i b3] := hr
      subst hr
      refine h_needR (a4 * b3) rfl (nd1 hA4 hB3) ?_
      refine h_call (c := c27) rfl (show (0 ≤ (1 : Int) ∧ (1 : Int) ≤ 3) ∧ 0 ≤ (1 : Int) ∧ (1 : Int) ≤ 3 by omega) fun rs hk hr => ?_
      have hr : rs = [.i a5] := hr
      subst hr
      refine h_call (c := c27) rfl (show (0 ≤ (1 : Int) ∧ (1 : Int) ≤ 3) ∧ 0 ≤ (3 : Int) ∧ (3 : Int) ≤ 3 by omega) fun rs hk hr => ?_
      have hr : rs = [.i b7] := hr
      subst hr
      refine h_needR (a5 * b7) rfl (nd1 hA5 hB7) ?_
      refine h_needR (a4 * b3 + a5 * b7) rfl (nd2 hA4 hB3 hA5 hB7) ?_
      refine h_call (c := c27) rfl (show (0 ≤ (1 : Int) ∧ (1 : Int) ≤ 3) ∧ 0 ≤ (2 : Int) ∧ (2 : Int) ≤ 3 by omega) fun rs hk hr => ?_
      have hr : rs = [.i a6] := hr
      subst hr
      refine h_call (c := c27) rfl (show (0 ≤ (2 : Int) ∧ (2 : Int) ≤ 3) ∧ 0 ≤ (3 : Int) ∧ (3 : Int) ≤ 3 by omega) fun rs hk hr => ?_
      have hr : rs = [.i b11] := hr
      subst hr
      refine h_needR (a6 * b11) rfl (nd1 hA6 hB11) ?_
      refine h_needR (a4 * b3 + a5 * b7 + a6 * b11) rfl (nd3 hA4 hB3 hA5 hB7 hA6 hB11) ?_
      refine h_call (c := c27) rfl (show (0 ≤ (1 : Int) ∧ (1 : Int) ≤ 3) ∧ 0 ≤ (3 : Int) ∧ (3 : Int) ≤ 3 by omega) fun rs hk hr => ?_
      have hr : rs = [.i a7] := hr
      subst hr
      refine h_call (c := c27) rfl (show (0 ≤ (3 : Int) ∧ (3 : Int) ≤ 3) ∧ 0 ≤ (3 : Int) ∧ (3 : Int) ≤ 3 by omega) fun rs hk hr => ?_
      have hr : rs = [.i b15] := hr
      subst hr
      refine h_needR (a7 * b15) rfl (nd1 hA7 hB15) ?_
      refine h_needR (a4 * b3 + a5 * b7 + a6 * b11 + a7 * b15) rfl (nd4 hA4 hB3 hA5 hB7 hA6 hB11 hA7 hB15) ?_
      refine h_call (c := c28) rfl (show bigP (a4 * b3 + a5 * b7 + a6 * b11 + a7 * b15) from big4 hA4 hB3 hA5 hB7 hA6 hB11 hA7 hB15) fun rs hk hr => ?_
      have hr : rs = [.i (ent [a0, a1, a2, a3, a4, a5, a6, a7, a8, a9, a10, a11, a12, a13, a14, a15] [b0, b1, b2, b3, b4, b5, b6, b7, b8, b9, b10, b11, b12, b13, b14, b15] 1 3)] := hr
      subst hr
      refine h_call (c := c27) rfl (show (0 ≤ (2 : Int) ∧ (2 : Int) ≤ 3) ∧ 0 ≤ (0 : Int) ∧ (0 : Int) ≤ 3 by omega) fun rs hk hr => ?_
      have hr : rs = [.i a8] := hr
      subst hr
      refine h_call (c := c27) rfl (show (0 ≤ (0 : Int) ∧ (0 : Int) ≤ 3) ∧ 0 ≤ (0 : Int) ∧ (0 : Int) ≤ 3 by omega) fun rs hk hr => ?_
      have hr : rs = [.i b0] := hr
      subst hr
      refine h_needR (a8 * b0) rfl (nd1 hA8 hB0) ?_
      refine h_call (c := c27) rfl (show (0 ≤ (2 : Int) ∧ (2 : Int) ≤ 3) ∧ 0 ≤ (1 : Int) ∧ (1 : Int) ≤ 3 by omega) fun rs hk hr => ?_
      have hr : rs = [.i a9] := hr
      subst hr
      refine h_call (c := c27) rfl (show (0 ≤ (1 : Int) ∧ (1 : Int) ≤ 3) ∧ 0 ≤ (0 : Int) ∧ (0 : Int) ≤ 3 by omega) fun rs hk hr => ?_
      have hr : rs = [.i b4] := hr
      subst hr
      refine h_needR (a9 * b4) rfl (nd1 hA9 hB4) ?_
      refine h_needR (a8 * b0 + a9 * b4) rfl (nd2 hA8 hB0 hA9 hB4) ?_
      refine h_call (c := c27) rfl (show (0 ≤ (2 : Int) ∧ (2 : Int) ≤ 3) ∧ 0 ≤ (2 : Int) ∧ (2 : Int) ≤ 3 by omega) fun rs hk hr => ?_
      have hr : rs = [.i a10] := hr
      subst hr
      refine h_call (c := c27) rfl (show (0 ≤ (2 : Int) ∧ (2 : Int) ≤ 3) ∧ 0 ≤ (0 : Int) ∧ (0 : Int) ≤ 3 by omega) fun rs hk hr => ?_
      have hr : rs = [.i b8] := hr
      subst hr
      refine h_needR (a10 * b8) rfl (nd1 hA10 hB8) ?_
      refine h_needR (a8 * b0 + a9 * b4 + a10 * b8) rfl (nd3 hA8 hB0 hA9 hB4 hA10 hB8) ?_
      refine h_call (c := c27) rfl (show (0 ≤ (2 : Int) ∧ (2 : Int) ≤ 3) ∧ 0 ≤ (3 : Int) ∧ (3 : Int) ≤ 3 by omega) fun rs hk hr => ?_
      have hr : rs = [.i a11] := hr
      subst hr
      refine h_call (c := c27) rfl (show (0 ≤ (3 : Int) ∧ (3 : Int) ≤ 3) ∧ 0 ≤ (0 : Int) ∧ (0 : Int) ≤ 3 by omega) fun rs hk hr => ?_
      have hr : rs = [.i b12] := hr
      subst hr
      refine h_needR (a11 * b12) rfl (nd1 hA11 hB12) ?_
      refine h_needR (a8 * b0 + a9 * b4 + a10 * b8 + a11 * b12) rfl (nd4 hA8 hB0 hA9 hB4 hA10 hB8 hA11 hB12) ?_
      refine h_call (c := c28) rfl (show bigP (a8 * b0 + a9 * b4 + a10 * b8 + a11 * b12) from big4 hA8 hB0 hA9 hB4 hA10 hB8 hA11 hB12) fun rs hk hr => ?_
      have hr : rs = [.i (ent [a0, a1, a2, a3, a4, a5, a6, a7, a8, a9, a10, a11, a12, a13, a14, a15] [b0, b1, b2, b3, b4, b5, b6, b7, b8, b9, b10, b11, b12, b13, b14, b15] 2 0)] := hr
      subst hr
      refine h_call (c := c27) rfl (show (0 ≤ (2 : Int) ∧ (2 : Int) ≤ 3) ∧ 0 ≤ (0 : Int) ∧ (0 : Int) ≤ 3 by omega) fun rs hk hr => ?_
      have hr : rs = [.i a8] := hr
      subst hr
      refine h_call (c := c27) rfl (show (0 ≤ (0 : Int) ∧ (0 : Int) ≤ 3) ∧ 0 ≤ (1 : Int) ∧ (1 : Int) ≤ 3 by omega) fun rs hk hr => ?_
      have hr : rs = [.i b1] := hr
      subst hr
      refine h_needR (a8 * b1) rfl (nd1 hA8 hB1) ?_
      refine h_call (c := c27) rfl (show (0 ≤ (2 : Int) ∧ (2 : Int) ≤ 3) ∧ 0 ≤ (1 : Int) ∧ (1 : Int) ≤ 3 by omega) fun rs hk hr => ?_
      have hr : rs = [.i a9] := hr
      subst hr
      refine h_call (c := c27) rfl (show (0 ≤ (1 : Int) ∧ (1 : Int) ≤ 3) ∧ 0 ≤ (1 : Int) ∧ (1 : Int) ≤ 3 by omega) fun rs hk hr => ?_
      have hr : rs = [.i b5] := hr
      subst hr
      refine h_needR (a9 * b5) rfl (nd1 hA9 hB5) ?_
      refine h_needR (a8 * b1 + a9 * b5) rfl (nd2 hA8 hB1 hA9 hB5) ?_
      refine h_call (c := c27) rfl (show (0 ≤ (2 : Int) ∧ (2 : Int) ≤ 3) ∧ 0 ≤ (2 : Int) ∧ (2 : Int) ≤ 3 by omega) fun rs hk hr => ?_
      have hr : rs = [.i a10] := hr
      subst hr
      refine h_call (c := c27) rfl (show (0 ≤ (2 : Int) ∧ (2 : Int) ≤ 3) ∧ 0 ≤ (1 : Int) ∧ (1 : Int) ≤ 3 by omega) fun rs hk hr => ?_
      have hr : rs = [.i b9] := hr
      subst hr
      refine h_needR (a10 * b9) rfl (nd1 hA10 hB9) ?_
      refine h_needR (a8 * b1 + a9 * b5 + a10 * b9) rfl (nd3 hA8 hB1 hA9 hB5 hA10 hB9) ?_
      refine h_call (c := c27) rfl (show (0 ≤ (2 : Int) ∧ (2 : Int) ≤ 3) ∧ 0 ≤ (3 : Int) ∧ (3 : Int) ≤ 3 by omega) fun rs hk hr => ?_
      have hr : rs = [.i a11] := hr
      subst hr
      refine h_call (c := c27) rfl (show (0 ≤ (3 : Int) ∧ (3 : Int) ≤ 3) ∧ 0 ≤ (1 : Int) ∧ (1 : Int) ≤ 3 by omega) fun rs hk hr => ?_
      have hr : rs = [.i b13] := hr
      subst hr
      refine h_needR (a11 * b13) rfl (nd1 hA11 hB13) ?_
      refine h_needR (a8 * b1 + a9 * b5 + a10 * b9 + a11 * b13) rfl (nd4 hA8 hB1 hA9 hB5 hA10 hB9 hA11 hB13) ?_
      refine h_call (c := c28) rfl (show bigP (a8 * b1 + a9 * b5 + a10 * b9 + a11 * b13) from big4 hA8 hB1 hA9 hB5 hA10 hB9 hA11 hB13) fun rs hk hr => ?_
      have hr : rs = [.i (ent [a0, a1, a2, a3, a4, a5, a6, a7, a8, a9, a10, a11, a12, a13, a14, a15] [b0, b1, b2, b3, b4, b5, b6, b7, b8, b9, b10, b11, b12, b13, b14, b15] 2 1)] := hr
      subst hr
      refine h_call (c := c27) rfl (show (0 ≤ (2 : Int) ∧ (2 : Int) ≤ 3) ∧ 0 ≤ (0 : Int) ∧ (0 : Int) ≤ 3 by omega) fun rs hk hr => ?_
      have hr : rs = [.i a8] := hr
      subst hr
      refine h_call (c := c27) rfl (show (0 ≤ (0 : Int) ∧ (0 : Int) ≤ 3) ∧ 0 ≤ (2 : Int) ∧ (2 : Int) ≤ 3 by omega) fun rs hk hr => ?_
      have hr : rs = [.i b2] := hr
      subst hr
      refine h_needR (a8 * b2) rfl (nd1 hA8 hB2) ?_
      refine h_call (c := c27) rfl (show (0 ≤ (2 : Int) ∧ (2 : Int) ≤ 3) ∧ 0 ≤ (1 : Int) ∧ (1 : Int) ≤ 3 by omega) fun rs hk hr => ?_
      have hr : rs = [.i a9] := hr
      subst hr
      refine h_call (c := c27) rfl (show (0 ≤ (1 : Int) ∧ (1 : Int) ≤ 3) ∧ 0 ≤ (2 : Int) ∧ (2 : Int) ≤ 3 by omega) fun rs hk hr => ?_
      have hr : rs = [.i b6] := hr
      subst hr
      refine h_needR (a9 * b6) rfl (nd1 hA9 hB6) ?_
      refine h_needR (a8 * b2 + a9 * b6) rfl (nd2 hA8 hB2 hA9 hB6) ?_
      refine h_call (c := c27) rfl (show (0 ≤ (2 : Int) ∧ (2 : Int) ≤ 3) ∧ 0 ≤ (2 : Int) ∧ (2 : Int) ≤ 3 by omega) fun rs hk hr => ?_
      have hr : rs = [.i a10] := hr
      subst hr
      refine h_call (c := c27) rfl (show (0 ≤ (2 : Int) ∧ (2 : Int) ≤ 3) ∧ 0 ≤ (2 : Int) ∧ (2 : Int) ≤ 3 by omega) fun rs hk hr => ?_
      have hr : rs = [.i b10] := hr
      subst hr
      refine h_needR (a10 * b10) rfl (nd1 hA10 hB10) ?_
      refine h_needR (a8 * b2 + a9 * b6 + a10 * b10) rfl (nd3 hA8 hB2 hA9 hB6 hA10 hB10) ?_
      refine h_call (c := c27) rfl (show (0 ≤ (2 : Int) ∧ (2 : Int) ≤ 3) ∧ 0 ≤ (3 : Int) ∧ (3 : Int) ≤ 3 by omega) fun rs hk hr => ?_
      have hr : rs = [.i a11] := hr
      subst hr
      refine h_call (c := c27) rfl (show (0 ≤ (3 : Int) ∧ (3 : Int) ≤ 3) ∧ 0 ≤ (2 : Int) ∧ (2 : Int) ≤ 3 by omega) fun rs hk hr => ?_
      have hr : rs = [.i b14] := hr
      subst hr
      refine h_needR (a11 * b14) rfl (nd1 hA11 hB14) ?_
      refine h_needR (a8 * b2 + a9 * b6 + a10 * b10 + a11 * b14) rfl (nd4 hA8 hB2 hA9 hB6 hA10 hB10 hA11 hB14) ?_
      refine h_call (c := c28) rfl (show bigP (a8 * b2 + a9 * b6 + a10 * b10 + a11 * b14) from big4 hA8 hB2 hA9 hB6 hA10 hB10 hA11 hB14) fun rs hk hr => ?_
      have hr : rs = [.i (ent [a0, a1, a2, a3, a4, a5, a6, a7, a8, a9, a10, a11, a12, a13, a14, a15] [b0, b1, b2, b3, b4, b5, b6, b7, b8, b9, b10, b11, b12, b13, b14, b15] 2 2)] := hr
      subst hr
      refine h_call (c := c27) rfl (show (0 ≤ (2 : Int) ∧ (2 : Int) ≤ 3) ∧ 0 ≤ (0 : Int) ∧ (0 : Int) ≤ 3 by omega) fun rs hk hr => ?_
      have hr : rs = [.i a8] := hr
      subst hr
      refine h_call (c := c27) rfl (show (0 ≤ (0 : Int) ∧ (0 : Int) ≤ 3) ∧ 0 ≤ (3 : Int) ∧ (3 : Int) ≤ 3 by omega) fun rs hk hr => ?_
      have hr : rs = [.i b3] := hr
      subst hr
      refine h_needR (a8 * b3) rfl (nd1 hA8 hB3) ?_
      refine h_call (c := c27) rfl (show (0 ≤ (2 : Int) ∧ (2 : Int) ≤ 3) ∧ 0 ≤ (1 : Int) ∧ (1 : Int) ≤ 3 by omega) fun rs hk hr => ?_
      have hr : rs = [.i a9] := hr
      subst hr
      refine h_call (c := c27) rfl (show (0 ≤ (1 : Int) ∧ (1 : Int) ≤ 3) ∧ 0 ≤ (3 : Int) ∧ (3 : Int) ≤ 3 by omega) fun rs hk hr => ?_
      have hr : rs = [.i b7] := hr
      subst hr
      refine h_needR (a9 * b7) rfl (nd1 hA9 hB7) ?_
      refine h_needR (a8 * b3 + a9 * b7) rfl (nd2 hA8 hB3 hA9 hB7) ?_
      refine h_call (c := c27) rfl (show (0 ≤ (2 : Int) ∧ (2 : Int) ≤ 3) ∧ 0 ≤ (2 : Int) ∧ (2 : Int) ≤ 3 by omega) fun rs hk hr => ?_
      have hr : rs = [.i a10] := hr
      subst hr
      refine h_call (c := c27) rfl (show (0 ≤ (2 : Int) ∧ (2 : Int) ≤ 3) ∧ 0 ≤ (3 : Int) ∧ (3 : Int) ≤ 3 by omega) fun rs hk hr => ?_
      have hr : rs = [.i b11] := hr
      subst hr
      refine h_needR (a10 * b11) rfl (nd1 hA10 hB11) ?_
      refine h_needR (a8 * b3 + a9 * b7 + a10 * b11) rfl (nd3 hA8 hB3 hA9 hB7 hA10 hB11) ?_
      refine h_call (c := c27) rfl (show (0 ≤ (2 : Int) ∧ (2 : Int) ≤ 3) ∧ 0 ≤ (3 : Int) ∧ (3 : Int) ≤ 3 by omega) fun rs hk hr => ?_
      have hr : rs = [.i a11] := hr
      subst hr
      refine h_call (c := c27) rfl (show (0 ≤ (3 : Int) ∧ (3 : Int) ≤ 3) ∧ 0 ≤ (3 : Int) ∧ (3 : Int) ≤ 3 by omega) fun rs hk hr => ?_
      have hr : rs = [.i b15] := hr
      subst hr
      refine h_needR (a11 * b15) rfl (nd1 hA11 hB15) ?_
      refine h_needR (a8 * b3 + a9 * b7 + a10 * b11 + a11 * b15) rfl (nd4 hA8 hB3 hA9 hB7 hA10 hB11 hA11 hB15) ?_
      refine h_call (c := c28) rfl (show bigP (a8 * b3 + a9 * b7 + a10 * b11 + a11 * b15) from big4 hA8 hB3 hA9 hB7 hA10 hB11 hA11 hB15) fun rs hk hr => ?_
      have hr : rs = [.i (ent [a0, a1, a2, a3, a4, a5, a6, a7, a8, a9, a10, a11, a12, a13, a14, a15] [b0, b1, b2, b3, b4, b5, b6, b7, b8, b9, b10, b11, b12, b13, b14, b15] 2 3)] := hr
      subst hr
      refine h_call (c := c27) rfl (show (0 ≤ (3 : Int) ∧ (3 : Int) ≤ 3) ∧ 0 ≤ (0 : Int) ∧ (0 : Int) ≤ 3 by omega) fun rs hk hr => ?_
      have hr : rs = [.i a12] := hr
      subst hr
      refine h_call (c := c27) rfl (show (0 ≤ (0 : Int) ∧ (0 : Int) ≤ 3) ∧ 0 ≤ (0 : Int) ∧ (0 : Int) ≤ 3 by omega) fun rs hk hr => ?_
      have hr : rs = [.i b0] := hr
      subst hr
      refine h_needR (a12 * b0) rfl (nd1 hA12 hB0) ?_
      refine h_call (c := c27) rfl (show (0 ≤ (3 : Int) ∧ (3 : Int) ≤ 3) ∧ 0 ≤ (1 : Int) ∧ (1 : Int) ≤ 3 by omega) fun rs hk hr => ?_
      have hr : rs = [.i a13] := hr
      subst hr
      refine h_call (c := c27) rfl (show (0 ≤ (1 : Int) ∧ (1 : Int) ≤ 3) ∧ 0 ≤ (0 : Int) ∧ (0 : Int) ≤ 3 by omega) fun rs hk hr => ?_
      have hr : rs = [.i b4] := hr
      subst hr
      refine h_needR (a13 * b4) rfl (nd1 hA13 hB4) ?_
      refine h_needR (a12 * b0 + a13 * b4) rfl (nd2 hA12 hB0 hA13 hB4) ?_
      refine h_call (c := c27) rfl (show (0 ≤ (3 : Int) ∧ (3 : Int) ≤ 3) ∧ 0 ≤ (2 : Int) ∧ (2 : Int) ≤ 3 by omega) fun rs hk hr => ?_
      have hr : rs = [.i a14] := hr
      subst hr
      refine h_call (c := c27) rfl (show (0 ≤ (2 : Int) ∧ (2 : Int) ≤ 3) ∧ 0 ≤ (0 : Int) ∧ (0 : Int) ≤ 3 by omega) fun rs hk hr => ?_
      have hr : rs = [.i b8] := hr
      subst hr
      refine h_needR (a14 * b8) rfl (nd1 hA14 hB8) ?_
      refine h_needR (a12 * b0 + a13 * b4 + a14 * b8) rfl (nd3 hA12 hB0 hA13 hB4 hA14 hB8) ?_
      refine h_call (c := c27) rfl (show (0 ≤ (3 : Int) ∧ (3 : Int) ≤ 3) ∧ 0 ≤ (3 : Int) ∧ (3 : Int) ≤ 3 by omega) fun rs hk hr => ?_
      have hr : rs = [.i a15] := hr
      subst hr
      refine h_call (c := c27) rfl (show (0 ≤ (3 : Int) ∧ (3 : Int) ≤ 3) ∧ 0 ≤ (0 : Int) ∧ (0 : Int) ≤ 3 by omega) fun rs hk hr => ?_
      have hr : rs = [.i b12] := hr
      subst hr
      refine h_needR (a15 * b12) rfl (nd1 hA15 hB12) ?_
      refine h_needR (a12 * b0 + a13 * b4 + a14 * b8 + a15 * b12) rfl (nd4 hA12 hB0 hA13 hB4 hA14 hB8 hA15 hB12) ?_
      refine h_call (c := c28) rfl (show bigP (a12 * b0 + a13 * b4 + a14 * b8 + a15 * b12) from big4 hA12 hB0 hA13 hB4 hA14 hB8 hA15 hB12) fun rs hk hr => ?_
      have hr : rs = [.i (ent [a0, a1, a2, a3, a4, a5, a6, a7, a8, a9, a10, a11, a12, a13, a14, a15] [b0, b1, b2, b3, b4, b5, b6, b7, b8, b9, b10, b11, b12, b13, b14, b15] 3 0)] := hr
      subst hr
      refine h_call (c := c27) rfl (show (0 ≤ (3 : Int) ∧ (3 : Int) ≤ 3) ∧ 0 ≤ (0 : Int) ∧ (0 : Int) ≤ 3 by omega) fun rs hk hr => ?_
      have hr : rs = [.i a12] := hr
      subst hr
      refine h_call (c := c27) rfl (show (0 ≤ (0 : Int) ∧ (0 : Int) ≤ 3) ∧ 0 ≤ (1 : Int) ∧ (1 : Int) ≤ 3 by omega) fun rs hk hr => ?_
      have hr : rs = [.i b1] := hr
      subst hr
      refine h_needR (a12 * b1) rfl (nd1 hA12 hB1) ?_
      refine h_call (c := c27) rfl (show (0 ≤ (3 : Int) ∧ (3 : Int) ≤ 3) ∧ 0 ≤ (1 : Int) ∧ (1 : Int) ≤ 3 by omega) fun rs hk hr => ?_
      have hr : rs = [.i a13] := hr
      subst hr
      refine h_call (c := c27) rfl (show (0 ≤ (1 : Int) ∧ (1 : Int) ≤ 3) ∧ 0 ≤ (1 : Int) ∧ (1 : Int) ≤ 3 by omega) fun rs hk hr => ?_
      have hr : rs = [.i b5] := hr
      subst hr
      refine h_needR (a13 * b5) rfl (nd1 hA13 hB5) ?_
      refine h_needR (a12 * b1 + a13 * b5) rfl (nd2 hA12 hB1 hA13 hB5) ?_
      refine h_call (c := c27) rfl (show (0 ≤ (3 : Int) ∧ (3 : Int) ≤ 3) ∧ 0 ≤ (2 : Int) ∧ (2 : Int) ≤ 3 by omega) fun rs hk hr => ?_
      have hr : rs = [.i a14] := hr
      subst hr
      refine h_call (c := c27) rfl (show (0 ≤ (2 : Int) ∧ (2 : Int) ≤ 3) ∧ 0 ≤ (1 : Int) ∧ (1 : Int) ≤ 3 by omega) fun rs hk hr => ?_
      have hr : rs = [.i b9] := hr
      subst hr
      refine h_needR (a14 * b9) rfl (nd1 hA14 hB9) ?_
      refine h_needR (a12 * b1 + a13 * b5 + a14 * b9) rfl (nd3 hA12 hB1 hA13 hB5 hA14 hB9) ?_
      refine h_call (c := c27) rfl (show (0 ≤ (3 : Int) ∧ (3 : Int) ≤ 3) ∧ 0 ≤ (3 : Int) ∧ (3 : Int) ≤ 3 by omega) fun rs hk hr => ?_
      have hr : rs = [.i a15] := hr
      subst hr
      refine h_call (c := c27) rfl (show (0 ≤ (3 : Int) ∧ (3 : Int) ≤ 3) ∧ 0 ≤ (1 : Int) ∧ (1 : Int) ≤ 3 by omega) fun rs hk hr => ?_
      have hr : rs = [.i b13] := hr
      subst hr
      refine h_needR (a15 * b13) rfl (nd1 hA15 hB13) ?_
      refine h_needR (a12 * b1 + a13 * b5 + a14 * b9 + a15 * b13) rfl (nd4 hA12 hB1 hA13 hB5 hA14 hB9 hA15 hB13) ?_
      refine h_call (c := c28) rfl (show bigP (a12 * b1 + a13 * b5 + a14 * b9 + a15 * b13) from big4 hA12 hB1 hA13 hB5 hA14 hB9 hA15 hB13) fun rs hk hr => ?_
      have hr : rs = [.i (ent [a0, a1, a2, a3, a4, a5, a6, a7, a8, a9, a10, a11, a12, a13, a14, a15] [b0, b1, b2, b3, b4, b5, b6, b7, b8, b9, b10, b11, b12, b13, b14, b15] 3 1)] := hr
      subst hr
      refine h_call (c := c27) rfl (show (0 ≤ (3 : Int) ∧ (3 : Int) ≤ 3) ∧ 0 ≤ (0 : Int) ∧ (0 : Int) ≤ 3 by omega) fun rs hk hr => ?_
      have hr : rs = [.i a12] := hr
      subst hr
      refine h_call (c := c27) rfl (show (0 ≤ (0 : Int) ∧ (0 : Int) ≤ 3) ∧ 0 ≤ (2 : Int) ∧ (2 : Int) ≤ 3 by omega) fun rs hk hr => ?_
      have hr : rs = [.i b2] := hr
      subst hr
      refine h_needR (a12 * b2) rfl (nd1 hA12 hB2) ?_
      refine h_call (c := c27) rfl (show (0 ≤ (3 : Int) ∧ (3 : Int) ≤ 3) ∧ 0 ≤ (1 : Int) ∧ (1 : Int) ≤ 3 by omega) fun rs hk hr => ?_
      have hr : rs = [.i a13] := hr
      subst hr
      refine h_call (c := c27) rfl (show (0 ≤ (1 : Int) ∧ (1 : Int) ≤ 3) ∧ 0 ≤ (2 : Int) ∧ (2 : Int) ≤ 3 by omega) fun rs hk hr => ?_
      have hr : rs = [.i b6] := hr
      subst hr
      refine h_needR (a13 * b6) rfl (nd1 hA13 hB6) ?_
      refine h_needR (a12 * b2 + a13 * b6) rfl (nd2 hA12 hB2 hA13 hB6) ?_
      refine h_call (c := c27) rfl (show (0 ≤ (3 : Int) ∧ (3 : Int) ≤ 3) ∧ 0 ≤ (2 : Int) ∧ (2 : Int) ≤ 3 by omega) fun rs hk hr => ?_
      have hr : rs = [.i a14] := hr
      subst hr
      refine h_call (c := c27) rfl (show (0 ≤ (2 : Int) ∧ (2 : Int) ≤ 3) ∧ 0 ≤ (2 : Int) ∧ (2 : Int) ≤ 3 by omega) fun rs hk hr => ?_
      have hr : rs = [.i b10] := hr
      subst hr
      refine h_needR (a14 * b10) rfl (nd1 hA14 hB10) ?_
      refine h_needR (a12 * b2 + a13 * b6 + a14 * b10) rfl (nd3 hA12 hB2 hA13 hB6 hA14 hB10) ?_
      refine h_call (c := c27) rfl (show (0 ≤ (3 : Int) ∧ (3 : Int) ≤ 3) ∧ 0 ≤ (3 : Int) ∧ (3 : Int) ≤ 3 by omega) fun rs hk hr => ?_
      have hr : rs = [.i a15] := hr
      subst hr
      refine h_call (c := c27) rfl (show (0 ≤ (3 : Int) ∧ (3 : Int) ≤ 3) ∧ 0 ≤ (2 : Int) ∧ (2 : Int) ≤ 3 by omega) fun rs hk hr => ?_
      have hr : rs = [.i b14] := hr
      subst hr
      refine h_needR (a15 * b14) rfl (nd1 hA15 hB14) ?_
      refine h_needR (a12 * b2 + a13 * b6 + a14 * b10 + a15 * b14) rfl (nd4 hA12 hB2 hA13 hB6 hA14 hB10 hA15 hB14) ?_
      refine h_call (c := c28) rfl (show bigP (a12 * b2 + a13 * b6 + a14 * b10 + a15 * b14) from big4 hA12 hB2 hA13 hB6 hA14 hB10 hA15 hB14) fun rs hk hr => ?_
      have hr : rs = [.i (ent [a0, a1, a2, a3, a4, a5, a6, a7, a8, a9, a10, a11, a12, a13, a14, a15] [b0, b1, b2, b3, b4, b5, b6, b7, b8, b9, b10, b11, b12, b13, b14, b15] 3 2)] := hr
      subst hr
      refine h_call (c := c27) rfl (show (0 ≤ (3 : Int) ∧ (3 : Int) ≤ 3) ∧ 0 ≤ (0 : Int) ∧ (0 : Int) ≤ 3 by omega) fun rs hk hr => ?_
      have hr : rs = [.i a12] := hr
      subst hr
      refine h_call (c := c27) rfl (show (0 ≤ (0 : Int) ∧ (0 : Int) ≤ 3) ∧ 0 ≤ (3 : Int) ∧ (3 : Int) ≤ 3 by omega) fun rs hk hr => ?_
      have hr : rs = [.i b3] := hr
      subst hr
      refine h_needR (a12 * b3) rfl (nd1 hA12 hB3) ?_
      refine h_call (c := c27) rfl (show (0 ≤ (3 : Int) ∧ (3 : Int) ≤ 3) ∧ 0 ≤ (1 : Int) ∧ (1 : Int) ≤ 3 by omega) fun rs hk hr => ?_
      have hr : rs = [.i a13] := hr
      subst hr
      refine h_call (c := c27) rfl (show (0 ≤ (1 : Int) ∧ (1 : Int) ≤ 3) ∧ 0 ≤ (3 : Int) ∧ (3 : Int) ≤ 3 by omega) fun rs hk hr => ?_
      have hr : rs = [.i b7] := hr
      subst hr
      refine h_needR (a13 * b7) rfl (nd1 hA13 hB7) ?_
      refine h_needR (a12 * b3 + a13 * b7) rfl (nd2 hA12 hB3 hA13 hB7) ?_
      refine h_call (c := c27) rfl (show (0 ≤ (3 : Int) ∧ (3 : Int) ≤ 3) ∧ 0 ≤ (2 : Int) ∧ (2 : Int) ≤ 3 by omega) fun rs hk hr => ?_
      have hr : rs = [.i a14] := hr
      subst hr
      refine h_call (c := c27) rfl (show (0 ≤ (2 : Int) ∧ (2 : Int) ≤ 3) ∧ 0 ≤ (3 : Int) ∧ (3 : Int) ≤ 3 by omega) fun rs hk hr => ?_
      have hr : rs = [.i b11] := hr
      subst hr
      refine h_needR (a14 * b11) rfl (nd1 hA14 hB11) ?_
      refine h_needR (a12 * b3 + a13 * b7 + a14 * b11) rfl (nd3 hA12 hB3 hA13 hB7 hA14 hB11) ?_
      refine h_call (c := c27) rfl (show (0 ≤ (3 : Int) ∧ (3 : Int) ≤ 3) ∧ 0 ≤ (3 : Int) ∧ (3 : Int) ≤ 3 by omega) fun rs hk hr => ?_
      have hr : rs = [.i a15] := hr
      subst hr
      refine h_call (c := c27) rfl (show (0 ≤ (3 : Int) ∧ (3 : Int) ≤ 3) ∧ 0 ≤ (3 : Int) ∧ (3 : Int) ≤ 3 by omega) fun rs hk hr => ?_
      have hr : rs = [.i b15] := hr
      subst hr
      refine h_needR (a15 * b15) rfl (nd1 hA15 hB15) ?_
      refine h_needR (a12 * b3 + a13 * b7 + a14 * b11 + a15 * b15) rfl (nd4 hA12 hB3 hA13 hB7 hA14 hB11 hA15 hB15) ?_
      refine h_call (c := c28) rfl (show bigP (a12 * b3 + a13 * b7 + a14 * b11 + a15 * b15) from big4 hA12 hB3 hA13 hB7 hA14 hB11 hA15 hB15) fun rs hk hr => ?_
      have hr : rs = [.i (ent [a0, a1, a2, a3, a4, a5, a6, a7, a8, a9, a10, a11, a12, a13, a14, a15] [b0, b1, b2, b3, b4, b5, b6, b7, b8, b9, b10, b11, b12, b13, b14, b15] 3 3)] := hr
      subst hr
      refine h_call (c := cRight sg15) rfl trivial fun rs hk hr => ?_
      have hr : rs = [.b (decide (rightP (prodL [a0, a1, a2, a3, a4, a5, a6, a7, a8, a9, a10, a11, a12, a13, a14, a15] [b0, b1, b2, b3, b4, b5, b6, b7, b8, b9, b10, b11, b12, b13, b14, b15])))] := hr
      subst hr
      refine h_ite (fun g => ?_) (fun g => ?_)
      · have g : (!decide (rightP (prodL [a0, a1, a2, a3, a4, a5, a6, a7, a8, a9, a10, a11, a12, a13, a14, a15] [b0, b1, b2, b3, b4, b5, b6, b7, b8, b9, b10, b11, b12, b13, b14, b15]))) = true := g
        rw [Bool.not_eq_true', decide_eq_false_iff_not] at g
        show ([.i 0, .i 0, .i 0, .i 0, .i 0, .i 0, .i 0, .i 0, .i 0, .i 0, .i 0, .i 0, .i 0, .i 0, .i 0, .i 0, .i 4] : List DV) = [.i (mulI [a0, a1, a2, a3, a4, a5, a6, a7, a8, a9, a10, a11, a12, a13, a14, a15] [b0, b1, b2, b3, b4, b5, b6, b7, b8, b9, b10, b11, b12, b13, b14, b15] 0), .i (mulI [a0, a1, a2, a3, a4, a5, a6, a7, a8, a9, a10, a11, a12, a13, a14, a15] [b0, b1, b2, b3, b4, b5, b6, b7, b8, b9, b10, b11, b12, b13, b14, b15] 1), .i (mulI [a0, a1, a2, a3, a4, a5, a6, a7, a8, a9, a10, a11, a12, a13, a14, a15] [b0, b1, b2, b3, b4, b5, b6, b7, b8, b9, b10, b11, b12, b13, b14, b15] 2), .i (mulI [a0, a1, a2, a3, a4, a5, a6, a7, a8, a9, a10, a11, a12, a13, a14, a15] [b0, b1, b2, b3, b4, b5, b6, b7, b8, b9, b10, b11, b12, b13, b14, b15] 3), .i (mulI [a0, a1, a2, a3, a4, a5, a6, a7, a8, a9, a10, a11, a12, a13, a14, a15] [b0, b1, b2, b3, b4, b5, b6, b7, b8, b9, b10, b11, b12, b13, b14, b15] 4), .i (mulI [a0, a1, a2, a3, a4, a5, a6, a7, a8, a9, a10, a11, a12, a13, a14, a15] [b0, b1, b2, b3, b4, b5, b6, b7, b8, b9, b10, b11, b12, b13, b14, b15] 5), .i (mulI [a0, a1, a2, a3, a4, a5, a6, a7, a8, a9, a10, a11, a12, a13, a14, a15] [b0, b1, b2, b3, b4, b5, b6, b7, b8, b9, b10, b11, b12, b13, b14, b15] 6), .i (mulI [a0, a1, a2, a3, a4, a5, a6, a7, a8, a9, a10, a11, a12, a13, a14, a15] [b0, b1, b2, b3, b4, b5, b6, b7, b8, b9, b10, b11, b12, b13, b14, b15] 7), .i (mulI [a0, a1, a2, a3, a4, a5, a6, a7, a8, a9, a10, a11, a12, a13, a14, a15] [b0, b1, b2, b3, b4, b5, b6, b7, b8, b9, b10, b11, b12, b13, b14, b15] 8), .i (mulI [a0, a1, a2, a3, a4, a5, a6, a7, a8, a9, a10, a11, a12, a13, a14, a15] [b0, b1, b2, b3, b4, b5, b6, b7, b8, b9, b10, b11, b12, b13, b14, b15] 9), .i (mulI [a0, a1, a2, a3, a4, a5, a6, a7, a8, a9, a10, a11, a12, a13, a14, a15] [b0, b1, b2, b3, b4, b5, b6, b7, b8, b9, b10, b11, b12, b13, b14, b15] 10), .i (mulI [a0, a1, a2, a3, a4, a5, a6, a7, a8, a9, a10, a11, a12, a13, a14, a15] [b0, b1, b2, b3, b4, b5, b6, b7, b8, b9, b10, b11, b12, b13, b14, b15] 11), .i (mulI [a0, a1, a2, a3, a4, a5, a6, a7, a8, a9, a10, a11, a12, a13, a14, a15] [b0, b1, b2, b3, b4, b5, b6, b7, b8, b9, b10, b11, b12, b13, b14, b15] 12), .i (mulI [a0, a1, a2, a3, a4, a5, a6, a7, a8, a9, a10, a11, a12, a13, a14, a15] [b0, b1, b2, b3, b4, b5, b6, b7, b8, b9, b10, b11, b12, b13, b14, b15] 13), .i (mulI [a0, a1, a2, a3, a4, a5, a6, a7, a8, a9, a10, a11, a12, a13, a14, a15] [b0, b1, b2, b3, b4, b5, b6, b7, b8, b9, b10, b11, b12, b13, b14, b15] 14), .i (mulI [a0, a1, a2, a3, a4, a5, a6, a7, a8, a9, a10, a11, a12, a13, a14, a15] [b0, b1, b2, b3, b4, b5, b6, b7, b8, b9, b10, b11, b12, b13, b14, b15] 15), .i (mulE [a0, a1, a2, a3, a4, a5, a6, a7, a8, a9, a10, a11, a12, a13, a14, a15] [b0, b1, b2, b3, b4, b5, b6, b7, b8, b9, b10, b11, b12, b13, b14, b15])]
        rw [(mul_far hA hB g).2]
        simp only [(mul_far hA hB g).1]
      · have g : (!decide (rightP (prodL [a0, a1, a2, a3, a4, a5, a6, a7, a8, a9, a10, a11, a12, a13, a14, a15] [b0, b1, b2, b3, b4, b5, b6, b7, b8, b9, b10, b11, b12, b13, b14, b15]))) = false := g
        rw [Bool.not_eq_false', decide_eq_true_eq] at g
        show ([.i (ent [a0, a1, a2, a3, a4, a5, a6, a7, a8, a9, a10, a11, a12, a13, a14, a15] [b0, b1, b2, b3, b4, b5, b6, b7, b8, b9, b10, b11, b12, b13, b14, b15] 0 0), .i (ent [a0, a1, a2, a3, a4, a5, a6, a7, a8, a9, a10, a11, a12, a13, a14, a15] [b0, b1, b2, b3, b4, b5, b6, b7, b8, b9, b10, b11, b12, b13, b14, b15] 0 1), .i (ent [a0, a1, a2, a3, a4, a5, a6, a7, a8, a9, a10, a11, a12, a13, a14, a15] [b0, b1, b2, b3, b4, b5, b6, b7, b8, b9, b10, b11, b12, b13, b14, b15] 0 2), .i (ent [a0, a1, a2, a3, a4, a5, a6, a7, a8, a9, a10, a11, a12, a13, a14, a15] [b0, b1, b2, b3, b4, b5, b6, b7, b8, b9, b10, b11, b12, b13, b14, b15] 0 3), .i (ent [a0, a1, a2, a3, a4, a5, a6, a7, a8, a9, a10, a11, a12, a13, a14, a15] [b0, b1, b2, b3, b4, b5, b6, b7, b8, b9, b10, b11, b12, b13, b14, b15] 1 0), .i (ent [a0, a1, a2, a3, a4, a5, a6, a7, a8, a9, a10, a11, a12, a13, a14, a15] [b0, b1, b2, b3, b4, b5, b6, b7, b8, b9, b10, b11, b12, b13, b14, b15] 1 1), .i (ent [a0, a1, a2, a3, a4, a5, a6, a7, a8, a9, a10, a11, a12, a13, a14, a15] [b0, b1, b2, b3, b4, b5, b6, b7, b8, b9, b10, b11, b12, b13, b14, b15] 1 2), .i (ent [a0, a1, a2, a3, a4, a5, a6, a7, a8, a9, a10, a11, a12, a13, a14, a15] [b0, b1, b2, b3, b4, b5, b6, b7, b8, b9, b10, b11, b12, b13, b14, b15] 1 3), .i (ent [a0, a1, a2, a3, a4, a5, a6, a7, a8, a9, a10, a11, a12, a13, a14, a15] [b0, b1, b2, b3, b4, b5, b6, b7, b8, b9, b10, b11, b12, b13, b14, b15] 2 0), .i (ent [a0, a1, a2, a3, a4, a5, a6, a7, a8, a9, a10, a11, a12, a13, a14, a15] [b0, b1, b2, b3, b4, b5, b6, b7, b8, b9, b10, b11, b12, b13, b14, b15] 2 1), .i (ent [a0, a1, a2, a3, a4, a5, a6, a7, a8, a9, a10, a11, a12, a13, a14, a15] [b0, b1, b2, b3, b4, b5, b6, b7, b8, b9, b10, b11, b12, b13, b14, b15] 2 2), .i (ent [a0, a1, a2, a3, a4, a5, a6, a7, a8, a9, a10, a11, a12, a13, a14, a15] [b0, b1, b2, b3, b4, b5, b6, b7, b8, b9, b10, b11, b12, b13, b14, b15] 2 3), .i (ent [a0, a1, a2, a3, a4, a5, a6, a7, a8, a9, a10, a11, a12, a13, a14, a15] [b0, b1, b2, b3, b4, b5, b6, b7, b8, b9, b10, b11, b12, b13, b14, b15] 3 0), .i (ent [a0, a1, a2, a3, a4, a5, a6, a7, a8, a9, a10, a11, a12, a13, a14, a15] [b0, b1, b2, b3, b4, b5, b6, b7, b8, b9, b10, b11, b12, b13, b14, b15] 3 1), .i (ent [a0, a1, a2, a3, a4, a5, a6, a7, a8, a9, a10, a11, a12, a13, a14, a15] [b0, b1, b2, b3, b4, b5, b6, b7, b8, b9, b10, b11, b12, b13, b14, b15] 3 2), .i (ent [a0, a1, a2, a3, a4, a5, a6, a7, a8, a9, a10, a11, a12, a13, a14, a15] [b0, b1, b2, b3, b4, b5, b6, b7, b8, b9, b10, b11, b12, b13, b14, b15] 3 3), .i 0] : List DV) = [.i (mulI [a0, a1, a2, a3, a4, a5, a6, a7, a8, a9, a10, a11, a12, a13, a14, a15] [b0, b1, b2, b3, b4, b5, b6, b7, b8, b9, b10, b11, b12, b13, b14, b15] 0), .i (mulI [a0, a1, a2, a3, a4, a5, a6, a7, a8, a9, a10, a11, a12, a13, a14, a15] [b0, b1, b2, b3, b4, b5, b6, b7, b8, b9, b10, b11, b12, b13, b14, b15] 1), .i (mulI [a0, a1, a2, a3, a4, a5, a6, a7, a8, a9, a10, a11, a12, a13, a14, a15] [b0, b1, b2, b3, b4, b5, b6, b7, b8, b9, b10, b11, b12, b13, b14, b15] 2), .i (mulI [a0, a1, a2, a3, a4, a5, a6, a7, a8, a9, a10, a11, a12, a13, a14, a15] [b0, b1, b2, b3, b4, b5, b6, b7, b8, b9, b10, b11, b12, b13, b14, b15] 3), .i (mulI [a0, a1, a2, a3, a4, a5, a6, a7, a8, a9, a10, a11, a12, a13, a14, a15] [b0, b1, b2, b3, b4, b5, b6, b7, b8, b9, b10, b11, b12, b13, b14, b15] 4), .i (mulI [a0, a1, a2, a3, a4, a5, a6, a7, a8, a9, a10, a11, a12, a13, a14, a15] [b0, b1, b2, b3, b4, b5, b6, b7, b8, b9, b10, b11, b12, b13, b14, b15] 5), .i (mulI [a0, a1, a2, a3, a4, a5, a6, a7, a8, a9, a10, a11, a12, a13, a14, a15] [b0, b1, b2, b3, b4, b5, b6, b7, b8, b9, b10, b11, b12, b13, b14, b15] 6), .i (mulI [a0, a1, a2, a3, a4, a5, a6, a7, a8, a9, a10, a11, a12, a13, a14, a15] [b0, b1, b2, b3, b4, b5, b6, b7, b8, b9, b10, b11, b12, b13, b14, b15] 7), .i (mulI [a0, a1, a2, a3, a4, a5, a6, a7, a8, a9, a10, a11, a12, a13, a14, a15] [b0, b1, b2, b3, b4, b5, b6, b7, b8, b9, b10, b11, b12, b13, b14, b15] 8), .i (mulI [a0, a1, a2, a3, a4, a5, a6, a7, a8, a9, a10, a11, a12, a13, a14, a15] [b0, b1, b2, b3, b4, b5, b6, b7, b8, b9, b10, b11, b12, b13, b14, b15] 9), .i (mulI [a0, a1, a2, a3, a4, a5, a6, a7, a8, a9, a10, a11, a12, a13, a14, a15] [b0, b1, b2, b3, b4, b5, b6, b7, b8, b9, b10, b11, b12, b13, b14, b15] 10), .i (mulI [a0, a1, a2, a3, a4, a5, a6, a7, a8, a9, a10, a11, a12, a13, a14, a15] [b0, b1, b2, b3, b4, b5, b6, b7, b8, b9, b10, b11, b12, b13, b14, b15] 11), .i (mulI [a0, a1, a2, a3, a4, a5, a6, a7, a8, a9, a10, a11, a12, a13, a14, a15] [b0, b1, b2, b3, b4, b5, b6, b7, b8, b9, b10, b11, b12, b13, b14, b15] 12), .i (mulI [a0, a1, a2, a3, a4, a5, a6, a7, a8, a9, a10, a11, a12, a13, a14, a15] [b0, b1, b2, b3, b4, b5, b6, b7, b8, b9, b10, b11, b12, b13, b14, b15] 13), .i (mulI [a0, a1, a2, a3, a4, a5, a6, a7, a8, a9, a10, a11, a12, a13, a14, a15] [b0, b1, b2, b3, b4, b5, b6, b7, b8, b9, b10, b11, b12, b13, b14, b15] 14), .i (mulI [a0, a1, a2, a3, a4, a5, a6, a7, a8, a9, a10, a11, a12, a13, a14, a15] [b0, b1, b2, b3, b4, b5, b6, b7, b8, b9, b10, b11, b12, b13, b14, b15] 15), .i (mulE [a0, a1, a2, a3, a4, a5, a6, a7, a8, a9, a10, a11, a12, a13, a14, a15] [b0, b1, b2, b3, b4, b5, b6, b7, b8, b9, b10, b11, b12, b13, b14, b15])]
        rw [(mul_ok hA hB g).2]
        simp only [(mul_ok hA hB g).1]
        rfl
  · cases hp
theorem ok9 : ContractOk Try.prog 9 (cApply sg9) := by
  refine contract_of (Γ := knownOf [(14, cRight sg14), (24, c24), (25, c25)]) (known_cons ok14 rfl (known_cons ok24 rfl (known_cons ok25 rfl known_nil))) Try.func9 rfl rfl is9 fun ds hk hp => ?_
  split at hp
  · skip
    rename_i a0 a1 a2 a3 a4 a5 a6 a7 a8 a9 a10 a11 a12 a13 a14 a15 v0 v1 v2 v3 most
    refine h_call (c := cRight sg14) rfl trivial fun rs hk hr => ?_
    have hr : rs = [.b (decide (rightP [a0, a1, a2, a3, a4, a5, a6, a7, a8, a9, a10, a11, a12, a13, a14, a15]))] := hr
    subst hr
    refine h_ite (fun g => ?_) (fun g => ?_)
    · have g : ((!decide (rightP [a0, a1, a2, a3, a4, a5, a6, a7, a8, a9, a10, a11, a12, a13, a14, a15]) || decide (most < 0)) || decide (68719476736 < most)) = true := g
      have hbad : ¬ appOk [a0, a1, a2, a3, a4, a5, a6, a7, a8, a9, a10, a11, a12, a13, a14, a15] [v0, v1, v2, v3] most := fun h => by
        obtain ⟨⟨h1, h2, h3⟩, _⟩ := h
        simp [h1] at g
        omega
      show ([.i 0, .i 0, .i 0, .i 0, .i 1] : List DV) = [.i (appI [a0, a1, a2, a3, a4, a5, a6, a7, a8, a9, a10, a11, a12, a13, a14, a15] [v0, v1, v2, v3] most 0), .i (appI [a0, a1, a2, a3, a4, a5, a6, a7, a8, a9, a10, a11, a12, a13, a14, a15] [v0, v1, v2, v3] most 1), .i (appI [a0, a1, a2, a3, a4, a5, a6, a7, a8, a9, a10, a11, a12, a13, a14, a15] [v0, v1, v2, v3] most 2), .i (appI [a0, a1, a2, a3, a4, a5, a6, a7, a8, a9, a10, a11, a12, a13, a14, a15] [v0, v1, v2, v3] most 3), .i (appE [a0, a1, a2, a3, a4, a5, a6, a7, a8, a9, a10, a11, a12, a13, a14, a15] [v0, v1, v2, v3] most)]
      rw [(app_bad hbad).2]
      simp only [(app_bad hbad).1]
    have g : ((!decide (rightP [a0, a1, a2, a3, a4, a5, a6, a7, a8, a9, a10, a11, a12, a13, a14, a15]) || decide (most < 0)) || decide (68719476736 < most)) = false := g
    simp only [Bool.or_eq_false_iff, Bool.not_eq_false', decide_eq_true_eq, decide_eq_false_iff_not] at g
    obtain ⟨⟨hA, hm1⟩, hm2⟩ := g
    refine h_call (c := c24) rfl (show bigP 268435456 by unfold bigP; omega) fun rs hk hr => ?_
    have hr : rs = [.b (decide (268435456 < v0 ∨ v0 < -268435456))] := hr
    subst hr
    refine h_ite (fun g => ?_) (fun g => ?_)
    · have g := of_decide_eq_true (p := 268435456 < v0 ∨ v0 < -268435456) g
      have hbad : ¬ appOk [a0, a1, a2, a3, a4, a5, a6, a7, a8, a9, a10, a11, a12, a13, a14, a15] [v0, v1, v2, v3] most := fun h => by
        have := h.2 v0 (by simp)
        unfold inB at this
        omega
      show ([.i 0, .i 0, .i 0, .i 0, .i 1] : List DV) = [.i (appI [a0, a1, a2, a3, a4, a5, a6, a7, a8, a9, a10, a11, a12, a13, a14, a15] [v0, v1, v2, v3] most 0), .i (appI [a0, a1, a2, a3, a4, a5, a6, a7, a8, a9, a10, a11, a12, a13, a14, a15] [v0, v1, v2, v3] most 1), .i (appI [a0, a1, a2, a3, a4, a5, a6, a7, a8, a9, a10, a11, a12, a13, a14, a15] [v0, v1, v2, v3] most 2), .i (appI [a0, a1, a2, a3, a4, a5, a6, a7, a8, a9, a10, a11, a12, a13, a14, a15] [v0, v1, v2, v3] most 3), .i (appE [a0, a1, a2, a3, a4, a5, a6, a7, a8, a9, a10, a11, a12, a13, a14, a15] [v0, v1, v2, v3] most)]
      rw [(app_bad hbad).2]
      simp only [(app_bad hbad).1]
    have h0 := of_decide_eq_false (p := 268435456 < v0 ∨ v0 < -268435456) g
    clear g
    refine h_call (c := c24) rfl (show bigP 268435456 by unfold bigP; omega) fun rs hk hr => ?_
    have hr : rs = [.b (decide (268435456 < v1 ∨ v1 < -268435456))] := hr
    subst hr
    refine h_ite (fun g => ?_) (fun g => ?_)
    · have g := of_decide_eq_true (p := 268435456 < v1 ∨ v1 < -268435456) g
      have hbad : ¬ appOk [a0, a1, a2, a3, a4, a5, a6, a7, a8, a9, a10, a11, a12, a13, a14, a15] [v0, v1, v2, v3] most := fun h => by
        have := h.2 v1 (by simp)
        unfold inB at this
        omega
      show ([.i 0, .i 0, .i 0, .i 0, .i 1] : List DV) = [.i (appI [a0, a1, a2, a3, a4, a5, a6, a7, a8, a9, a10, a11, a12, a13, a14, a15] [v0, v1, v2, v3] most 0), .i (appI [a0, a1, a2, a3, a4, a5, a6, a7, a8, a9, a10, a11, a12, a13, a14, a15] [v0, v1, v2, v3] most 1), .i (appI [a0, a1, a2, a3, a4, a5, a6, a7, a8, a9, a10, a11, a12, a13, a14, a15] [v0, v1, v2, v3] most 2), .i (appI [a0, a1, a2, a3, a4, a5, a6, a7, a8, a9, a10, a11, a12, a13, a14, a15] [v0, v1, v2, v3] most 3), .i (appE [a0, a1, a2, a3, a4, a5, a6, a7, a8, a9, a10, a11, a12, a13, a14, a15] [v0, v1, v2, v3] most)]
      rw [(app_bad hbad).2]
      simp only [(app_bad hbad).1]
    have h1 := of_decide_eq_false (p := 268435456 < v1 ∨ v1 < -268435456) g
    clear g
    refine h_call (c := c24) rfl (show bigP 268435456 by unfold bigP; omega) fun rs hk hr => ?_
    have hr : rs = [.b (decide (268435456 < v2 ∨ v2 < -268435456))] := hr
    subst hr
    refine h_ite (fun g => ?_) (fun g => ?_)
    · have g := of_decide_eq_true (p := 268435456 < v2 ∨ v2 < -268435456) g
      have hbad : ¬ appOk [a0, a1, a2, a3, a4, a5, a6, a7, a8, a9, a10, a11, a12, a13, a14, a15] [v0, v1, v2, v3] most := fun h => by
        have := h.2 v2 (by simp)
        unfold inB at this
        omega
      show ([.i 0, .i 0, .i 0, .i 0, .i 1] : List DV) = [.i (appI [a0, a1, a2, a3, a4, a5, a6, a7, a8, a9, a10, a11, a12, a13, a14, a15] [v0, v1, v2, v3] most 0), .i (appI [a0, a1, a2, a3, a4, a5, a6, a7, a8, a9, a10, a11, a12, a13, a14, a15] [v0, v1, v2, v3] most 1), .i (appI [a0, a1, a2, a3, a4, a5, a6, a7, a8, a9, a10, a11, a12, a13, a14, a15] [v0, v1, v2, v3] most 2), .i (appI [a0, a1, a2, a3, a4, a5, a6, a7, a8, a9, a10, a11, a12, a13, a14, a15] [v0, v1, v2, v3] most 3), .i (appE [a0, a1, a2, a3, a4, a5, a6, a7, a8, a9, a10, a11, a12, a13, a14, a15] [v0, v1, v2, v3] most)]
      rw [(app_bad hbad).2]
      simp only [(app_bad hbad).1]
    have h2 := of_decide_eq_false (p := 268435456 < v2 ∨ v2 < -268435456) g
    clear g
    refine h_call (c := c24) rfl (show bigP 268435456 by unfold bigP; omega) fun rs hk hr => ?_
    have hr : rs = [.b (decide (268435456 < v3 ∨ v3 < -268435456))] := hr
    subst hr
    refine h_ite (fun g => ?_) (fun g => ?_)
    · have g := of_decide_eq_true (p := 268435456 < v3 ∨ v3 < -268435456) g
      have hbad : ¬ appOk [a0, a1, a2, a3, a4, a5, a6, a7, a8, a9, a10, a11, a12, a13, a14, a15] [v0, v1, v2, v3] most := fun h => by
        have := h.2 v3 (by simp)
        unfold inB at this
        omega
      show ([.i 0, .i 0, .i 0, .i 0, .i 1] : List DV) = [.i (appI [a0, a1, a2, a3, a4, a5, a6, a7, a8, a9, a10, a11, a12, a13, a14, a15] [v0, v1, v2, v3] most 0), .i (appI [a0, a1, a2, a3, a4, a5, a6, a7, a8, a9, a10, a11, a12, a13, a14, a15] [v0, v1, v2, v3] most 1), .i (appI [a0, a1, a2, a3, a4, a5, a6, a7, a8, a9, a10, a11, a12, a13, a14, a15] [v0, v1, v2, v3] most 2), .i (appI [a0, a1, a2, a3, a4, a5, a6, a7, a8, a9, a10, a11, a12, a13, a14, a15] [v0, v1, v2, v3] most 3), .i (appE [a0, a1, a2, a3, a4, a5, a6, a7, a8, a9, a10, a11, a12, a13, a14, a15] [v0, v1, v2, v3] most)]
      rw [(app_bad hbad).2]
      simp only [(app_bad hbad).1]
    have h3 := of_decide_eq_false (p := 268435456 < v3 ∨ v3 < -268435456) g
    clear g
    have hV : rightP [v0, v1, v2, v3] := by
      intro x hx
      simp only [List.mem_cons, List.not_mem_nil, or_false] at hx
      rcases hx with rfl | rfl | rfl | rfl <;> unfold inB <;> omega
    have hok : appOk [a0, a1, a2, a3, a4, a5, a6, a7, a8, a9, a10, a11, a12, a13, a14, a15] [v0, v1, v2, v3] most := ⟨⟨hA, by omega, by omega⟩, hV⟩
    refine h_call (c := c25) rfl (show ([[a0], [a1], [a2], [a3], [a4], [a5], [a6], [a7], [a8], [a9], [a10], [a11], [a12], [a13], [a14], [a15]] : List (List Int)).length = 16 ∧ ([[v0], [v1], [v2], [v3]] : List (List Int)).length = 4 ∧ (0 ≤ (0 : Int) ∧ (0 : Int) ≤ 3) ∧ _ ∧ _ from ⟨rfl, rfl, by omega, rows_ok hA, rows_ok hV⟩) fun rs hk hr => ?_
    have hr : rs = [.i (appE1 [a0, a1, a2, a3, a4, a5, a6, a7, a8, a9, a10, a11, a12, a13, a14, a15] [v0, v1, v2, v3] 0)] := hr
    subst hr
    refine h_call (c := c25) rfl (show ([[a0], [a1], [a2], [a3], [a4], [a5], [a6], [a7], [a8], [a9], [a10], [a11], [a12], [a13], [a14], [a15]] : List (List Int)).length = 16 ∧ ([[v0], [v1], [v2], [v3]] : List (List Int)).length = 4 ∧ (0 ≤ (1 : Int) ∧ (1 : Int) ≤ 3) ∧ _ ∧ _ from ⟨rfl, rfl, by omega, rows_ok hA, rows_ok hV⟩) fun rs hk hr => ?_
    have hr : rs = [.i (appE1 [a0, a1, a2, a3, a4, a5, a6, a7, a8, a9, a10, a11, a12, a13, a14, a15] [v0, v1, v2, v3] 1)] := hr
    subst hr
    refine h_call (c := c25) rfl (show ([[a0], [a1], [a2], [a3], [a4], [a5], [a6], [a7], [a8], [a9], [a10], [a11], [a12], [a13], [a14], [a15]] : List (List Int)).length = 16 ∧ ([[v0], [v1], [v2], [v3]] : List (List Int)).length = 4 ∧ (0 ≤ (2 : Int) ∧ (2 : Int) ≤ 3) ∧ _ ∧ _ from ⟨rfl, rfl, by omega, rows_ok hA, rows_ok hV⟩) fun rs hk hr => ?_
    have hr : rs = [.i (appE1 [a0, a1, a2, a3, a4, a5, a6, a7, a8, a9, a10, a11, a12, a13, a14, a15] [v0, v1, v2, v3] 2)] := hr
    subst hr
    refine h_call (c := c25) rfl (show ([[a0], [a1], [a2], [a3], [a4], [a5], [a6], [a7], [a8], [a9], [a10], [a11], [a12], [a13], [a14], [a15]] : List (List Int)).length = 16 ∧ ([[v0], [v1], [v2], [v3]] : List (List Int)).length = 4 ∧ (0 ≤ (3 : Int) ∧ (3 : Int) ≤ 3) ∧ _ ∧ _ from ⟨rfl, rfl, by omega, rows_ok hA, rows_ok hV⟩) fun rs hk hr => ?_
    have hr : rs = [.i (appE1 [a0, a1, a2, a3, a4, a5, a6, a7, a8, a9, a10, a11, a12, a13, a14, a15] [v0, v1, v2, v3] 3)] := hr
    subst hr
    refine h_call (c := c24) rfl (show bigP most by unfold bigP; omega) fun rs hk hr => ?_
    have hr : rs = [.b (decide (most < appE1 [a0, a1, a2, a3, a4, a5, a6, a7, a8, a9, a10, a11, a12, a13, a14, a15] [v0, v1, v2, v3] 0 ∨ appE1 [a0, a1, a2, a3, a4, a5, a6, a7, a8, a9, a10, a11, a12, a13, a14, a15] [v0, v1, v2, v3] 0 < -most))] := hr
    subst hr
    refine h_ite (fun g => ?_) (fun g => ?_)
    · have g := of_decide_eq_true (p := most < appE1 [a0, a1, a2, a3, a4, a5, a6, a7, a8, a9, a10, a11, a12, a13, a14, a15] [v0, v1, v2, v3] 0 ∨ appE1 [a0, a1, a2, a3, a4, a5, a6, a7, a8, a9, a10, a11, a12, a13, a14, a15] [v0, v1, v2, v3] 0 < -most) g
      have hfar : ¬ near most (appL [a0, a1, a2, a3, a4, a5, a6, a7, a8, a9, a10, a11, a12, a13, a14, a15] [v0, v1, v2, v3]) := fun h => by
        have := h (appE1 [a0, a1, a2, a3, a4, a5, a6, a7, a8, a9, a10, a11, a12, a13, a14, a15] [v0, v1, v2, v3] 0) (by simp [appL])
        omega
      show ([.i 0, .i 0, .i 0, .i 0, .i 4] : List DV) = [.i (appI [a0, a1, a2, a3, a4, a5, a6, a7, a8, a9, a10, a11, a12, a13, a14, a15] [v0, v1, v2, v3] most 0), .i (appI [a0, a1, a2, a3, a4, a5, a6, a7, a8, a9, a10, a11, a12, a13, a14, a15] [v0, v1, v2, v3] most 1), .i (appI [a0, a1, a2, a3, a4, a5, a6, a7, a8, a9, a10, a11, a12, a13, a14, a15] [v0, v1, v2, v3] most 2), .i (appI [a0, a1, a2, a3, a4, a5, a6, a7, a8, a9, a10, a11, a12, a13, a14, a15] [v0, v1, v2, v3] most 3), .i (appE [a0, a1, a2, a3, a4, a5, a6, a7, a8, a9, a10, a11, a12, a13, a14, a15] [v0, v1, v2, v3] most)]
      rw [(app_far hok hfar).2]
      simp only [(app_far hok hfar).1]
    have k0 := of_decide_eq_false (p := most < appE1 [a0, a1, a2, a3, a4, a5, a6, a7, a8, a9, a10, a11, a12, a13, a14, a15] [v0, v1, v2, v3] 0 ∨ appE1 [a0, a1, a2, a3, a4, a5, a6, a7, a8, a9, a10, a11, a12, a13, a14, a15] [v0, v1, v2, v3] 0 < -most) g
    clear g
    refine h_call (c := c24) rfl (show bigP most by unfold bigP; omega) fun rs hk hr => ?_
    have hr : rs = [.b (decide (most < appE1 [a0, a1, a2, a3, a4, a5, a6, a7, a8, a9, a10, a11, a12, a13, a14, a15] [v0, v1, v2, v3] 1 ∨ appE1 [a0, a1, a2, a3, a4, a5, a6, a7, a8, a9, a10, a11, a12, a13, a14, a15] [v0, v1, v2, v3] 1 < -most))] := hr
    subst hr
    refine h_ite (fun g => ?_) (fun g => ?_)
    · have g := of_decide_eq_true (p := most < appE1 [a0, a1, a2, a3, a4, a5, a6, a7, a8, a9, a10, a11, a12, a13, a14, a15] [v0, v1, v2, v3] 1 ∨ appE1 [a0, a1, a2, a3, a4, a5, a6, a7, a8, a9, a10, a11, a12, a13, a14, a15] [v0, v1, v2, v3] 1 < -most) g
      have hfar : ¬ near most (appL [a0, a1, a2, a3, a4, a5, a6, a7, a8, a9, a10, a11, a12, a13, a14, a15] [v0, v1, v2, v3]) := fun h => by
        have := h (appE1 [a0, a1, a2, a3, a4, a5, a6, a7, a8, a9, a10, a11, a12, a13, a14, a15] [v0, v1, v2, v3] 1) (by simp [appL])
        omega
      show ([.i 0, .i 0, .i 0, .i 0, .i 4] : List DV) = [.i (appI [a0, a1, a2, a3, a4, a5, a6, a7, a8, a9, a10, a11, a12, a13, a14, a15] [v0, v1, v2, v3] most 0), .i (appI [a0, a1, a2, a3, a4, a5, a6, a7, a8, a9, a10, a11, a12, a13, a14, a15] [v0, v1, v2, v3] most 1), .i (appI [a0, a1, a2, a3, a4, a5, a6, a7, a8, a9, a10, a11, a12, a13, a14, a15] [v0, v1, v2, v3] most 2), .i (appI [a0, a1, a2, a3, a4, a5, a6, a7, a8, a9, a10, a11, a12, a13, a14, a15] [v0, v1, v2, v3] most 3), .i (appE [a0, a1, a2, a3, a4, a5, a6, a7, a8, a9, a10, a11, a12, a13, a14, a15] [v0, v1, v2, v3] most)]
      rw [(app_far hok hfar).2]
      simp only [(app_far hok hfar).1]
    have k1 := of_decide_eq_false (p := most < appE1 [a0, a1, a2, a3, a4, a5, a6, a7, a8, a9, a10, a11, a12, a13, a14, a15] [v0, v1, v2, v3] 1 ∨ appE1 [a0, a1, a2, a3, a4, a5, a6, a7, a8, a9, a10, a11, a12, a13, a14, a15] [v0, v1, v2, v3] 1 < -most) g
    clear g
    refine h_call (c := c24) rfl (show bigP most by unfold bigP; omega) fun rs hk hr => ?_
    have hr : rs = [.b (decide (most < appE1 [a0, a1, a2, a3, a4, a5, a6, a7, a8, a9, a10, a11, a12, a13, a14, a15] [v0, v1, v2, v3] 2 ∨ appE1 [a0, a1, a2, a3, a4, a5, a6, a7, a8, a9, a10, a11, a12, a13, a14, a15] [v0, v1, v2, v3] 2 < -most))] := hr
    subst hr
    refine h_ite (fun g => ?_) (fun g => ?_)
    · have g := of_decide_eq_true (p := most < appE1 [a0, a1, a2, a3, a4, a5, a6, a7, a8, a9, a10, a11, a12, a13, a14, a15] [v0, v1, v2, v3] 2 ∨ appE1 [a0, a1, a2, a3, a4, a5, a6, a7, a8, a9, a10, a11, a12, a13, a14, a15] [v0, v1, v2, v3] 2 < -most) g
      have hfar : ¬ near most (appL [a0, a1, a2, a3, a4, a5, a6, a7, a8, a9, a10, a11, a12, a13, a14, a15] [v0, v1, v2, v3]) := fun h => by
        have := h (appE1 [a0, a1, a2, a3, a4, a5, a6, a7, a8, a9, a10, a11, a12, a13, a14, a15] [v0, v1, v2, v3] 2) (by simp [appL])
        omega
      show ([.i 0, .i 0, .i 0, .i 0, .i 4] : List DV) = [.i (appI [a0, a1, a2, a3, a4, a5, a6, a7, a8, a9, a10, a11, a12, a13, a14, a15] [v0, v1, v2, v3] most 0), .i (appI [a0, a1, a2, a3, a4, a5, a6, a7, a8, a9, a10, a11, a12, a13, a14, a15] [v0, v1, v2, v3] most 1), .i (appI [a0, a1, a2, a3, a4, a5, a6, a7, a8, a9, a10, a11, a12, a13, a14, a15] [v0, v1, v2, v3] most 2), .i (appI [a0, a1, a2, a3, a4, a5, a6, a7, a8, a9, a10, a11, a12, a13, a14, a15] [v0, v1, v2, v3] most 3), .i (appE [a0, a1, a2, a3, a4, a5, a6, a7, a8, a9, a10, a11, a12, a13, a14, a15] [v0, v1, v2, v3] most)]
      rw [(app_far hok hfar).2]
      simp only [(app_far hok hfar).1]
    have k2 := of_decide_eq_false (p := most < appE1 [a0, a1, a2, a3, a4, a5, a6, a7, a8, a9, a10, a11, a12, a13, a14, a15] [v0, v1, v2, v3] 2 ∨ appE1 [a0, a1, a2, a3, a4, a5, a6, a7, a8, a9, a10, a11, a12, a13, a14, a15] [v0, v1, v2, v3] 2 < -most) g
    clear g
    refine h_call (c := c24) rfl (show bigP most by unfold bigP; omega) fun rs hk hr => ?_
    have hr : rs = [.b (decide (most < appE1 [a0, a1, a2, a3, a4, a5, a6, a7, a8, a9, a10, a11, a12, a13, a14, a15] [v0, v1, v2, v3] 3 ∨ appE1 [a0, a1, a2, a3, a4, a5, a6, a7, a8, a9, a10, a11, a12, a13, a14, a15] [v0, v1, v2, v3] 3 < -most))] := hr
    subst hr
    refine h_ite (fun g => ?_) (fun g => ?_)
    · have g := of_decide_eq_true (p := most < appE1 [a0, a1, a2, a3, a4, a5, a6, a7, a8, a9, a10, a11, a12, a13, a14, a15] [v0, v1, v2, v3] 3 ∨ appE1 [a0, a1, a2, a3, a4, a5, a6, a7, a8, a9, a10, a11, a12, a13, a14, a15] [v0, v1, v2, v3] 3 < -most) g
      have hfar : ¬ near most (appL [a0, a1, a2, a3, a4, a5, a6, a7, a8, a9, a10, a11, a12, a13, a14, a15] [v0, v1, v2, v3]) := fun h => by
        have := h (appE1 [a0, a1, a2, a3, a4, a5, a6, a7, a8, a9, a10, a11, a12, a13, a14, a15] [v0, v1, v2, v3] 3) (by simp [appL])
        omega
      show ([.i 0, .i 0, .i 0, .i 0, .i 4] : List DV) = [.i (appI [a0, a1, a2, a3, a4, a5, a6, a7, a8, a9, a10, a11, a12, a13, a14, a15] [v0, v1, v2, v3] most 0), .i (appI [a0, a1, a2, a3, a4, a5, a6, a7, a8, a9, a10, a11, a12, a13, a14, a15] [v0, v1, v2, v3] most 1), .i (appI [a0, a1, a2, a3, a4, a5, a6, a7, a8, a9, a10, a11, a12, a13, a14, a15] [v0, v1, v2, v3] most 2), .i (appI [a0, a1, a2, a3, a4, a5, a6, a7, a8, a9, a10, a11, a12, a13, a14, a15] [v0, v1, v2, v3] most 3), .i (appE [a0, a1, a2, a3, a4, a5, a6, a7, a8, a9, a10, a11, a12, a13, a14, a15] [v0, v1, v2, v3] most)]
      rw [(app_far hok hfar).2]
      simp only [(app_far hok hfar).1]
    have k3 := of_decide_eq_false (p := most < appE1 [a0, a1, a2, a3, a4, a5, a6, a7, a8, a9, a10, a11, a12, a13, a14, a15] [v0, v1, v2, v3] 3 ∨ appE1 [a0, a1, a2, a3, a4, a5, a6, a7, a8, a9, a10, a11, a12, a13, a14, a15] [v0, v1, v2, v3] 3 < -most) g
    clear g
    have hnear : near most (appL [a0, a1, a2, a3, a4, a5, a6, a7, a8, a9, a10, a11, a12, a13, a14, a15] [v0, v1, v2, v3]) := by
      intro x hx
      simp only [appL, List.mem_cons, List.not_mem_nil, or_false] at hx
      rcases hx with rfl | rfl | rfl | rfl <;> omega
    show ([.i (appE1 [a0, a1, a2, a3, a4, a5, a6, a7, a8, a9, a10, a11, a12, a13, a14, a15] [v0, v1, v2, v3] 0), .i (appE1 [a0, a1, a2, a3, a4, a5, a6, a7, a8, a9, a10, a11, a12, a13, a14, a15] [v0, v1, v2, v3] 1), .i (appE1 [a0, a1, a2, a3, a4, a5, a6, a7, a8, a9, a10, a11, a12, a13, a14, a15] [v0, v1, v2, v3] 2), .i (appE1 [a0, a1, a2, a3, a4, a5, a6, a7, a8, a9, a10, a11, a12, a13, a14, a15] [v0, v1, v2, v3] 3), .i 0] : List DV) = [.i (appI [a0, a1, a2, a3, a4, a5, a6, a7, a8, a9, a10, a11, a12, a13, a14, a15] [v0, v1, v2, v3] most 0), .i (appI [a0, a1, a2, a3, a4, a5, a6, a7, a8, a9, a10, a11, a12, a13, a14, a15] [v0, v1, v2, v3] most 1), .i (appI [a0, a1, a2, a3, a4, a5, a6, a7, a8, a9, a10, a11, a12, a13, a14, a15] [v0, v1, v2, v3] most 2), .i (appI [a0, a1, a2, a3, a4, a5, a6, a7, a8, a9, a10, a11, a12, a13, a14, a15] [v0, v1, v2, v3] most 3), .i (appE [a0, a1, a2, a3, a4, a5, a6, a7, a8, a9, a10, a11, a12, a13, a14, a15] [v0, v1, v2, v3] most)]
    rw [(app_ok hok hnear).2]
    simp only [(app_ok hok hnear).1]
    rfl
  · cases hp
theorem ok10 : ContractOk Try.prog 10 (cApply sg10) := by
  refine contract_of (Γ := knownOf [(15, cRight sg15), (26, c26), (27, c27), (28, c28)]) (known_cons ok15 rfl (known_cons ok26 rfl (known_cons ok27 rfl (known_cons ok28 rfl known_nil)))) Try.func10 rfl rfl is10 fun ds hk hp => ?_
  split at hp
  · skip
    rename_i a0 a1 a2 a3 a4 a5 a6 a7 a8 a9 a10 a11 a12 a13 a14 a15 v0 v1 v2 v3 most
    refine h_call (c := cRight sg15) rfl trivial fun rs hk hr => ?_
    have hr : rs = [.b (decide (rightP [a0, a1, a2, a3, a4, a5, a6, a7, a8, a9, a10, a11, a12, a13, a14, a15]))] := hr
    subst hr
    refine h_callg (c := c26) rfl (fun _ => show bigP 268435456 by unfold bigP; omega) fun rs hk hr0 => ?_
    obtain ⟨i0, rfl⟩ := kinds1b hk
    have hr0 : ((decide (rightP [a0, a1, a2, a3, a4, a5, a6, a7, a8, a9, a10, a11, a12, a13, a14, a15]) && decide (0 ≤ most)) && decide (most ≤ 68719476736)) = true → [DV.b i0] = [DV.b (decide (-268435456 ≤ v0 ∧ v0 ≤ 268435456))] := hr0
    refine h_callg (c := c26) rfl (fun _ => show bigP 268435456 by unfold bigP; omega) fun rs hk hr1 => ?_
    obtain ⟨i1, rfl⟩ := kinds1b hk
    have hr1 : (((decide (rightP [a0, a1, a2, a3, a4, a5, a6, a7, a8, a9, a10, a11, a12, a13, a14, a15]) && decide (0 ≤ most)) && decide (most ≤ 68719476736)) && i0) = true → [DV.b i1] = [DV.b (decide (-268435456 ≤ v1 ∧ v1 ≤ 268435456))] := hr1
    refine h_callg (c := c26) rfl (fun _ => show bigP 268435456 by unfold bigP; omega) fun rs hk hr2 => ?_
    obtain ⟨i2, rfl⟩ := kinds1b hk
    have hr2 : ((((decide (rightP [a0, a1, a2, a3, a4, a5, a6, a7, a8, a9, a10, a11, a12, a13, a14, a15]) && decide (0 ≤ most)) && decide (most ≤ 68719476736)) && i0) && i1) = true → [DV.b i2] = [DV.b (decide (-268435456 ≤ v2 ∧ v2 ≤ 268435456))] := hr2
    refine h_callg (c := c26) rfl (fun _ => show bigP 268435456 by unfold bigP; omega) fun rs hk hr3 => ?_
    obtain ⟨i3, rfl⟩ := kinds1b hk
    have hr3 : (((((decide (rightP [a0, a1, a2, a3, a4, a5, a6, a7, a8, a9, a10, a11, a12, a13, a14, a15]) && decide (0 ≤ most)) && decide (most ≤ 68719476736)) && i0) && i1) && i2) = true → [DV.b i3] = [DV.b (decide (-268435456 ≤ v3 ∧ v3 ≤ 268435456))] := hr3
    have hall : ((((((decide (rightP [a0, a1, a2, a3, a4, a5, a6, a7, a8, a9, a10, a11, a12, a13, a14, a15]) && decide (0 ≤ most)) && decide (most ≤ 68719476736)) && i0) && i1) && i2) && i3) = true ↔ appOk [a0, a1, a2, a3, a4, a5, a6, a7, a8, a9, a10, a11, a12, a13, a14, a15] [v0, v1, v2, v3] most := by
      simp only [Bool.and_eq_true, decide_eq_true_eq] at hr0 hr1 hr2 hr3 ⊢
      constructor
      · rintro ⟨⟨⟨⟨⟨⟨h, m1⟩, m2⟩, h0⟩, h1⟩, h2⟩, h3⟩
        have e0 := b_of (hr0 ⟨⟨h, m1⟩, m2⟩)
        have e1 := b_of (hr1 ⟨⟨⟨h, m1⟩, m2⟩, h0⟩)
        have e2 := b_of (hr2 ⟨⟨⟨⟨h, m1⟩, m2⟩, h0⟩, h1⟩)
        have e3 := b_of (hr3 ⟨⟨⟨⟨⟨h, m1⟩, m2⟩, h0⟩, h1⟩, h2⟩)
        rw [h0] at e0
        rw [h1] at e1
        rw [h2] at e2
        rw [h3] at e3
        have e0 := of_decide_eq_true e0.symm
        have e1 := of_decide_eq_true e1.symm
        have e2 := of_decide_eq_true e2.symm
        have e3 := of_decide_eq_true e3.symm
        refine ⟨⟨h, m1, m2⟩, fun x hx => ?_⟩
        simp only [List.mem_cons, List.not_mem_nil, or_false] at hx
        rcases hx with rfl | rfl | rfl | rfl
        · exact e0
        · exact e1
        · exact e2
        · exact e3
      · rintro ⟨⟨h, m1, m2⟩, hv⟩
        have e0 : i0 = true := by rw [b_of (hr0 ⟨⟨h, m1⟩, m2⟩)]; exact decide_eq_true (hv v0 (by simp))
        have e1 : i1 = true := by rw [b_of (hr1 ⟨⟨⟨h, m1⟩, m2⟩, e0⟩)]; exact decide_eq_true (hv v1 (by simp))
        have e2 : i2 = true := by rw [b_of (hr2 ⟨⟨⟨⟨h, m1⟩, m2⟩, e0⟩, e1⟩)]; exact decide_eq_true (hv v2 (by simp))
        have e3 : i3 = true := by rw [b_of (hr3 ⟨⟨⟨⟨⟨h, m1⟩, m2⟩, e0⟩, e1⟩, e2⟩)]; exact decide_eq_true (hv v3 (by simp))
        exact ⟨⟨⟨⟨⟨⟨h, m1⟩, m2⟩, e0⟩, e1⟩, e2⟩, e3⟩
    refine h_ite (fun g => ?_) (fun g => ?_)
    · have g : (!((((((decide (rightP [a0, a1, a2, a3, a4, a5, a6, a7, a8, a9, a10, a11, a12, a13, a14, a15]) && decide (0 ≤ most)) && decide (most ≤ 68719476736)) && i0) && i1) && i2) && i3)) = true := g
      rw [Bool.not_eq_true'] at g
      have hbad : ¬ appOk [a0, a1, a2, a3, a4, a5, a6, a7, a8, a9, a10, a11, a12, a13, a14, a15] [v0, v1, v2, v3] most := fun h => by rw [hall.2 h] at g; cases g
      show ([.i 0, .i 0, .i 0, .i 0, .i 1] : List DV) = [.i (appI [a0, a1, a2, a3, a4, a5, a6, a7, a8, a9, a10, a11, a12, a13, a14, a15] [v0, v1, v2, v3] most 0), .i (appI [a0, a1, a2, a3, a4, a5, a6, a7, a8, a9, a10, a11, a12, a13, a14, a15] [v0, v1, v2, v3] most 1), .i (appI [a0, a1, a2, a3, a4, a5, a6, a7, a8, a9, a10, a11, a12, a13, a14, a15] [v0, v1, v2, v3] most 2), .i (appI [a0, a1, a2, a3, a4, a5, a6, a7, a8, a9, a10, a11, a12, a13, a14, a15] [v0, v1, v2, v3] most 3), .i (appE [a0, a1, a2, a3, a4, a5, a6, a7, a8, a9, a10, a11, a12, a13, a14, a15] [v0, v1, v2, v3] most)]
      rw [(app_bad hbad).2]
      simp only [(app_bad hbad).1]
    have g : (!((((((decide (rightP [a0, a1, a2, a3, a4, a5, a6, a7, a8, a9, a10, a11, a12, a13, a14, a15]) && decide (0 ≤ most)) && decide (most ≤ 68719476736)) && i0) && i1) && i2) && i3)) = false := g
    rw [Bool.not_eq_false'] at g
    have hok := hall.1 g
    clear hall g hr0 hr1 hr2 hr3
    obtain ⟨⟨hA, hm1, hm2⟩, hV⟩ := id hok
    have hA0 : inB a0 := hA a0 (by simp)
    have hA1 : inB a1 := hA a1 (by simp)
    have hA2 : inB a2 := hA a2 (by simp)
    have hA3 : inB a3 := hA a3 (by simp)
    have hA4 : inB a4 := hA a4 (by simp)
    have hA5 : inB a5 := hA a5 (by simp)
    have hA6 : inB a6 := hA a6 (by simp)
    have hA7 : inB a7 := hA a7 (by simp)
    have hA8 : inB a8 := hA a8 (by simp)
    have hA9 : inB a9 := hA a9 (by simp)
    have hA10 : inB a10 := hA a10 (by simp)
    have hA11 : inB a11 := hA a11 (by simp)
    have hA12 : inB a12 := hA a12 (by simp)
    have hA13 : inB a13 := hA a13 (by simp)
    have hA14 : inB a14 := hA a14 (by simp)
    have hA15 : inB a15 := hA a15 (by simp)
    have hV0 : inB v0 := hV v0 (by simp)
    have hV1 : inB v1 := hV v1 (by simp)
    have hV2 : inB v2 := hV v2 (by simp)
    have hV3 : inB v3 := hV v3 (by simp)
    refine h_call (c := c27) rfl (show (0 ≤ (0 : Int) ∧ (0 : Int) ≤ 3) ∧ 0 ≤ (0 : Int) ∧ (0 : Int) ≤ 3 by omega) fun rs hk hr => ?_
    have hr : rs = [.i a0] := hr
    subst hr
    refine h_needR (a0 * v0) rfl (nd1 hA0 hV0) ?_
    refine h_call (c := c27) rfl (show (0 ≤ (0 : Int) ∧ (0 : Int) ≤ 3) ∧ 0 ≤ (1 : Int) ∧ (1 : Int) ≤ 3 by omega) fun rs hk hr => ?_
    have hr : rs = [.i a1] := hr
    subst hr
    refine h_needR (a1 * v1) rfl (nd1 hA1 hV1) ?_
    refine h_needR (a0 * v0 + a1 * v1) rfl (nd2 hA0 hV0 hA1 hV1) ?_
    refine h_call (c := c27) rfl (show (0 ≤ (0 : Int) ∧ (0 : Int) ≤ 3) ∧ 0 ≤ (2 : Int) ∧ (2 : Int) ≤ 3 by omega) fun rs hk hr => ?_
    have hr : rs = [.i a2] := hr
    subst hr
    refine h_needR (a2 * v2) rfl (nd1 hA2 hV2) ?_
    refine h_needR (a0 * v0 + a1 * v1 + a2 * v2) rfl (nd3 hA0 hV0 hA1 hV1 hA2 hV2) ?_
    refine h_call (c := c27) rfl (show (0 ≤ (0 : Int) ∧ (0 : Int) ≤ 3) ∧ 0 ≤ (3 : Int) ∧ (3 : Int) ≤ 3 by omega) fun rs hk hr => ?_
    have hr : rs = [.i a3] := hr
    subst hr
    refine h_needR (a3 * v3) rfl (nd1 hA3 hV3) ?_
    refine h_needR (a0 * v0 + a1 * v1 + a2 * v2 + a3 * v3) rfl (nd4 hA0 hV0 hA1 hV1 hA2 hV2 hA3 hV3) ?_
    refine h_call (c := c28) rfl (show bigP (a0 * v0 + a1 * v1 + a2 * v2 + a3 * v3) from big4 hA0 hV0 hA1 hV1 hA2 hV2 hA3 hV3) fun rs hk hr => ?_
    have hr : rs = [.i (appE1 [a0, a1, a2, a3, a4, a5, a6, a7, a8, a9, a10, a11, a12, a13, a14, a15] [v0, v1, v2, v3] 0)] := hr
    subst hr
    refine h_call (c := c27) rfl (show (0 ≤ (1 : Int) ∧ (1 : Int) ≤ 3) ∧ 0 ≤ (0 : Int) ∧ (0 : Int) ≤ 3 by omega) fun rs hk hr => ?_
    have hr : rs = [.i a4] := hr
    subst hr
    refine h_needR (a4 * v0) rfl (nd1 hA4 hV0) ?_
    refine h_call (c := c27) rfl (show (0 ≤ (1 : Int) ∧ (1 : Int) ≤ 3) ∧ 0 ≤ (1 : Int) ∧ (1 : Int) ≤ 3 by omega) fun rs hk hr => ?_
    have hr : rs = [.i a5] := hr
    subst hr
    refine h_needR (a5 * v1) rfl (nd1 hA5 hV1) ?_
    refine h_needR (a4 * v0 + a5 * v1) rfl (nd2 hA4 hV0 hA5 hV1) ?_
    refine h_call (c := c27) rfl (show (0 ≤ (1 : Int) ∧ (1 : Int) ≤ 3) ∧ 0 ≤ (2 : Int) ∧ (2 : Int) ≤ 3 by omega) fun rs hk hr => ?_
    have hr : rs = [.i a6] := hr
    subst hr
    refine h_needR (a6 * v2) rfl (nd1 hA6 hV2) ?_
    refine h_needR (a4 * v0 + a5 * v1 + a6 * v2) rfl (nd3 hA4 hV0 hA5 hV1 hA6 hV2) ?_
    refine h_call (c := c27) rfl (show (0 ≤ (1 : Int) ∧ (1 : Int) ≤ 3) ∧ 0 ≤ (3 : Int) ∧ (3 : Int) ≤ 3 by omega) fun rs hk hr => ?_
    have hr : rs = [.i a7] := hr
    subst hr
    refine h_needR (a7 * v3) rfl (nd1 hA7 hV3) ?_
    refine h_needR (a4 * v0 + a5 * v1 + a6 * v2 + a7 * v3) rfl (nd4 hA4 hV0 hA5 hV1 hA6 hV2 hA7 hV3) ?_
    refine h_call (c := c28) rfl (show bigP (a4 * v0 + a5 * v1 + a6 * v2 + a7 * v3) from big4 hA4 hV0 hA5 hV1 hA6 hV2 hA7 hV3) fun rs hk hr => ?_
    have hr : rs = [.i (appE1 [a0, a1, a2, a3, a4, a5, a6, a7, a8, a9, a10, a11, a12, a13, a14, a15] [v0, v1, v2, v3] 1)] := hr
    subst hr
    refine h_call (c := c27) rfl (show (0 ≤ (2 : Int) ∧ (2 : Int) ≤ 3) ∧ 0 ≤ (0 : Int) ∧ (0 : Int) ≤ 3 by omega) fun rs hk hr => ?_
    have hr : rs = [.i a8] := hr
    subst hr
    refine h_needR (a8 * v0) rfl (nd1 hA8 hV0) ?_
    refine h_call (c := c27) rfl (show (0 ≤ (2 : Int) ∧ (2 : Int) ≤ 3) ∧ 0 ≤ (1 : Int) ∧ (1 : Int) ≤ 3 by omega) fun rs hk hr => ?_
    have hr : rs = [.i a9] := hr
    subst hr
    refine h_needR (a9 * v1) rfl (nd1 hA9 hV1) ?_
    refine h_needR (a8 * v0 + a9 * v1) rfl (nd2 hA8 hV0 hA9 hV1) ?_
    refine h_call (c := c27) rfl (show (0 ≤ (2 : Int) ∧ (2 : Int) ≤ 3) ∧ 0 ≤ (2 : Int) ∧ (2 : Int) ≤ 3 by omega) fun rs hk hr => ?_
    have hr : rs = [.i a10] := hr
    subst hr
    refine h_needR (a10 * v2) rfl (nd1 hA10 hV2) ?_
    refine h_needR (a8 * v0 + a9 * v1 + a10 * v2) rfl (nd3 hA8 hV0 hA9 hV1 hA10 hV2) ?_
    refine h_call (c := c27) rfl (show (0 ≤ (2 : Int) ∧ (2 : Int) ≤ 3) ∧ 0 ≤ (3 : Int) ∧ (3 : Int) ≤ 3 by omega) fun rs hk hr => ?_
    have hr : rs = [.i a11] := hr
    subst hr
    refine h_needR (a11 * v3) rfl (nd1 hA11 hV3) ?_
    refine h_needR (a8 * v0 + a9 * v1 + a10 * v2 + a11 * v3) rfl (nd4 hA8 hV0 hA9 hV1 hA10 hV2 hA11 hV3) ?_
    refine h_call (c := c28) rfl (show bigP (a8 * v0 + a9 * v1 + a10 * v2 + a11 * v3) from big4 hA8 hV0 hA9 hV1 hA10 hV2 hA11 hV3) fun rs hk hr => ?_
    have hr : rs = [.i (appE1 [a0, a1, a2, a3, a4, a5, a6, a7, a8, a9, a10, a11, a12, a13, a14, a15] [v0, v1, v2, v3] 2)] := hr
    subst hr
    refine h_call (c := c27) rfl (show (0 ≤ (3 : Int) ∧ (3 : Int) ≤ 3) ∧ 0 ≤ (0 : Int) ∧ (0 : Int) ≤ 3 by omega) fun rs hk hr => ?_
    have hr : rs = [.i a12] := hr
    subst hr
    refine h_needR (a12 * v0) rfl (nd1 hA12 hV0) ?_
    refine h_call (c := c27) rfl (show (0 ≤ (3 : Int) ∧ (3 : Int) ≤ 3) ∧ 0 ≤ (1 : Int) ∧ (1 : Int) ≤ 3 by omega) fun rs hk hr => ?_
    have hr : rs = [.i a13] := hr
    subst hr
    refine h_needR (a13 * v1) rfl (nd1 hA13 hV1) ?_
    refine h_needR (a12 * v0 + a13 * v1) rfl (nd2 hA12 hV0 hA13 hV1) ?_
    refine h_call (c := c27) rfl (show (0 ≤ (3 : Int) ∧ (3 : Int) ≤ 3) ∧ 0 ≤ (2 : Int) ∧ (2 : Int) ≤ 3 by omega) fun rs hk hr => ?_
    have hr : rs = [.i a14] := hr
    subst hr
    refine h_needR (a14 * v2) rfl (nd1 hA14 hV2) ?_
    refine h_needR (a12 * v0 + a13 * v1 + a14 * v2) rfl (nd3 hA12 hV0 hA13 hV1 hA14 hV2) ?_
    refine h_call (c := c27) rfl (show (0 ≤ (3 : Int) ∧ (3 : Int) ≤ 3) ∧ 0 ≤ (3 : Int) ∧ (3 : Int) ≤ 3 by omega) fun rs hk hr => ?_
    have hr : rs = [.i a15] := hr
    subst hr
    refine h_needR (a15 * v3) rfl (nd1 hA15 hV3) ?_
    refine h_needR (a12 * v0 + a13 * v1 + a14 * v2 + a15 * v3) rfl (nd4 hA12 hV0 hA13 hV1 hA14 hV2 hA15 hV3) ?_
    refine h_call (c := c28) rfl (show bigP (a12 * v0 + a13 * v1 + a14 * v2 + a15 * v3) from big4 hA12 hV0 hA13 hV1 hA14 hV2 hA15 hV3) fun rs hk hr => ?_
    have hr : rs = [.i (appE1 [a0, a1, a2, a3, a4, a5, a6, a7, a8, a9, a10, a11, a12, a13, a14, a15] [v0, v1, v2, v3] 3)] := hr
    subst hr
    refine h_call (c := c26) rfl (show bigP most by unfold bigP; omega) fun rs hk hr => ?_
    have hr : rs = [.b (decide (-most ≤ appE1 [a0, a1, a2, a3, a4, a5, a6, a7, a8, a9, a10, a11, a12, a13, a14, a15] [v0, v1, v2, v3] 0 ∧ appE1 [a0, a1, a2, a3, a4, a5, a6, a7, a8, a9, a10, a11, a12, a13, a14, a15] [v0, v1, v2, v3] 0 ≤ most))] := hr
    subst hr
    refine h_ite (fun g => ?_) (fun g => ?_)
    · have g : (!decide (-most ≤ appE1 [a0, a1, a2, a3, a4, a5, a6, a7, a8, a9, a10, a11, a12, a13, a14, a15] [v0, v1, v2, v3] 0 ∧ appE1 [a0, a1, a2, a3, a4, a5, a6, a7, a8, a9, a10, a11, a12, a13, a14, a15] [v0, v1, v2, v3] 0 ≤ most)) = true := g
      rw [Bool.not_eq_true', decide_eq_false_iff_not] at g
      have hfar : ¬ near most (appL [a0, a1, a2, a3, a4, a5, a6, a7, a8, a9, a10, a11, a12, a13, a14, a15] [v0, v1, v2, v3]) := fun h => g (h (appE1 [a0, a1, a2, a3, a4, a5, a6, a7, a8, a9, a10, a11, a12, a13, a14, a15] [v0, v1, v2, v3] 0) (by simp [appL]))
      show ([.i 0, .i 0, .i 0, .i 0, .i 4] : List DV) = [.i (appI [a0, a1, a2, a3, a4, a5, a6, a7, a8, a9, a10, a11, a12, a13, a14, a15] [v0, v1, v2, v3] most 0), .i (appI [a0, a1, a2, a3, a4, a5, a6, a7, a8, a9, a10, a11, a12, a13, a14, a15] [v0, v1, v2, v3] most 1), .i (appI [a0, a1, a2, a3, a4, a5, a6, a7, a8, a9, a10, a11, a12, a13, a14, a15] [v0, v1, v2, v3] most 2), .i (appI [a0, a1, a2, a3, a4, a5, a6, a7, a8, a9, a10, a11, a12, a13, a14, a15] [v0, v1, v2, v3] most 3), .i (appE [a0, a1, a2, a3, a4, a5, a6, a7, a8, a9, a10, a11, a12, a13, a14, a15] [v0, v1, v2, v3] most)]
      rw [(app_far hok hfar).2]
      simp only [(app_far hok hfar).1]
    have g : (!decide (-most ≤ appE1 [a0, a1, a2, a3, a4, a5, a6, a7, a8, a9, a10, a11, a12, a13, a14, a15] [v0, v1, v2, v3] 0 ∧ appE1 [a0, a1, a2, a3, a4, a5, a6, a7, a8, a9, a10, a11, a12, a13, a14, a15] [v0, v1, v2, v3] 0 ≤ most)) = false := g
    rw [Bool.not_eq_false', decide_eq_true_eq] at g
    have k0 := g
    clear g
    refine h_call (c := c26) rfl (show bigP most by unfold bigP; omega) fun rs hk hr => ?_
    have hr : rs = [.b (decide (-most ≤ appE1 [a0, a1, a2, a3, a4, a5, a6, a7, a8, a9, a10, a11, a12, a13, a14, a15] [v0, v1, v2, v3] 1 ∧ appE1 [a0, a1, a2, a3, a4, a5, a6, a7, a8, a9, a10, a11, a12, a13, a14, a15] [v0, v1, v2, v3] 1 ≤ most))] := hr
    subst hr
    refine h_ite (fun g => ?_) (fun g => ?_)
    · have g : (!decide (-most ≤ appE1 [a0, a1, a2, a3, a4, a5, a6, a7, a8, a9, a10, a11, a12, a13, a14, a15] [v0, v1, v2, v3] 1 ∧ appE1 [a0, a1, a2, a3, a4, a5, a6, a7, a8, a9, a10, a11, a12, a13, a14, a15] [v0, v1, v2, v3] 1 ≤ most)) = true := g
      rw [Bool.not_eq_true', decide_eq_false_iff_not] at g
      have hfar : ¬ near most (appL [a0, a1, a2, a3, a4, a5, a6, a7, a8, a9, a10, a11, a12, a13, a14, a15] [v0, v1, v2, v3]) := fun h => g (h (appE1 [a0, a1, a2, a3, a4, a5, a6, a7, a8, a9, a10, a11, a12, a13, a14, a15] [v0, v1, v2, v3] 1) (by simp [appL]))
      show ([.i 0, .i 0, .i 0, .i 0, .i 4] : List DV) = [.i (appI [a0, a1, a2, a3, a4, a5, a6, a7, a8, a9, a10, a11, a12, a13, a14, a15] [v0, v1, v2, v3] most 0), .i (appI [a0, a1, a2, a3, a4, a5, a6, a7, a8, a9, a10, a11, a12, a13, a14, a15] [v0, v1, v2, v3] most 1), .i (appI [a0, a1, a2, a3, a4, a5, a6, a7, a8, a9, a10, a11, a12, a13, a14, a15] [v0, v1, v2, v3] most 2), .i (appI [a0, a1, a2, a3, a4, a5, a6, a7, a8, a9, a10, a11, a12, a13, a14, a15] [v0, v1, v2, v3] most 3), .i (appE [a0, a1, a2, a3, a4, a5, a6, a7, a8, a9, a10, a11, a12, a13, a14, a15] [v0, v1, v2, v3] most)]
      rw [(app_far hok hfar).2]
      simp only [(app_far hok hfar).1]
    have g : (!decide (-most ≤ appE1 [a0, a1, a2, a3, a4, a5, a6, a7, a8, a9, a10, a11, a12, a13, a14, a15] [v0, v1, v2, v3] 1 ∧ appE1 [a0, a1, a2, a3, a4, a5, a6, a7, a8, a9, a10, a11, a12, a13, a14, a15] [v0, v1, v2, v3] 1 ≤ most)) = false := g
    rw [Bool.not_eq_false', decide_eq_true_eq] at g
    have k1 := g
    clear g
    refine h_call (c := c26) rfl (show bigP most by unfold bigP; omega) fun rs hk hr => ?_
    have hr : rs = [.b (decide (-most ≤ appE1 [a0, a1, a2, a3, a4, a5, a6, a7, a8, a9, a10, a11, a12, a13, a14, a15] [v0, v1, v2, v3] 2 ∧ appE1 [a0, a1, a2, a3, a4, a5, a6, a7, a8, a9, a10, a11, a12, a13, a14, a15] [v0, v1, v2, v3] 2 ≤ most))] := hr
    subst hr
    refine h_ite (fun g => ?_) (fun g => ?_)
    · have g : (!decide (-most ≤ appE1 [a0, a1, a2, a3, a4, a5, a6, a7, a8, a9, a10, a11, a12, a13, a14, a15] [v0, v1, v2, v3] 2 ∧ appE1 [a0, a1, a2, a3, a4, a5, a6, a7, a8, a9, a10, a11, a12, a13, a14, a15] [v0, v1, v2, v3] 2 ≤ most)) = true := g
      rw [Bool.not_eq_true', decide_eq_false_iff_not] at g
      have hfar : ¬ near most (appL [a0, a1, a2, a3, a4, a5, a6, a7, a8, a9, a10, a11, a12, a13, a14, a15] [v0, v1, v2, v3]) := fun h => g (h (appE1 [a0, a1, a2, a3, a4, a5, a6, a7, a8, a9, a10, a11, a12, a13, a14, a15] [v0, v1, v2, v3] 2) (by simp [appL]))
      show ([.i 0, .i 0, .i 0, .i 0, .i 4] : List DV) = [.i (appI [a0, a1, a2, a3, a4, a5, a6, a7, a8, a9, a10, a11, a12, a13, a14, a15] [v0, v1, v2, v3] most 0), .i (appI [a0, a1, a2, a3, a4, a5, a6, a7, a8, a9, a10, a11, a12, a13, a14, a15] [v0, v1, v2, v3] most 1), .i (appI [a0, a1, a2, a3, a4, a5, a6, a7, a8, a9, a10, a11, a12, a13, a14, a15] [v0, v1, v2, v3] most 2), .i (appI [a0, a1, a2, a3, a4, a5, a6, a7, a8, a9, a10, a11, a12, a13, a14, a15] [v0, v1, v2, v3] most 3), .i (appE [a0, a1, a2, a3, a4, a5, a6, a7, a8, a9, a10, a11, a12, a13, a14, a15] [v0, v1, v2, v3] most)]
      rw [(app_far hok hfar).2]
      simp only [(app_far hok hfar).1]
    have g : (!decide (-most ≤ appE1 [a0, a1, a2, a3, a4, a5, a6, a7, a8, a9, a10, a11, a12, a13, a14, a15] [v0, v1, v2, v3] 2 ∧ appE1 [a0, a1, a2, a3, a4, a5, a6, a7, a8, a9, a10, a11, a12, a13, a14, a15] [v0, v1, v2, v3] 2 ≤ most)) = false := g
    rw [Bool.not_eq_false', decide_eq_true_eq] at g
    have k2 := g
    clear g
    refine h_call (c := c26) rfl (show bigP most by unfold bigP; omega) fun rs hk hr => ?_
    have hr : rs = [.b (decide (-most ≤ appE1 [a0, a1, a2, a3, a4, a5, a6, a7, a8, a9, a10, a11, a12, a13, a14, a15] [v0, v1, v2, v3] 3 ∧ appE1 [a0, a1, a2, a3, a4, a5, a6, a7, a8, a9, a10, a11, a12, a13, a14, a15] [v0, v1, v2, v3] 3 ≤ most))] := hr
    subst hr
    refine h_ite (fun g => ?_) (fun g => ?_)
    · have g : (!decide (-most ≤ appE1 [a0, a1, a2, a3, a4, a5, a6, a7, a8, a9, a10, a11, a12, a13, a14, a15] [v0, v1, v2, v3] 3 ∧ appE1 [a0, a1, a2, a3, a4, a5, a6, a7, a8, a9, a10, a11, a12, a13, a14, a15] [v0, v1, v2, v3] 3 ≤ most)) = true := g
      rw [Bool.not_eq_true', decide_eq_false_iff_not] at g
      have hfar : ¬ near most (appL [a0, a1, a2, a3, a4, a5, a6, a7, a8, a9, a10, a11, a12, a13, a14, a15] [v0, v1, v2, v3]) := fun h => g (h (appE1 [a0, a1, a2, a3, a4, a5, a6, a7, a8, a9, a10, a11, a12, a13, a14, a15] [v0, v1, v2, v3] 3) (by simp [appL]))
      show ([.i 0, .i 0, .i 0, .i 0, .i 4] : List DV) = [.i (appI [a0, a1, a2, a3, a4, a5, a6, a7, a8, a9, a10, a11, a12, a13, a14, a15] [v0, v1, v2, v3] most 0), .i (appI [a0, a1, a2, a3, a4, a5, a6, a7, a8, a9, a10, a11, a12, a13, a14, a15] [v0, v1, v2, v3] most 1), .i (appI [a0, a1, a2, a3, a4, a5, a6, a7, a8, a9, a10, a11, a12, a13, a14, a15] [v0, v1, v2, v3] most 2), .i (appI [a0, a1, a2, a3, a4, a5, a6, a7, a8, a9, a10, a11, a12, a13, a14, a15] [v0, v1, v2, v3] most 3), .i (appE [a0, a1, a2, a3, a4, a5, a6, a7, a8, a9, a10, a11, a12, a13, a14, a15] [v0, v1, v2, v3] most)]
      rw [(app_far hok hfar).2]
      simp only [(app_far hok hfar).1]
    have g : (!decide (-most ≤ appE1 [a0, a1, a2, a3, a4, a5, a6, a7, a8, a9, a10, a11, a12, a13, a14, a15] [v0, v1, v2, v3] 3 ∧ appE1 [a0, a1, a2, a3, a4, a5, a6, a7, a8, a9, a10, a11, a12, a13, a14, a15] [v0, v1, v2, v3] 3 ≤ most)) = false := g
    rw [Bool.not_eq_false', decide_eq_true_eq] at g
    have k3 := g
    clear g
    have hnear : near most (appL [a0, a1, a2, a3, a4, a5, a6, a7, a8, a9, a10, a11, a12, a13, a14, a15] [v0, v1, v2, v3]) := by
      intro x hx
      simp only [appL, List.mem_cons, List.not_mem_nil, or_false] at hx
      rcases hx with rfl | rfl | rfl | rfl <;> omega
    show ([.i (appE1 [a0, a1, a2, a3, a4, a5, a6, a7, a8, a9, a10, a11, a12, a13, a14, a15] [v0, v1, v2, v3] 0), .i (appE1 [a0, a1, a2, a3, a4, a5, a6, a7, a8, a9, a10, a11, a12, a13, a14, a15] [v0, v1, v2, v3] 1), .i (appE1 [a0, a1, a2, a3, a4, a5, a6, a7, a8, a9, a10, a11, a12, a13, a14, a15] [v0, v1, v2, v3] 2), .i (appE1 [a0, a1, a2, a3, a4, a5, a6, a7, a8, a9, a10, a11, a12, a13, a14, a15] [v0, v1, v2, v3] 3), .i 0] : List DV) = [.i (appI [a0, a1, a2, a3, a4, a5, a6, a7, a8, a9, a10, a11, a12, a13, a14, a15] [v0, v1, v2, v3] most 0), .i (appI [a0, a1, a2, a3, a4, a5, a6, a7, a8, a9, a10, a11, a12, a13, a14, a15] [v0, v1, v2, v3] most 1), .i (appI [a0, a1, a2, a3, a4, a5, a6, a7, a8, a9, a10, a11, a12, a13, a14, a15] [v0, v1, v2, v3] most 2), .i (appI [a0, a1, a2, a3, a4, a5, a6, a7, a8, a9, a10, a11, a12, a13, a14, a15] [v0, v1, v2, v3] most 3), .i (appE [a0, a1, a2, a3, a4, a5, a6, a7, a8, a9, a10, a11, a12, a13, a14, a15] [v0, v1, v2, v3] most)]
    rw [(app_ok hok hnear).2]
    simp only [(app_ok hok hnear).1]
    rfl
  · cases hp
end Go.Proofs.Ythdcbfgaohondaa.Fns

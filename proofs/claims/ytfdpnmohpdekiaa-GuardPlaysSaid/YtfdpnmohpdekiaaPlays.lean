/- Layer 3: acts: what they note, and with what they give up: plain. -/
import Derived.Test.YtfdpnmohpdekiaaFail
set_option linter.unusedVariables false
set_option linter.unusedSimpArgs false
namespace Go.Proofs.Ytfdpnmohpdekiaa.Guard
open Go.RowKit Go

def noteOf (g : Option Int) : Int := -1000000 - (g.getD 0).tmod 1000
def howMany (c : Int) (n : Nat) : Nat := (max 0 (min c n)).toNat
theorem howMany_le (c : Int) (n : Nat) : howMany c n ≤ n := by unfold howMany; omega
/-- What acts note, and with what they give up. -/
def plays : List (List Int) → List Int × Option Int
  | [] => ([], none)
  | a :: rest =>
    if a.getD 0 0 = 0 then (a.getD 1 0 :: (plays rest).1, (plays rest).2)
    else if a.getD 0 0 = 1 then ([], some (a.getD 1 0))
    else if a.getD 0 0 = 2 then
      ((plays (rest.take (howMany (a.getD 2 0) rest.length))).1 ++ noteOf (plays (rest.take (howMany (a.getD 2 0) rest.length))).2 :: (plays (rest.drop (howMany (a.getD 2 0) rest.length))).1, (plays (rest.drop (howMany (a.getD 2 0) rest.length))).2)
    else plays rest
termination_by l => l.length
decreasing_by all_goals simp <;> omega
theorem plays_nil : plays [] = ([], none) := by rw [plays]
theorem plays_0 {a : List Int} {rest : List (List Int)} (h : a.getD 0 0 = 0) : plays (a :: rest) = (a.getD 1 0 :: (plays rest).1, (plays rest).2) := by
  rw [plays, if_pos h]
theorem plays_1 {a : List Int} {rest : List (List Int)} (h : a.getD 0 0 = 1) : plays (a :: rest) = ([], some (a.getD 1 0)) := by
  rw [plays, if_neg (by omega), if_pos h]
theorem plays_2 {a : List Int} {rest : List (List Int)} {m : Nat} (h : a.getD 0 0 = 2) (hm : m = howMany (a.getD 2 0) rest.length) : plays (a :: rest) = ((plays (rest.take m)).1 ++ noteOf (plays (rest.take m)).2 :: (plays (rest.drop m)).1, (plays (rest.drop m)).2) := by
  subst hm
  rw [plays, if_neg (by omega), if_neg (by omega), if_pos h]
theorem plays_x {a : List Int} {rest : List (List Int)} (h0 : a.getD 0 0 ≠ 0) (h1 : a.getD 0 0 ≠ 1) (h2 : a.getD 0 0 ≠ 2) : plays (a :: rest) = plays rest := by
  rw [plays, if_neg h0, if_neg h1, if_neg h2]
theorem plays_len (l : List (List Int)) : (plays l).1.length ≤ l.length := by
  generalize hn : l.length = n
  induction n using Nat.strongRecOn generalizing l with
  | ind n ih =>
    match l with
    | [] => rw [plays_nil]; simp
    | a :: rest =>
      simp only [List.length_cons] at hn
      by_cases h0 : a.getD 0 0 = 0
      · rw [plays_0 h0]
        have := ih rest.length (by omega) rest rfl
        simp only [List.length_cons]; omega
      by_cases h1 : a.getD 0 0 = 1
      · rw [plays_1 h1]; simp
      by_cases h2 : a.getD 0 0 = 2
      · obtain ⟨m, hm⟩ : ∃ m, m = howMany (a.getD 2 0) rest.length := ⟨_, rfl⟩
        have hle := howMany_le (a.getD 2 0) rest.length
        rw [← hm] at hle
        rw [plays_2 h2 hm]
        have e1 : (rest.take m).length = m := by rw [List.length_take]; omega
        have e2 : (rest.drop m).length = rest.length - m := List.length_drop
        have i1 := ih m (by omega) (rest.take m) e1
        have i2 := ih (rest.length - m) (by omega) (rest.drop m) e2
        simp only [List.length_append, List.length_cons]; omega
      · rw [plays_x h0 h1 h2]
        have := ih rest.length (by omega) rest rfl
        omega
/-- What has been noted of the first k acts. -/
def Pl (l : List (List Int)) (k : Nat) (o : List Int) : Prop := o.length ≤ k ∧ (plays l).1 = o ++ (plays (l.drop k)).1 ∧ (plays l).2 = (plays (l.drop k)).2
theorem Pl.start (l : List (List Int)) : Pl l 0 [] := ⟨Nat.le_refl _, by simp, by simp⟩
theorem drop_at {l : List (List Int)} {k : Nat} (h : k < l.length) : l.drop k = l.getD k [] :: l.drop (k + 1) := by
  rw [List.drop_eq_getElem_cons h]
  congr 1
  simp [List.getD, h]
theorem Pl.step0 {l : List (List Int)} {k : Nat} {o : List Int} (h : Pl l k o) (hk : k < l.length) (h0 : (l.getD k []).getD 0 0 = 0) : Pl l (k + 1) (o ++ [(l.getD k []).getD 1 0]) := by
  obtain ⟨h1, h2, h3⟩ := h
  rw [drop_at hk, plays_0 h0] at h2 h3
  exact ⟨by simp; omega, by rw [h2]; simp, h3⟩
theorem Pl.step1 {l : List (List Int)} {k : Nat} {o : List Int} (h : Pl l k o) (hk : k < l.length) (h0 : (l.getD k []).getD 0 0 = 1) : plays l = (o, some ((l.getD k []).getD 1 0)) := by
  obtain ⟨h1, h2, h3⟩ := h
  rw [drop_at hk, plays_1 h0] at h2 h3
  exact Prod.ext (by rw [h2]; simp) h3
theorem Pl.stepx {l : List (List Int)} {k : Nat} {o : List Int} (h : Pl l k o) (hk : k < l.length) (h0 : (l.getD k []).getD 0 0 ≠ 0) (h1 : (l.getD k []).getD 0 0 ≠ 1) (h2 : (l.getD k []).getD 0 0 ≠ 2) : Pl l (k + 1) o := by
  obtain ⟨g1, g2, g3⟩ := h
  rw [drop_at hk, plays_x h0 h1 h2] at g2 g3
  exact ⟨by omega, g2, g3⟩
theorem Pl.step2 {l : List (List Int)} {k m : Nat} {o : List Int} (h : Pl l k o) (hk : k < l.length) (h0 : (l.getD k []).getD 0 0 = 2) (hm : m = howMany ((l.getD k []).getD 2 0) (l.length - (k + 1))) :
    Pl l (k + 1 + m) (o ++ (plays ((l.drop (k + 1)).take m)).1 ++ [noteOf (plays ((l.drop (k + 1)).take m)).2]) := by
  obtain ⟨g1, g2, g3⟩ := h
  rw [drop_at hk, plays_2 h0 (m := m) (by rw [List.length_drop]; exact hm)] at g2 g3
  have hle := howMany_le ((l.getD k []).getD 2 0) (l.length - (k + 1))
  rw [← hm] at hle
  have hl := plays_len ((l.drop (k + 1)).take m)
  rw [List.length_take, List.length_drop] at hl
  rw [List.drop_drop] at g2 g3
  refine ⟨?_, by rw [g2]; simp, g3⟩
  simp only [List.length_append, List.length_cons, List.length_nil]
  omega
theorem Pl.done {l : List (List Int)} {k : Nat} {o : List Int} (h : Pl l k o) (hk : l.length ≤ k) : plays l = (o, none) := by
  obtain ⟨h1, h2, h3⟩ := h
  rw [List.drop_eq_nil_of_le hk, plays_nil] at h2 h3
  exact Prod.ext (by rw [h2]; simp) h3
end Go.Proofs.Ytfdpnmohpdekiaa.Guard

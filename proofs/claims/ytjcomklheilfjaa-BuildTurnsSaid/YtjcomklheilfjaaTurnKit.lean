/- Layer 7: the law BuildTurns: what is counted, plainly. -/
import Derived.Test.YtjcomklheilfjaaCounts
set_option linter.unusedVariables false
set_option linter.unusedSimpArgs false
namespace Go.Proofs.Ytjcomklheilfjaa.Build
open Go.RowKit Go

/-- Whether side k of the one goes along side j of the other, the other way. -/
def agF (X Y : List Int) (k j : Nat) : Bool := (X.getD k 0 == Y.getD ((j + 1) % 3) 0) && (X.getD ((k + 1) % 3) 0 == Y.getD j 0)
def rowF (X Y : List Int) (k : Nat) : Nat → Nat
  | 0 => 0
  | j + 1 => rowF X Y k j + if agF X Y k j = true then 1 else 0
def totF (X Y : List Int) : Nat → Nat
  | 0 => 0
  | k + 1 => totF X Y k + rowF X Y k 3
theorem rowF_le (X Y : List Int) (k j : Nat) : rowF X Y k j ≤ j := by
  induction j with
  | zero => exact Nat.le_refl _
  | succ j ih => show rowF X Y k j + _ ≤ _; split <;> omega
theorem totF_le (X Y : List Int) (k : Nat) : totF X Y k ≤ 3 * k := by
  induction k with
  | zero => exact Nat.le_refl _
  | succ k ih => have := rowF_le X Y k 3; show totF X Y k + _ ≤ _; omega
/-- What the law says of the list. -/
structure TurnOk (A : List PrimD) : Prop where
  small : A.length ≤ 256
  three : ∀ i, i < A.length → (A.getD i ⟨[], [], 0⟩).V.length = 3
  one : ∀ i, i + 1 < A.length → totF (A.getD (i + 1) ⟨[], [], 0⟩).V (A.getD i ⟨[], [], 0⟩).V 3 = 1
end Go.Proofs.Ytjcomklheilfjaa.Build

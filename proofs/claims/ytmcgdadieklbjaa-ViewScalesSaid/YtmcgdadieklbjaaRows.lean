/-
  No cell of these rows narrows 'for every input' (looked for: loops, veiled, ifaces, maps, wideKeys, modest, calm, conditions, laid).
  DERIVED. THE GIVEN ROWS OF THIS SEAT. 5 by the template 'for every input the law returns true; each argument reads behind the call as it read before'; 0 by the template 'total and deterministic' (their statements: YtmcgdadieklbjaaTotals.lean).
  GIVEN WITH THE SEED: the statements are not yours to turn. If you find one false, say at which input.
  Laid BY PROGRAM, IN A SANDBOX (cutbox-rows.mjs): the forced cells as the released guide's own fill.sh prints them over the translation b705a4322535df42… (all of the seat's roots in one cut). By AI agents, Wed Nov 11 2026. No macro, syntax, notation, axiom, sorry.
-/
import Derived.Test.YtmcgdadieklbjaaChecked
import GoSem.Claim
import GoSem.ClaimJoined
import GoSem.ClaimMapViews
import Derived.JoinedTies
import Derived.KernelRfl
namespace Go.Proofs.Ytmcgdadieklbjaa
/- THE CELL 'sum', in the pinned program and in every row, IS THE sha256 OF THE DUMP (.gsa) THAT YtmcgdadieklbjaaProg.lean LOADS. Nothing in Lean hashes anything: it is a label: what it is worth is what the hold of that sum in a sandbox is worth. -/
noncomputable def Try.pinned : Pinned := { name := "ytmcgdadieklbjaa", sum := "b705a4322535df42dcb4750d0bca9f796cb4446041598fc4eb0b7e2cb81fe0fa", checked := Try.checked }
namespace Rows
def none {H : Type} : Left H := { results := [], args := [] }

/-- 'rastrumlaw11.ViewTells': WHATEVER THE INPUT: true; the input reads as it did. -/
def viewTellsSpec : ChangeSpec := { name := "viewTells", fn := fun _ => fun
  | [d1, d2, d3] => { results := [.lit (.bool true)], args := [d1, d2, d3] }
  | _ => none }
def viewTellsRow : OpenClaim := { program := "ytmcgdadieklbjaa", sum := "b705a4322535df42dcb4750d0bca9f796cb4446041598fc4eb0b7e2cb81fe0fa", func := "rastrum/rastrumlaw11.ViewTells", spec := "viewTells", apart := false }
def ViewTellsSaid : Prop := viewTellsRow.holds Try.pinned (OpenSpec.ofChange viewTellsSpec)

/-- ITS FALSE NEIGHBOUR: 'it returns false'. Refute it at one input. -/
def viewTellsWrong : ChangeSpec := { name := "viewTells", fn := fun _ => fun
  | [d1, d2, d3] => { results := [.lit (.bool false)], args := [d1, d2, d3] }
  | _ => none }
def ViewTellsWrongFalsely : Prop := viewTellsRow.holds Try.pinned (OpenSpec.ofChange viewTellsWrong)

/-- 'rastrumlaw11.ViewIn': WHATEVER THE INPUT: true; the input reads as it did. -/
def viewInSpec : ChangeSpec := { name := "viewIn", fn := fun _ => fun
  | [d1, d2] => { results := [.lit (.bool true)], args := [d1, d2] }
  | _ => none }
def viewInRow : OpenClaim := { program := "ytmcgdadieklbjaa", sum := "b705a4322535df42dcb4750d0bca9f796cb4446041598fc4eb0b7e2cb81fe0fa", func := "rastrum/rastrumlaw11.ViewIn", spec := "viewIn", apart := false }
def ViewInSaid : Prop := viewInRow.holds Try.pinned (OpenSpec.ofChange viewInSpec)

/-- ITS FALSE NEIGHBOUR: 'it returns false'. Refute it at one input. -/
def viewInWrong : ChangeSpec := { name := "viewIn", fn := fun _ => fun
  | [d1, d2] => { results := [.lit (.bool false)], args := [d1, d2] }
  | _ => none }
def ViewInWrongFalsely : Prop := viewInRow.holds Try.pinned (OpenSpec.ofChange viewInWrong)

/-- 'rastrumlaw11.ViewScales': WHATEVER THE INPUT: true; the input reads as it did. -/
def viewScalesSpec : ChangeSpec := { name := "viewScales", fn := fun _ => fun
  | [d1, d2, d3] => { results := [.lit (.bool true)], args := [d1, d2, d3] }
  | _ => none }
def viewScalesRow : OpenClaim := { program := "ytmcgdadieklbjaa", sum := "b705a4322535df42dcb4750d0bca9f796cb4446041598fc4eb0b7e2cb81fe0fa", func := "rastrum/rastrumlaw11.ViewScales", spec := "viewScales", apart := false }
def ViewScalesSaid : Prop := viewScalesRow.holds Try.pinned (OpenSpec.ofChange viewScalesSpec)

/-- ITS FALSE NEIGHBOUR: 'it returns false'. Refute it at one input. -/
def viewScalesWrong : ChangeSpec := { name := "viewScales", fn := fun _ => fun
  | [d1, d2, d3] => { results := [.lit (.bool false)], args := [d1, d2, d3] }
  | _ => none }
def ViewScalesWrongFalsely : Prop := viewScalesRow.holds Try.pinned (OpenSpec.ofChange viewScalesWrong)

/-- 'rastrumlaw11.ViewMoves': WHATEVER THE INPUT: true; the input reads as it did. -/
def viewMovesSpec : ChangeSpec := { name := "viewMoves", fn := fun _ => fun
  | [d] => { results := [.lit (.bool true)], args := [d] }
  | _ => none }
def viewMovesRow : OpenClaim := { program := "ytmcgdadieklbjaa", sum := "b705a4322535df42dcb4750d0bca9f796cb4446041598fc4eb0b7e2cb81fe0fa", func := "rastrum/rastrumlaw11.ViewMoves", spec := "viewMoves", apart := false }
def ViewMovesSaid : Prop := viewMovesRow.holds Try.pinned (OpenSpec.ofChange viewMovesSpec)

/-- ITS FALSE NEIGHBOUR: 'it returns false'. Refute it at one input. -/
def viewMovesWrong : ChangeSpec := { name := "viewMoves", fn := fun _ => fun
  | [d] => { results := [.lit (.bool false)], args := [d] }
  | _ => none }
def ViewMovesWrongFalsely : Prop := viewMovesRow.holds Try.pinned (OpenSpec.ofChange viewMovesWrong)

/-- 'rastrumlaw11.ViewRises': WHATEVER THE INPUT: true; the input reads as it did. -/
def viewRisesSpec : ChangeSpec := { name := "viewRises", fn := fun _ => fun
  | [d1, d2, d3] => { results := [.lit (.bool true)], args := [d1, d2, d3] }
  | _ => none }
def viewRisesRow : OpenClaim := { program := "ytmcgdadieklbjaa", sum := "b705a4322535df42dcb4750d0bca9f796cb4446041598fc4eb0b7e2cb81fe0fa", func := "rastrum/rastrumlaw11.ViewRises", spec := "viewRises", apart := false }
def ViewRisesSaid : Prop := viewRisesRow.holds Try.pinned (OpenSpec.ofChange viewRisesSpec)

/-- ITS FALSE NEIGHBOUR: 'it returns false'. Refute it at one input. -/
def viewRisesWrong : ChangeSpec := { name := "viewRises", fn := fun _ => fun
  | [d1, d2, d3] => { results := [.lit (.bool false)], args := [d1, d2, d3] }
  | _ => none }
def ViewRisesWrongFalsely : Prop := viewRisesRow.holds Try.pinned (OpenSpec.ofChange viewRisesWrong)

/- THE SECOND FORM. 'bulk': how many values and letters a reading holds, each counted each time it is reached (what is shared counts as often as it is met; a slice's spare places count too). A statement '..UptoSaid' is the law's where the arguments, and the package variables that the reading takes, are together of bulk at most 1048576: NARROWER than '..Said'. Prove '..Said' where nothing that the law and all that it calls make is longer than what came in: it says more and counts as full. Else prove '..UptoSaid'. A law counts once. -/
mutual
def uptoBulk {H : Type} : DataW H → Nat
  | .lit (.string bytes) => bytes.length + 1
  | .lit _ => 1
  | .nil => 1
  | .ptr d => uptoBulk d + 1
  | .slice elems spare => uptoBulkAll elems + uptoBulkAll spare + 1
  | .agg parts => uptoBulkAll parts + 1
  | .iface _ d => uptoBulk d + 1
  | .map entries => uptoBulkEntries entries + 1
  | .held _ => 1
def uptoBulkAll {H : Type} : List (DataW H) → Nat
  | [] => 0
  | d :: r => uptoBulk d + uptoBulkAll r
def uptoBulkEntries {H : Type} : List (Lit × DataW H) → Nat
  | [] => 0
  | x :: r => uptoBulkEntry x + uptoBulkEntries r
def uptoBulkEntry {H : Type} : Lit × DataW H → Nat
  | (.string bytes, d) => bytes.length + uptoBulk d + 1
  | (_, d) => uptoBulk d + 1
 end
def uptoSmall : (H : Type) → List (DataW H) → Bool := fun _ ds => decide (uptoBulkAll ds ≤ 1048576)
def OpenSpec.upto (s : _root_.Go.ChangeSpec) : _root_.Go.OpenSpec := { _root_.Go.OpenSpec.ofChange s with cond := some uptoSmall }

/-- 'rastrumlaw11.ViewTells', WHERE WHAT IT READS IS OF BULK AT MOST 1048576: true; the input reads as it did. -/
def viewTellsUptoRow : OpenClaim := { program := "ytmcgdadieklbjaa", sum := "b705a4322535df42dcb4750d0bca9f796cb4446041598fc4eb0b7e2cb81fe0fa", func := "rastrum/rastrumlaw11.ViewTells", spec := "viewTells", apart := false, narrowed := true }
def ViewTellsUptoSaid : Prop := viewTellsUptoRow.holds Try.pinned (OpenSpec.upto viewTellsSpec)

/-- 'rastrumlaw11.ViewIn', WHERE WHAT IT READS IS OF BULK AT MOST 1048576: true; the input reads as it did. -/
def viewInUptoRow : OpenClaim := { program := "ytmcgdadieklbjaa", sum := "b705a4322535df42dcb4750d0bca9f796cb4446041598fc4eb0b7e2cb81fe0fa", func := "rastrum/rastrumlaw11.ViewIn", spec := "viewIn", apart := false, narrowed := true }
def ViewInUptoSaid : Prop := viewInUptoRow.holds Try.pinned (OpenSpec.upto viewInSpec)

/-- 'rastrumlaw11.ViewScales', WHERE WHAT IT READS IS OF BULK AT MOST 1048576: true; the input reads as it did. -/
def viewScalesUptoRow : OpenClaim := { program := "ytmcgdadieklbjaa", sum := "b705a4322535df42dcb4750d0bca9f796cb4446041598fc4eb0b7e2cb81fe0fa", func := "rastrum/rastrumlaw11.ViewScales", spec := "viewScales", apart := false, narrowed := true }
def ViewScalesUptoSaid : Prop := viewScalesUptoRow.holds Try.pinned (OpenSpec.upto viewScalesSpec)

/-- 'rastrumlaw11.ViewMoves', WHERE WHAT IT READS IS OF BULK AT MOST 1048576: true; the input reads as it did. -/
def viewMovesUptoRow : OpenClaim := { program := "ytmcgdadieklbjaa", sum := "b705a4322535df42dcb4750d0bca9f796cb4446041598fc4eb0b7e2cb81fe0fa", func := "rastrum/rastrumlaw11.ViewMoves", spec := "viewMoves", apart := false, narrowed := true }
def ViewMovesUptoSaid : Prop := viewMovesUptoRow.holds Try.pinned (OpenSpec.upto viewMovesSpec)

/-- 'rastrumlaw11.ViewRises', WHERE WHAT IT READS IS OF BULK AT MOST 1048576: true; the input reads as it did. -/
def viewRisesUptoRow : OpenClaim := { program := "ytmcgdadieklbjaa", sum := "b705a4322535df42dcb4750d0bca9f796cb4446041598fc4eb0b7e2cb81fe0fa", func := "rastrum/rastrumlaw11.ViewRises", spec := "viewRises", apart := false, narrowed := true }
def ViewRisesUptoSaid : Prop := viewRisesUptoRow.holds Try.pinned (OpenSpec.upto viewRisesSpec)

end Rows
end Go.Proofs.Ytmcgdadieklbjaa

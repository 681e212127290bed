/-
  No cell of these rows narrows 'for every input' (looked for: loops, veiled, ifaces, maps, wideKeys, modest, calm, conditions, laid).
  DERIVED. THE GIVEN ROWS OF THIS SEAT. 6 by the template 'for every input the law returns true; each argument reads behind the call as it read before'; 0 by the template 'total and deterministic' (their statements: YthdcbfgaohondaaTotals.lean).
  GIVEN WITH THE SEED: the statements are not yours to turn. If you find one false, say at which input.
  Laid BY PROGRAM, IN A SANDBOX (cutbox-rows.mjs): the forced cells as the released guide's own fill.sh prints them over the translation 0aee85943c4093c0… (all of the seat's roots in one cut). By AI agents, Wed Nov 11 2026. No macro, syntax, notation, axiom, sorry.
-/
import Derived.Test.YthdcbfgaohondaaChecked
import GoSem.Claim
import GoSem.ClaimJoined
import GoSem.ClaimMapViews
import Derived.JoinedTies
import Derived.KernelRfl
namespace Go.Proofs.Ythdcbfgaohondaa
/- THE CELL 'sum', in the pinned program and in every row, IS THE sha256 OF THE DUMP (.gsa) THAT YthdcbfgaohondaaProg.lean LOADS. Nothing in Lean hashes anything: it is a label: what it is worth is what the hold of that sum in a sandbox is worth. -/
noncomputable def Try.pinned : Pinned := { name := "ythdcbfgaohondaa", sum := "0aee85943c4093c0781196f949515966382e411f7768324f2f0c3c4e1850756e", checked := Try.checked }
namespace Rows
def none {H : Type} : Left H := { results := [], args := [] }

/-- 'rastrumlaw05.MatApplies': WHATEVER THE INPUT: true; the input reads as it did. -/
def matAppliesSpec : ChangeSpec := { name := "matApplies", fn := fun _ => fun
  | [d1, d2, d3] => { results := [.lit (.bool true)], args := [d1, d2, d3] }
  | _ => none }
def matAppliesRow : OpenClaim := { program := "ythdcbfgaohondaa", sum := "0aee85943c4093c0781196f949515966382e411f7768324f2f0c3c4e1850756e", func := "rastrum/rastrumlaw05.MatApplies", spec := "matApplies", apart := false }
def MatAppliesSaid : Prop := matAppliesRow.holds Try.pinned (OpenSpec.ofChange matAppliesSpec)

/-- ITS FALSE NEIGHBOUR: 'it returns false'. Refute it at one input. -/
def matAppliesWrong : ChangeSpec := { name := "matApplies", fn := fun _ => fun
  | [d1, d2, d3] => { results := [.lit (.bool false)], args := [d1, d2, d3] }
  | _ => none }
def MatAppliesWrongFalsely : Prop := matAppliesRow.holds Try.pinned (OpenSpec.ofChange matAppliesWrong)

/-- 'rastrumlaw05.MatTells': WHATEVER THE INPUT: true; the input reads as it did. -/
def matTellsSpec : ChangeSpec := { name := "matTells", fn := fun _ => fun
  | [d1, d2] => { results := [.lit (.bool true)], args := [d1, d2] }
  | _ => none }
def matTellsRow : OpenClaim := { program := "ythdcbfgaohondaa", sum := "0aee85943c4093c0781196f949515966382e411f7768324f2f0c3c4e1850756e", func := "rastrum/rastrumlaw05.MatTells", spec := "matTells", apart := false }
def MatTellsSaid : Prop := matTellsRow.holds Try.pinned (OpenSpec.ofChange matTellsSpec)

/-- ITS FALSE NEIGHBOUR: 'it returns false'. Refute it at one input. -/
def matTellsWrong : ChangeSpec := { name := "matTells", fn := fun _ => fun
  | [d1, d2] => { results := [.lit (.bool false)], args := [d1, d2] }
  | _ => none }
def MatTellsWrongFalsely : Prop := matTellsRow.holds Try.pinned (OpenSpec.ofChange matTellsWrong)

/-- 'rastrumlaw05.MatTurns': WHATEVER THE INPUT: true; the input reads as it did. -/
def matTurnsSpec : ChangeSpec := { name := "matTurns", fn := fun _ => fun
  | [d1, d2, d3] => { results := [.lit (.bool true)], args := [d1, d2, d3] }
  | _ => none }
def matTurnsRow : OpenClaim := { program := "ythdcbfgaohondaa", sum := "0aee85943c4093c0781196f949515966382e411f7768324f2f0c3c4e1850756e", func := "rastrum/rastrumlaw05.MatTurns", spec := "matTurns", apart := false }
def MatTurnsSaid : Prop := matTurnsRow.holds Try.pinned (OpenSpec.ofChange matTurnsSpec)

/-- ITS FALSE NEIGHBOUR: 'it returns false'. Refute it at one input. -/
def matTurnsWrong : ChangeSpec := { name := "matTurns", fn := fun _ => fun
  | [d1, d2, d3] => { results := [.lit (.bool false)], args := [d1, d2, d3] }
  | _ => none }
def MatTurnsWrongFalsely : Prop := matTurnsRow.holds Try.pinned (OpenSpec.ofChange matTurnsWrong)

/-- 'rastrumlaw05.MatJoins': WHATEVER THE INPUT: true; the input reads as it did. -/
def matJoinsSpec : ChangeSpec := { name := "matJoins", fn := fun _ => fun
  | [d1, d2, d3] => { results := [.lit (.bool true)], args := [d1, d2, d3] }
  | _ => none }
def matJoinsRow : OpenClaim := { program := "ythdcbfgaohondaa", sum := "0aee85943c4093c0781196f949515966382e411f7768324f2f0c3c4e1850756e", func := "rastrum/rastrumlaw05.MatJoins", spec := "matJoins", apart := false }
def MatJoinsSaid : Prop := matJoinsRow.holds Try.pinned (OpenSpec.ofChange matJoinsSpec)

/-- ITS FALSE NEIGHBOUR: 'it returns false'. Refute it at one input. -/
def matJoinsWrong : ChangeSpec := { name := "matJoins", fn := fun _ => fun
  | [d1, d2, d3] => { results := [.lit (.bool false)], args := [d1, d2, d3] }
  | _ => none }
def MatJoinsWrongFalsely : Prop := matJoinsRow.holds Try.pinned (OpenSpec.ofChange matJoinsWrong)

/-- 'rastrumlaw05.MatMakes': WHATEVER THE INPUT: true; the input reads as it did. -/
def matMakesSpec : ChangeSpec := { name := "matMakes", fn := fun _ => fun
  | [d1, d2, d3] => { results := [.lit (.bool true)], args := [d1, d2, d3] }
  | _ => none }
def matMakesRow : OpenClaim := { program := "ythdcbfgaohondaa", sum := "0aee85943c4093c0781196f949515966382e411f7768324f2f0c3c4e1850756e", func := "rastrum/rastrumlaw05.MatMakes", spec := "matMakes", apart := false }
def MatMakesSaid : Prop := matMakesRow.holds Try.pinned (OpenSpec.ofChange matMakesSpec)

/-- ITS FALSE NEIGHBOUR: 'it returns false'. Refute it at one input. -/
def matMakesWrong : ChangeSpec := { name := "matMakes", fn := fun _ => fun
  | [d1, d2, d3] => { results := [.lit (.bool false)], args := [d1, d2, d3] }
  | _ => none }
def MatMakesWrongFalsely : Prop := matMakesRow.holds Try.pinned (OpenSpec.ofChange matMakesWrong)

/-- 'rastrumlaw05.MatMoves': WHATEVER THE INPUT: true; the input reads as it did. -/
def matMovesSpec : ChangeSpec := { name := "matMoves", fn := fun _ => fun
  | [d1, d2, d3] => { results := [.lit (.bool true)], args := [d1, d2, d3] }
  | _ => none }
def matMovesRow : OpenClaim := { program := "ythdcbfgaohondaa", sum := "0aee85943c4093c0781196f949515966382e411f7768324f2f0c3c4e1850756e", func := "rastrum/rastrumlaw05.MatMoves", spec := "matMoves", apart := false }
def MatMovesSaid : Prop := matMovesRow.holds Try.pinned (OpenSpec.ofChange matMovesSpec)

/-- ITS FALSE NEIGHBOUR: 'it returns false'. Refute it at one input. -/
def matMovesWrong : ChangeSpec := { name := "matMoves", fn := fun _ => fun
  | [d1, d2, d3] => { results := [.lit (.bool false)], args := [d1, d2, d3] }
  | _ => none }
def MatMovesWrongFalsely : Prop := matMovesRow.holds Try.pinned (OpenSpec.ofChange matMovesWrong)

/- THE SECOND FORM. 'bulk': how many values and letters a reading holds, each counted each time it is reached (what is shared counts as often as it is met; a slice's spare places count too). A statement '..UptoSaid' is the law's where the arguments, and the package variables that the reading takes, are together of bulk at most 1048576: NARROWER than '..Said'. Prove '..Said' where nothing that the law and all that it calls make is longer than what came in: it says more and counts as full. Else prove '..UptoSaid'. A law counts once. -/
mutual
def uptoBulk {H : Type} : DataW H → Nat
  | .lit (.string bytes) => bytes.length + 1
  | .lit _ => 1
  | .nil => 1
  | .ptr d => uptoBulk d + 1
  | .slice elems spare => uptoBulkAll elems + uptoBulkAll spare + 1
  | .agg parts => uptoBulkAll parts + 1
  | .iface _ d => uptoBulk d + 1
  | .map entries => uptoBulkEntries entries + 1
  | .held _ => 1
def uptoBulkAll {H : Type} : List (DataW H) → Nat
  | [] => 0
  | d :: r => uptoBulk d + uptoBulkAll r
def uptoBulkEntries {H : Type} : List (Lit × DataW H) → Nat
  | [] => 0
  | x :: r => uptoBulkEntry x + uptoBulkEntries r
def uptoBulkEntry {H : Type} : Lit × DataW H → Nat
  | (.string bytes, d) => bytes.length + uptoBulk d + 1
  | (_, d) => uptoBulk d + 1
 end
def uptoSmall : (H : Type) → List (DataW H) → Bool := fun _ ds => decide (uptoBulkAll ds ≤ 1048576)
def OpenSpec.upto (s : _root_.Go.ChangeSpec) : _root_.Go.OpenSpec := { _root_.Go.OpenSpec.ofChange s with cond := some uptoSmall }

/-- 'rastrumlaw05.MatApplies', WHERE WHAT IT READS IS OF BULK AT MOST 1048576: true; the input reads as it did. -/
def matAppliesUptoRow : OpenClaim := { program := "ythdcbfgaohondaa", sum := "0aee85943c4093c0781196f949515966382e411f7768324f2f0c3c4e1850756e", func := "rastrum/rastrumlaw05.MatApplies", spec := "matApplies", apart := false, narrowed := true }
def MatAppliesUptoSaid : Prop := matAppliesUptoRow.holds Try.pinned (OpenSpec.upto matAppliesSpec)

/-- 'rastrumlaw05.MatTells', WHERE WHAT IT READS IS OF BULK AT MOST 1048576: true; the input reads as it did. -/
def matTellsUptoRow : OpenClaim := { program := "ythdcbfgaohondaa", sum := "0aee85943c4093c0781196f949515966382e411f7768324f2f0c3c4e1850756e", func := "rastrum/rastrumlaw05.MatTells", spec := "matTells", apart := false, narrowed := true }
def MatTellsUptoSaid : Prop := matTellsUptoRow.holds Try.pinned (OpenSpec.upto matTellsSpec)

/-- 'rastrumlaw05.MatTurns', WHERE WHAT IT READS IS OF BULK AT MOST 1048576: true; the input reads as it did. -/
def matTurnsUptoRow : OpenClaim := { program := "ythdcbfgaohondaa", sum := "0aee85943c4093c0781196f949515966382e411f7768324f2f0c3c4e1850756e", func := "rastrum/rastrumlaw05.MatTurns", spec := "matTurns", apart := false, narrowed := true }
def MatTurnsUptoSaid : Prop := matTurnsUptoRow.holds Try.pinned (OpenSpec.upto matTurnsSpec)

/-- 'rastrumlaw05.MatJoins', WHERE WHAT IT READS IS OF BULK AT MOST 1048576: true; the input reads as it did. -/
def matJoinsUptoRow : OpenClaim := { program := "ythdcbfgaohondaa", sum := "0aee85943c4093c0781196f949515966382e411f7768324f2f0c3c4e1850756e", func := "rastrum/rastrumlaw05.MatJoins", spec := "matJoins", apart := false, narrowed := true }
def MatJoinsUptoSaid : Prop := matJoinsUptoRow.holds Try.pinned (OpenSpec.upto matJoinsSpec)

/-- 'rastrumlaw05.MatMakes', WHERE WHAT IT READS IS OF BULK AT MOST 1048576: true; the input reads as it did. -/
def matMakesUptoRow : OpenClaim := { program := "ythdcbfgaohondaa", sum := "0aee85943c4093c0781196f949515966382e411f7768324f2f0c3c4e1850756e", func := "rastrum/rastrumlaw05.MatMakes", spec := "matMakes", apart := false, narrowed := true }
def MatMakesUptoSaid : Prop := matMakesUptoRow.holds Try.pinned (OpenSpec.upto matMakesSpec)

/-- 'rastrumlaw05.MatMoves', WHERE WHAT IT READS IS OF BULK AT MOST 1048576: true; the input reads as it did. -/
def matMovesUptoRow : OpenClaim := { program := "ythdcbfgaohondaa", sum := "0aee85943c4093c0781196f949515966382e411f7768324f2f0c3c4e1850756e", func := "rastrum/rastrumlaw05.MatMoves", spec := "matMoves", apart := false, narrowed := true }
def MatMovesUptoSaid : Prop := matMovesUptoRow.holds Try.pinned (OpenSpec.upto matMovesSpec)

end Rows
end Go.Proofs.Ythdcbfgaohondaa

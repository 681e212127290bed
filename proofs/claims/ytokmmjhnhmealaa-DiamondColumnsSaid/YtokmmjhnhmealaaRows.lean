/-
  No cell of these rows narrows 'for every input' (looked for: loops, veiled, ifaces, maps, wideKeys, modest, calm, conditions, laid).
  DERIVED. THE GIVEN ROWS OF THIS SEAT. 5 by the template 'for every input the law returns true; each argument reads behind the call as it read before'; 0 by the template 'total and deterministic' (their statements: YtokmmjhnhmealaaTotals.lean).
  GIVEN WITH THE SEED: the statements are not yours to turn. If you find one false, say at which input.
  Laid BY PROGRAM, IN A SANDBOX (cutbox-rows.mjs): the forced cells as the released guide's own fill.sh prints them over the translation ded11e470b75602d… (all of the seat's roots in one cut). By AI agents, Wed Nov 11 2026. No macro, syntax, notation, axiom, sorry.
-/
import Derived.Test.YtokmmjhnhmealaaChecked
import GoSem.Claim
import GoSem.ClaimJoined
import GoSem.ClaimMapViews
import Derived.JoinedTies
import Derived.KernelRfl
namespace Go.Proofs.Ytokmmjhnhmealaa
/- THE CELL 'sum', in the pinned program and in every row, IS THE sha256 OF THE DUMP (.gsa) THAT YtokmmjhnhmealaaProg.lean LOADS. Nothing in Lean hashes anything: it is a label: what it is worth is what the hold of that sum in a sandbox is worth. -/
noncomputable def Try.pinned : Pinned := { name := "ytokmmjhnhmealaa", sum := "ded11e470b75602de5ae23ae9c13ccd109899268d696ddb9188414bc9f46781d", checked := Try.checked }
namespace Rows
def none {H : Type} : Left H := { results := [], args := [] }

/-- 'rastrumlaw13.DiamondIns': WHATEVER THE INPUT: true; the input reads as it did. -/
def diamondInsSpec : ChangeSpec := { name := "diamondIns", fn := fun _ => fun
  | [d] => { results := [.lit (.bool true)], args := [d] }
  | _ => none }
def diamondInsRow : OpenClaim := { program := "ytokmmjhnhmealaa", sum := "ded11e470b75602de5ae23ae9c13ccd109899268d696ddb9188414bc9f46781d", func := "rastrum/rastrumlaw13.DiamondIns", spec := "diamondIns", apart := false }
def DiamondInsSaid : Prop := diamondInsRow.holds Try.pinned (OpenSpec.ofChange diamondInsSpec)

/-- ITS FALSE NEIGHBOUR: 'it returns false'. Refute it at one input. -/
def diamondInsWrong : ChangeSpec := { name := "diamondIns", fn := fun _ => fun
  | [d] => { results := [.lit (.bool false)], args := [d] }
  | _ => none }
def DiamondInsWrongFalsely : Prop := diamondInsRow.holds Try.pinned (OpenSpec.ofChange diamondInsWrong)

/-- 'rastrumlaw13.DiamondColumns': WHATEVER THE INPUT: true; the input reads as it did. -/
def diamondColumnsSpec : ChangeSpec := { name := "diamondColumns", fn := fun _ => fun
  | [d] => { results := [.lit (.bool true)], args := [d] }
  | _ => none }
def diamondColumnsRow : OpenClaim := { program := "ytokmmjhnhmealaa", sum := "ded11e470b75602de5ae23ae9c13ccd109899268d696ddb9188414bc9f46781d", func := "rastrum/rastrumlaw13.DiamondColumns", spec := "diamondColumns", apart := false }
def DiamondColumnsSaid : Prop := diamondColumnsRow.holds Try.pinned (OpenSpec.ofChange diamondColumnsSpec)

/-- ITS FALSE NEIGHBOUR: 'it returns false'. Refute it at one input. -/
def diamondColumnsWrong : ChangeSpec := { name := "diamondColumns", fn := fun _ => fun
  | [d] => { results := [.lit (.bool false)], args := [d] }
  | _ => none }
def DiamondColumnsWrongFalsely : Prop := diamondColumnsRow.holds Try.pinned (OpenSpec.ofChange diamondColumnsWrong)

/-- 'rastrumlaw13.DiamondMeets': WHATEVER THE INPUT: true; the input reads as it did. -/
def diamondMeetsSpec : ChangeSpec := { name := "diamondMeets", fn := fun _ => fun
  | [d1, d2, d3] => { results := [.lit (.bool true)], args := [d1, d2, d3] }
  | _ => none }
def diamondMeetsRow : OpenClaim := { program := "ytokmmjhnhmealaa", sum := "ded11e470b75602de5ae23ae9c13ccd109899268d696ddb9188414bc9f46781d", func := "rastrum/rastrumlaw13.DiamondMeets", spec := "diamondMeets", apart := false }
def DiamondMeetsSaid : Prop := diamondMeetsRow.holds Try.pinned (OpenSpec.ofChange diamondMeetsSpec)

/-- ITS FALSE NEIGHBOUR: 'it returns false'. Refute it at one input. -/
def diamondMeetsWrong : ChangeSpec := { name := "diamondMeets", fn := fun _ => fun
  | [d1, d2, d3] => { results := [.lit (.bool false)], args := [d1, d2, d3] }
  | _ => none }
def DiamondMeetsWrongFalsely : Prop := diamondMeetsRow.holds Try.pinned (OpenSpec.ofChange diamondMeetsWrong)

/-- 'rastrumlaw13.DiamondTurned': WHATEVER THE INPUT: true; the input reads as it did. -/
def diamondTurnedSpec : ChangeSpec := { name := "diamondTurned", fn := fun _ => fun
  | [d1, d2, d3] => { results := [.lit (.bool true)], args := [d1, d2, d3] }
  | _ => none }
def diamondTurnedRow : OpenClaim := { program := "ytokmmjhnhmealaa", sum := "ded11e470b75602de5ae23ae9c13ccd109899268d696ddb9188414bc9f46781d", func := "rastrum/rastrumlaw13.DiamondTurned", spec := "diamondTurned", apart := false }
def DiamondTurnedSaid : Prop := diamondTurnedRow.holds Try.pinned (OpenSpec.ofChange diamondTurnedSpec)

/-- ITS FALSE NEIGHBOUR: 'it returns false'. Refute it at one input. -/
def diamondTurnedWrong : ChangeSpec := { name := "diamondTurned", fn := fun _ => fun
  | [d1, d2, d3] => { results := [.lit (.bool false)], args := [d1, d2, d3] }
  | _ => none }
def DiamondTurnedWrongFalsely : Prop := diamondTurnedRow.holds Try.pinned (OpenSpec.ofChange diamondTurnedWrong)

/-- 'rastrumlaw13.DiamondParts': WHATEVER THE INPUT: true; the input reads as it did. -/
def diamondPartsSpec : ChangeSpec := { name := "diamondParts", fn := fun _ => fun
  | [d] => { results := [.lit (.bool true)], args := [d] }
  | _ => none }
def diamondPartsRow : OpenClaim := { program := "ytokmmjhnhmealaa", sum := "ded11e470b75602de5ae23ae9c13ccd109899268d696ddb9188414bc9f46781d", func := "rastrum/rastrumlaw13.DiamondParts", spec := "diamondParts", apart := false }
def DiamondPartsSaid : Prop := diamondPartsRow.holds Try.pinned (OpenSpec.ofChange diamondPartsSpec)

/-- ITS FALSE NEIGHBOUR: 'it returns false'. Refute it at one input. -/
def diamondPartsWrong : ChangeSpec := { name := "diamondParts", fn := fun _ => fun
  | [d] => { results := [.lit (.bool false)], args := [d] }
  | _ => none }
def DiamondPartsWrongFalsely : Prop := diamondPartsRow.holds Try.pinned (OpenSpec.ofChange diamondPartsWrong)

/- THE SECOND FORM. 'bulk': how many values and letters a reading holds, each counted each time it is reached (what is shared counts as often as it is met; a slice's spare places count too). A statement '..UptoSaid' is the law's where the arguments, and the package variables that the reading takes, are together of bulk at most 1048576: NARROWER than '..Said'. Prove '..Said' where nothing that the law and all that it calls make is longer than what came in: it says more and counts as full. Else prove '..UptoSaid'. A law counts once. -/
mutual
def uptoBulk {H : Type} : DataW H → Nat
  | .lit (.string bytes) => bytes.length + 1
  | .lit _ => 1
  | .nil => 1
  | .ptr d => uptoBulk d + 1
  | .slice elems spare => uptoBulkAll elems + uptoBulkAll spare + 1
  | .agg parts => uptoBulkAll parts + 1
  | .iface _ d => uptoBulk d + 1
  | .map entries => uptoBulkEntries entries + 1
  | .held _ => 1
def uptoBulkAll {H : Type} : List (DataW H) → Nat
  | [] => 0
  | d :: r => uptoBulk d + uptoBulkAll r
def uptoBulkEntries {H : Type} : List (Lit × DataW H) → Nat
  | [] => 0
  | x :: r => uptoBulkEntry x + uptoBulkEntries r
def uptoBulkEntry {H : Type} : Lit × DataW H → Nat
  | (.string bytes, d) => bytes.length + uptoBulk d + 1
  | (_, d) => uptoBulk d + 1
 end
def uptoSmall : (H : Type) → List (DataW H) → Bool := fun _ ds => decide (uptoBulkAll ds ≤ 1048576)
def OpenSpec.upto (s : _root_.Go.ChangeSpec) : _root_.Go.OpenSpec := { _root_.Go.OpenSpec.ofChange s with cond := some uptoSmall }

/-- 'rastrumlaw13.DiamondIns', WHERE WHAT IT READS IS OF BULK AT MOST 1048576: true; the input reads as it did. -/
def diamondInsUptoRow : OpenClaim := { program := "ytokmmjhnhmealaa", sum := "ded11e470b75602de5ae23ae9c13ccd109899268d696ddb9188414bc9f46781d", func := "rastrum/rastrumlaw13.DiamondIns", spec := "diamondIns", apart := false, narrowed := true }
def DiamondInsUptoSaid : Prop := diamondInsUptoRow.holds Try.pinned (OpenSpec.upto diamondInsSpec)

/-- 'rastrumlaw13.DiamondColumns', WHERE WHAT IT READS IS OF BULK AT MOST 1048576: true; the input reads as it did. -/
def diamondColumnsUptoRow : OpenClaim := { program := "ytokmmjhnhmealaa", sum := "ded11e470b75602de5ae23ae9c13ccd109899268d696ddb9188414bc9f46781d", func := "rastrum/rastrumlaw13.DiamondColumns", spec := "diamondColumns", apart := false, narrowed := true }
def DiamondColumnsUptoSaid : Prop := diamondColumnsUptoRow.holds Try.pinned (OpenSpec.upto diamondColumnsSpec)

/-- 'rastrumlaw13.DiamondMeets', WHERE WHAT IT READS IS OF BULK AT MOST 1048576: true; the input reads as it did. -/
def diamondMeetsUptoRow : OpenClaim := { program := "ytokmmjhnhmealaa", sum := "ded11e470b75602de5ae23ae9c13ccd109899268d696ddb9188414bc9f46781d", func := "rastrum/rastrumlaw13.DiamondMeets", spec := "diamondMeets", apart := false, narrowed := true }
def DiamondMeetsUptoSaid : Prop := diamondMeetsUptoRow.holds Try.pinned (OpenSpec.upto diamondMeetsSpec)

/-- 'rastrumlaw13.DiamondTurned', WHERE WHAT IT READS IS OF BULK AT MOST 1048576: true; the input reads as it did. -/
def diamondTurnedUptoRow : OpenClaim := { program := "ytokmmjhnhmealaa", sum := "ded11e470b75602de5ae23ae9c13ccd109899268d696ddb9188414bc9f46781d", func := "rastrum/rastrumlaw13.DiamondTurned", spec := "diamondTurned", apart := false, narrowed := true }
def DiamondTurnedUptoSaid : Prop := diamondTurnedUptoRow.holds Try.pinned (OpenSpec.upto diamondTurnedSpec)

/-- 'rastrumlaw13.DiamondParts', WHERE WHAT IT READS IS OF BULK AT MOST 1048576: true; the input reads as it did. -/
def diamondPartsUptoRow : OpenClaim := { program := "ytokmmjhnhmealaa", sum := "ded11e470b75602de5ae23ae9c13ccd109899268d696ddb9188414bc9f46781d", func := "rastrum/rastrumlaw13.DiamondParts", spec := "diamondParts", apart := false, narrowed := true }
def DiamondPartsUptoSaid : Prop := diamondPartsUptoRow.holds Try.pinned (OpenSpec.upto diamondPartsSpec)

end Rows
end Go.Proofs.Ytokmmjhnhmealaa

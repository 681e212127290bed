/-
  No cell of these rows narrows 'for every input' (looked for: loops, veiled, ifaces, maps, wideKeys, modest, calm, conditions, laid).
  DERIVED. THE GIVEN ROWS OF THIS SEAT. 3 by the template 'for every input the law returns true; each argument reads behind the call as it read before'; 0 by the template 'total and deterministic' (their statements: YtfdpnmohpdekiaaTotals.lean).
  GIVEN WITH THE SEED: the statements are not yours to turn. If you find one false, say at which input.
  Laid BY PROGRAM, IN A SANDBOX (cutbox-rows.mjs): the forced cells as the released guide's own fill.sh prints them over the translation 26d148c11a84da03… (all of the seat's roots in one cut). By AI agents, Wed Nov 11 2026. No macro, syntax, notation, axiom, sorry.
-/
import Derived.Test.YtfdpnmohpdekiaaChecked
import GoSem.Claim
import GoSem.ClaimJoined
import GoSem.ClaimMapViews
import Derived.JoinedTies
import Derived.KernelRfl
namespace Go.Proofs.Ytfdpnmohpdekiaa
/- THE CELL 'sum', in the pinned program and in every row, IS THE sha256 OF THE DUMP (.gsa) THAT YtfdpnmohpdekiaaProg.lean LOADS. Nothing in Lean hashes anything: it is a label: what it is worth is what the hold of that sum in a sandbox is worth. -/
noncomputable def Try.pinned : Pinned := { name := "ytfdpnmohpdekiaa", sum := "26d148c11a84da03ef678d5941cec5fd5060c4d863b25f352693c41cb1fc4d67", checked := Try.checked }
namespace Rows
def none {H : Type} : Left H := { results := [], args := [] }

/-- 'rastrumlaw03.GuardPlays': WHATEVER THE INPUT: true; the input reads as it did. -/
def guardPlaysSpec : ChangeSpec := { name := "guardPlays", fn := fun _ => fun
  | [d] => { results := [.lit (.bool true)], args := [d] }
  | _ => none }
def guardPlaysRow : OpenClaim := { program := "ytfdpnmohpdekiaa", sum := "26d148c11a84da03ef678d5941cec5fd5060c4d863b25f352693c41cb1fc4d67", func := "rastrum/rastrumlaw03.GuardPlays", spec := "guardPlays", unfollowed := true, recurses := true, apart := false }
def GuardPlaysSaid : Prop := guardPlaysRow.holds Try.pinned (OpenSpec.ofChange guardPlaysSpec)

/-- ITS FALSE NEIGHBOUR: 'it returns false'. Refute it at one input. -/
def guardPlaysWrong : ChangeSpec := { name := "guardPlays", fn := fun _ => fun
  | [d] => { results := [.lit (.bool false)], args := [d] }
  | _ => none }
def GuardPlaysWrongFalsely : Prop := guardPlaysRow.holds Try.pinned (OpenSpec.ofChange guardPlaysWrong)

/-- 'rastrumlaw03.GuardNeeds': WHATEVER THE INPUT: true; the input reads as it did. -/
def guardNeedsSpec : ChangeSpec := { name := "guardNeeds", fn := fun _ => fun
  | [d1, d2] => { results := [.lit (.bool true)], args := [d1, d2] }
  | _ => none }
def guardNeedsRow : OpenClaim := { program := "ytfdpnmohpdekiaa", sum := "26d148c11a84da03ef678d5941cec5fd5060c4d863b25f352693c41cb1fc4d67", func := "rastrum/rastrumlaw03.GuardNeeds", spec := "guardNeeds", unfollowed := true, recurses := true, apart := false }
def GuardNeedsSaid : Prop := guardNeedsRow.holds Try.pinned (OpenSpec.ofChange guardNeedsSpec)

/-- ITS FALSE NEIGHBOUR: 'it returns false'. Refute it at one input. -/
def guardNeedsWrong : ChangeSpec := { name := "guardNeeds", fn := fun _ => fun
  | [d1, d2] => { results := [.lit (.bool false)], args := [d1, d2] }
  | _ => none }
def GuardNeedsWrongFalsely : Prop := guardNeedsRow.holds Try.pinned (OpenSpec.ofChange guardNeedsWrong)

/-- 'rastrumlaw03.GuardEach': WHATEVER THE INPUT: true; the input reads as it did. -/
def guardEachSpec : ChangeSpec := { name := "guardEach", fn := fun _ => fun
  | [d1, d2] => { results := [.lit (.bool true)], args := [d1, d2] }
  | _ => none }
def guardEachRow : OpenClaim := { program := "ytfdpnmohpdekiaa", sum := "26d148c11a84da03ef678d5941cec5fd5060c4d863b25f352693c41cb1fc4d67", func := "rastrum/rastrumlaw03.GuardEach", spec := "guardEach", unfollowed := true, recurses := true, apart := false }
def GuardEachSaid : Prop := guardEachRow.holds Try.pinned (OpenSpec.ofChange guardEachSpec)

/-- ITS FALSE NEIGHBOUR: 'it returns false'. Refute it at one input. -/
def guardEachWrong : ChangeSpec := { name := "guardEach", fn := fun _ => fun
  | [d1, d2] => { results := [.lit (.bool false)], args := [d1, d2] }
  | _ => none }
def GuardEachWrongFalsely : Prop := guardEachRow.holds Try.pinned (OpenSpec.ofChange guardEachWrong)

/- THE SECOND FORM. 'bulk': how many values and letters a reading holds, each counted each time it is reached (what is shared counts as often as it is met; a slice's spare places count too). A statement '..UptoSaid' is the law's where the arguments, and the package variables that the reading takes, are together of bulk at most 1048576: NARROWER than '..Said'. Prove '..Said' where nothing that the law and all that it calls make is longer than what came in: it says more and counts as full. Else prove '..UptoSaid'. A law counts once. -/
mutual
def uptoBulk {H : Type} : DataW H → Nat
  | .lit (.string bytes) => bytes.length + 1
  | .lit _ => 1
  | .nil => 1
  | .ptr d => uptoBulk d + 1
  | .slice elems spare => uptoBulkAll elems + uptoBulkAll spare + 1
  | .agg parts => uptoBulkAll parts + 1
  | .iface _ d => uptoBulk d + 1
  | .map entries => uptoBulkEntries entries + 1
  | .held _ => 1
def uptoBulkAll {H : Type} : List (DataW H) → Nat
  | [] => 0
  | d :: r => uptoBulk d + uptoBulkAll r
def uptoBulkEntries {H : Type} : List (Lit × DataW H) → Nat
  | [] => 0
  | x :: r => uptoBulkEntry x + uptoBulkEntries r
def uptoBulkEntry {H : Type} : Lit × DataW H → Nat
  | (.string bytes, d) => bytes.length + uptoBulk d + 1
  | (_, d) => uptoBulk d + 1
 end
def uptoSmall : (H : Type) → List (DataW H) → Bool := fun _ ds => decide (uptoBulkAll ds ≤ 1048576)
def OpenSpec.upto (s : _root_.Go.ChangeSpec) : _root_.Go.OpenSpec := { _root_.Go.OpenSpec.ofChange s with cond := some uptoSmall }

/-- 'rastrumlaw03.GuardPlays', WHERE WHAT IT READS IS OF BULK AT MOST 1048576: true; the input reads as it did. -/
def guardPlaysUptoRow : OpenClaim := { program := "ytfdpnmohpdekiaa", sum := "26d148c11a84da03ef678d5941cec5fd5060c4d863b25f352693c41cb1fc4d67", func := "rastrum/rastrumlaw03.GuardPlays", spec := "guardPlays", unfollowed := true, recurses := true, apart := false, narrowed := true }
def GuardPlaysUptoSaid : Prop := guardPlaysUptoRow.holds Try.pinned (OpenSpec.upto guardPlaysSpec)

/-- 'rastrumlaw03.GuardNeeds', WHERE WHAT IT READS IS OF BULK AT MOST 1048576: true; the input reads as it did. -/
def guardNeedsUptoRow : OpenClaim := { program := "ytfdpnmohpdekiaa", sum := "26d148c11a84da03ef678d5941cec5fd5060c4d863b25f352693c41cb1fc4d67", func := "rastrum/rastrumlaw03.GuardNeeds", spec := "guardNeeds", unfollowed := true, recurses := true, apart := false, narrowed := true }
def GuardNeedsUptoSaid : Prop := guardNeedsUptoRow.holds Try.pinned (OpenSpec.upto guardNeedsSpec)

/-- 'rastrumlaw03.GuardEach', WHERE WHAT IT READS IS OF BULK AT MOST 1048576: true; the input reads as it did. -/
def guardEachUptoRow : OpenClaim := { program := "ytfdpnmohpdekiaa", sum := "26d148c11a84da03ef678d5941cec5fd5060c4d863b25f352693c41cb1fc4d67", func := "rastrum/rastrumlaw03.GuardEach", spec := "guardEach", unfollowed := true, recurses := true, apart := false, narrowed := true }
def GuardEachUptoSaid : Prop := guardEachUptoRow.holds Try.pinned (OpenSpec.upto guardEachSpec)

end Rows
end Go.Proofs.Ytfdpnmohpdekiaa

/-
  No cell of these rows narrows 'for every input' (looked for: loops, veiled, ifaces, maps, wideKeys, modest, calm, conditions, laid).
  DERIVED. THE GIVEN ROWS OF THIS SEAT. 5 by the template 'for every input the law returns true; each argument reads behind the call as it read before'; 0 by the template 'total and deterministic' (their statements: YtjcomklheilfjaaTotals.lean).
  GIVEN WITH THE SEED: the statements are not yours to turn. If you find one false, say at which input.
  Laid BY PROGRAM, IN A SANDBOX (cutbox-rows.mjs): the forced cells as the released guide's own fill.sh prints them over the translation 5fc17d0a9fc87d41… (all of the seat's roots in one cut). By AI agents, Wed Nov 11 2026. No macro, syntax, notation, axiom, sorry.
-/
import Derived.Test.YtjcomklheilfjaaChecked
import GoSem.Claim
import GoSem.ClaimJoined
import GoSem.ClaimMapViews
import Derived.JoinedTies
import Derived.KernelRfl
namespace Go.Proofs.Ytjcomklheilfjaa
/- THE CELL 'sum', in the pinned program and in every row, IS THE sha256 OF THE DUMP (.gsa) THAT YtjcomklheilfjaaProg.lean LOADS. Nothing in Lean hashes anything: it is a label: what it is worth is what the hold of that sum in a sandbox is worth. -/
noncomputable def Try.pinned : Pinned := { name := "ytjcomklheilfjaa", sum := "5fc17d0a9fc87d4146c98f77278c944543f9675530dc7721a231dc3bcc8981dd", checked := Try.checked }
namespace Rows
def none {H : Type} : Left H := { results := [], args := [] }

/-- 'rastrumlaw07.BuildTells': WHATEVER THE INPUT: true; the input reads as it did. -/
def buildTellsSpec : ChangeSpec := { name := "buildTells", fn := fun _ => fun
  | [d1, d2, d3] => { results := [.lit (.bool true)], args := [d1, d2, d3] }
  | _ => none }
def buildTellsRow : OpenClaim := { program := "ytjcomklheilfjaa", sum := "5fc17d0a9fc87d4146c98f77278c944543f9675530dc7721a231dc3bcc8981dd", func := "rastrum/rastrumlaw07.BuildTells", spec := "buildTells", apart := false }
def BuildTellsSaid : Prop := buildTellsRow.holds Try.pinned (OpenSpec.ofChange buildTellsSpec)

/-- ITS FALSE NEIGHBOUR: 'it returns false'. Refute it at one input. -/
def buildTellsWrong : ChangeSpec := { name := "buildTells", fn := fun _ => fun
  | [d1, d2, d3] => { results := [.lit (.bool false)], args := [d1, d2, d3] }
  | _ => none }
def BuildTellsWrongFalsely : Prop := buildTellsRow.holds Try.pinned (OpenSpec.ofChange buildTellsWrong)

/-- 'rastrumlaw07.BuildCounts': WHATEVER THE INPUT: true; the input reads as it did. -/
def buildCountsSpec : ChangeSpec := { name := "buildCounts", fn := fun _ => fun
  | [d1, d2] => { results := [.lit (.bool true)], args := [d1, d2] }
  | _ => none }
def buildCountsRow : OpenClaim := { program := "ytjcomklheilfjaa", sum := "5fc17d0a9fc87d4146c98f77278c944543f9675530dc7721a231dc3bcc8981dd", func := "rastrum/rastrumlaw07.BuildCounts", spec := "buildCounts", apart := false }
def BuildCountsSaid : Prop := buildCountsRow.holds Try.pinned (OpenSpec.ofChange buildCountsSpec)

/-- ITS FALSE NEIGHBOUR: 'it returns false'. Refute it at one input. -/
def buildCountsWrong : ChangeSpec := { name := "buildCounts", fn := fun _ => fun
  | [d1, d2] => { results := [.lit (.bool false)], args := [d1, d2] }
  | _ => none }
def BuildCountsWrongFalsely : Prop := buildCountsRow.holds Try.pinned (OpenSpec.ofChange buildCountsWrong)

/-- 'rastrumlaw07.BuildProvokes': WHATEVER THE INPUT: true; the input reads as it did. -/
def buildProvokesSpec : ChangeSpec := { name := "buildProvokes", fn := fun _ => fun
  | [d1, d2] => { results := [.lit (.bool true)], args := [d1, d2] }
  | _ => none }
def buildProvokesRow : OpenClaim := { program := "ytjcomklheilfjaa", sum := "5fc17d0a9fc87d4146c98f77278c944543f9675530dc7721a231dc3bcc8981dd", func := "rastrum/rastrumlaw07.BuildProvokes", spec := "buildProvokes", apart := false }
def BuildProvokesSaid : Prop := buildProvokesRow.holds Try.pinned (OpenSpec.ofChange buildProvokesSpec)

/-- ITS FALSE NEIGHBOUR: 'it returns false'. Refute it at one input. -/
def buildProvokesWrong : ChangeSpec := { name := "buildProvokes", fn := fun _ => fun
  | [d1, d2] => { results := [.lit (.bool false)], args := [d1, d2] }
  | _ => none }
def BuildProvokesWrongFalsely : Prop := buildProvokesRow.holds Try.pinned (OpenSpec.ofChange buildProvokesWrong)

/-- 'rastrumlaw07.BuildTurns': WHATEVER THE INPUT: true; the input reads as it did. -/
def buildTurnsSpec : ChangeSpec := { name := "buildTurns", fn := fun _ => fun
  | [d1, d2] => { results := [.lit (.bool true)], args := [d1, d2] }
  | _ => none }
def buildTurnsRow : OpenClaim := { program := "ytjcomklheilfjaa", sum := "5fc17d0a9fc87d4146c98f77278c944543f9675530dc7721a231dc3bcc8981dd", func := "rastrum/rastrumlaw07.BuildTurns", spec := "buildTurns", apart := false }
def BuildTurnsSaid : Prop := buildTurnsRow.holds Try.pinned (OpenSpec.ofChange buildTurnsSpec)

/-- ITS FALSE NEIGHBOUR: 'it returns false'. Refute it at one input. -/
def buildTurnsWrong : ChangeSpec := { name := "buildTurns", fn := fun _ => fun
  | [d1, d2] => { results := [.lit (.bool false)], args := [d1, d2] }
  | _ => none }
def BuildTurnsWrongFalsely : Prop := buildTurnsRow.holds Try.pinned (OpenSpec.ofChange buildTurnsWrong)

/-- 'rastrumlaw07.BuildFlags': WHATEVER THE INPUT: true; the input reads as it did. -/
def buildFlagsSpec : ChangeSpec := { name := "buildFlags", fn := fun _ => fun
  | [d1, d2, d3] => { results := [.lit (.bool true)], args := [d1, d2, d3] }
  | _ => none }
def buildFlagsRow : OpenClaim := { program := "ytjcomklheilfjaa", sum := "5fc17d0a9fc87d4146c98f77278c944543f9675530dc7721a231dc3bcc8981dd", func := "rastrum/rastrumlaw07.BuildFlags", spec := "buildFlags", apart := false }
def BuildFlagsSaid : Prop := buildFlagsRow.holds Try.pinned (OpenSpec.ofChange buildFlagsSpec)

/-- ITS FALSE NEIGHBOUR: 'it returns false'. Refute it at one input. -/
def buildFlagsWrong : ChangeSpec := { name := "buildFlags", fn := fun _ => fun
  | [d1, d2, d3] => { results := [.lit (.bool false)], args := [d1, d2, d3] }
  | _ => none }
def BuildFlagsWrongFalsely : Prop := buildFlagsRow.holds Try.pinned (OpenSpec.ofChange buildFlagsWrong)

/- THE SECOND FORM. 'bulk': how many values and letters a reading holds, each counted each time it is reached (what is shared counts as often as it is met; a slice's spare places count too). A statement '..UptoSaid' is the law's where the arguments, and the package variables that the reading takes, are together of bulk at most 1048576: NARROWER than '..Said'. Prove '..Said' where nothing that the law and all that it calls make is longer than what came in: it says more and counts as full. Else prove '..UptoSaid'. A law counts once. -/
mutual
def uptoBulk {H : Type} : DataW H → Nat
  | .lit (.string bytes) => bytes.length + 1
  | .lit _ => 1
  | .nil => 1
  | .ptr d => uptoBulk d + 1
  | .slice elems spare => uptoBulkAll elems + uptoBulkAll spare + 1
  | .agg parts => uptoBulkAll parts + 1
  | .iface _ d => uptoBulk d + 1
  | .map entries => uptoBulkEntries entries + 1
  | .held _ => 1
def uptoBulkAll {H : Type} : List (DataW H) → Nat
  | [] => 0
  | d :: r => uptoBulk d + uptoBulkAll r
def uptoBulkEntries {H : Type} : List (Lit × DataW H) → Nat
  | [] => 0
  | x :: r => uptoBulkEntry x + uptoBulkEntries r
def uptoBulkEntry {H : Type} : Lit × DataW H → Nat
  | (.string bytes, d) => bytes.length + uptoBulk d + 1
  | (_, d) => uptoBulk d + 1
 end
def uptoSmall : (H : Type) → List (DataW H) → Bool := fun _ ds => decide (uptoBulkAll ds ≤ 1048576)
def OpenSpec.upto (s : _root_.Go.ChangeSpec) : _root_.Go.OpenSpec := { _root_.Go.OpenSpec.ofChange s with cond := some uptoSmall }

/-- 'rastrumlaw07.BuildTells', WHERE WHAT IT READS IS OF BULK AT MOST 1048576: true; the input reads as it did. -/
def buildTellsUptoRow : OpenClaim := { program := "ytjcomklheilfjaa", sum := "5fc17d0a9fc87d4146c98f77278c944543f9675530dc7721a231dc3bcc8981dd", func := "rastrum/rastrumlaw07.BuildTells", spec := "buildTells", apart := false, narrowed := true }
def BuildTellsUptoSaid : Prop := buildTellsUptoRow.holds Try.pinned (OpenSpec.upto buildTellsSpec)

/-- 'rastrumlaw07.BuildCounts', WHERE WHAT IT READS IS OF BULK AT MOST 1048576: true; the input reads as it did. -/
def buildCountsUptoRow : OpenClaim := { program := "ytjcomklheilfjaa", sum := "5fc17d0a9fc87d4146c98f77278c944543f9675530dc7721a231dc3bcc8981dd", func := "rastrum/rastrumlaw07.BuildCounts", spec := "buildCounts", apart := false, narrowed := true }
def BuildCountsUptoSaid : Prop := buildCountsUptoRow.holds Try.pinned (OpenSpec.upto buildCountsSpec)

/-- 'rastrumlaw07.BuildProvokes', WHERE WHAT IT READS IS OF BULK AT MOST 1048576: true; the input reads as it did. -/
def buildProvokesUptoRow : OpenClaim := { program := "ytjcomklheilfjaa", sum := "5fc17d0a9fc87d4146c98f77278c944543f9675530dc7721a231dc3bcc8981dd", func := "rastrum/rastrumlaw07.BuildProvokes", spec := "buildProvokes", apart := false, narrowed := true }
def BuildProvokesUptoSaid : Prop := buildProvokesUptoRow.holds Try.pinned (OpenSpec.upto buildProvokesSpec)

/-- 'rastrumlaw07.BuildTurns', WHERE WHAT IT READS IS OF BULK AT MOST 1048576: true; the input reads as it did. -/
def buildTurnsUptoRow : OpenClaim := { program := "ytjcomklheilfjaa", sum := "5fc17d0a9fc87d4146c98f77278c944543f9675530dc7721a231dc3bcc8981dd", func := "rastrum/rastrumlaw07.BuildTurns", spec := "buildTurns", apart := false, narrowed := true }
def BuildTurnsUptoSaid : Prop := buildTurnsUptoRow.holds Try.pinned (OpenSpec.upto buildTurnsSpec)

/-- 'rastrumlaw07.BuildFlags', WHERE WHAT IT READS IS OF BULK AT MOST 1048576: true; the input reads as it did. -/
def buildFlagsUptoRow : OpenClaim := { program := "ytjcomklheilfjaa", sum := "5fc17d0a9fc87d4146c98f77278c944543f9675530dc7721a231dc3bcc8981dd", func := "rastrum/rastrumlaw07.BuildFlags", spec := "buildFlags", apart := false, narrowed := true }
def BuildFlagsUptoSaid : Prop := buildFlagsUptoRow.holds Try.pinned (OpenSpec.upto buildFlagsSpec)

end Rows
end Go.Proofs.Ytjcomklheilfjaa

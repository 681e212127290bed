/-
  No cell of these rows narrows 'for every input' (looked for: loops, veiled, ifaces, maps, wideKeys, modest, calm, conditions, laid).
  DERIVED. THE GIVEN ROWS OF THIS SEAT. 4 by the template 'for every input the law returns true; each argument reads behind the call as it read before'; 0 by the template 'total and deterministic' (their statements: YtbaapkffmloclaaTotals.lean).
  GIVEN WITH THE SEED: the statements are not yours to turn. If you find one false, say at which input.
  Laid BY PROGRAM, IN A SANDBOX (cutbox-rows.mjs): the forced cells as the released guide's own fill.sh prints them over the translation d1dcd58c3fc1c98c… (all of the seat's roots in one cut). By AI agents, Wed Nov 11 2026. No macro, syntax, notation, axiom, sorry.
-/
import Derived.Test.YtbaapkffmloclaaChecked
import GoSem.Claim
import GoSem.ClaimJoined
import GoSem.ClaimMapViews
import Derived.JoinedTies
import Derived.KernelRfl
namespace Go.Proofs.Ytbaapkffmloclaa
/- THE CELL 'sum', in the pinned program and in every row, IS THE sha256 OF THE DUMP (.gsa) THAT YtbaapkffmloclaaProg.lean LOADS. Nothing in Lean hashes anything: it is a label: what it is worth is what the hold of that sum in a sandbox is worth. -/
noncomputable def Try.pinned : Pinned := { name := "ytbaapkffmloclaa", sum := "d1dcd58c3fc1c98ca4e2a4a11b97e97fa501190d2d8d923dfb93e96e5f0d0142", checked := Try.checked }
namespace Rows
def none {H : Type} : Left H := { results := [], args := [] }

/-- 'rastrumlaw15.DashRuns': WHATEVER THE INPUT: true; the input reads as it did. -/
def dashRunsSpec : ChangeSpec := { name := "dashRuns", fn := fun _ => fun
  | [d1, d2] => { results := [.lit (.bool true)], args := [d1, d2] }
  | _ => none }
def dashRunsRow : OpenClaim := { program := "ytbaapkffmloclaa", sum := "d1dcd58c3fc1c98ca4e2a4a11b97e97fa501190d2d8d923dfb93e96e5f0d0142", func := "rastrum/rastrumlaw15.DashRuns", spec := "dashRuns", apart := false }
def DashRunsSaid : Prop := dashRunsRow.holds Try.pinned (OpenSpec.ofChange dashRunsSpec)

/-- ITS FALSE NEIGHBOUR: 'it returns false'. Refute it at one input. -/
def dashRunsWrong : ChangeSpec := { name := "dashRuns", fn := fun _ => fun
  | [d1, d2] => { results := [.lit (.bool false)], args := [d1, d2] }
  | _ => none }
def DashRunsWrongFalsely : Prop := dashRunsRow.holds Try.pinned (OpenSpec.ofChange dashRunsWrong)

/-- 'rastrumlaw15.DashSplits': WHATEVER THE INPUT: true; the input reads as it did. -/
def dashSplitsSpec : ChangeSpec := { name := "dashSplits", fn := fun _ => fun
  | [d1, d2] => { results := [.lit (.bool true)], args := [d1, d2] }
  | _ => none }
def dashSplitsRow : OpenClaim := { program := "ytbaapkffmloclaa", sum := "d1dcd58c3fc1c98ca4e2a4a11b97e97fa501190d2d8d923dfb93e96e5f0d0142", func := "rastrum/rastrumlaw15.DashSplits", spec := "dashSplits", apart := false }
def DashSplitsSaid : Prop := dashSplitsRow.holds Try.pinned (OpenSpec.ofChange dashSplitsSpec)

/-- ITS FALSE NEIGHBOUR: 'it returns false'. Refute it at one input. -/
def dashSplitsWrong : ChangeSpec := { name := "dashSplits", fn := fun _ => fun
  | [d1, d2] => { results := [.lit (.bool false)], args := [d1, d2] }
  | _ => none }
def DashSplitsWrongFalsely : Prop := dashSplitsRow.holds Try.pinned (OpenSpec.ofChange dashSplitsWrong)

/-- 'rastrumlaw15.DashTells': WHATEVER THE INPUT: true; the input reads as it did. -/
def dashTellsSpec : ChangeSpec := { name := "dashTells", fn := fun _ => fun
  | [d1, d2, d3] => { results := [.lit (.bool true)], args := [d1, d2, d3] }
  | _ => none }
def dashTellsRow : OpenClaim := { program := "ytbaapkffmloclaa", sum := "d1dcd58c3fc1c98ca4e2a4a11b97e97fa501190d2d8d923dfb93e96e5f0d0142", func := "rastrum/rastrumlaw15.DashTells", spec := "dashTells", apart := false }
def DashTellsSaid : Prop := dashTellsRow.holds Try.pinned (OpenSpec.ofChange dashTellsSpec)

/-- ITS FALSE NEIGHBOUR: 'it returns false'. Refute it at one input. -/
def dashTellsWrong : ChangeSpec := { name := "dashTells", fn := fun _ => fun
  | [d1, d2, d3] => { results := [.lit (.bool false)], args := [d1, d2, d3] }
  | _ => none }
def DashTellsWrongFalsely : Prop := dashTellsRow.holds Try.pinned (OpenSpec.ofChange dashTellsWrong)

/-- 'rastrumlaw15.DashLater': WHATEVER THE INPUT: true; the input reads as it did. -/
def dashLaterSpec : ChangeSpec := { name := "dashLater", fn := fun _ => fun
  | [d1, d2, d3] => { results := [.lit (.bool true)], args := [d1, d2, d3] }
  | _ => none }
def dashLaterRow : OpenClaim := { program := "ytbaapkffmloclaa", sum := "d1dcd58c3fc1c98ca4e2a4a11b97e97fa501190d2d8d923dfb93e96e5f0d0142", func := "rastrum/rastrumlaw15.DashLater", spec := "dashLater", apart := false }
def DashLaterSaid : Prop := dashLaterRow.holds Try.pinned (OpenSpec.ofChange dashLaterSpec)

/-- ITS FALSE NEIGHBOUR: 'it returns false'. Refute it at one input. -/
def dashLaterWrong : ChangeSpec := { name := "dashLater", fn := fun _ => fun
  | [d1, d2, d3] => { results := [.lit (.bool false)], args := [d1, d2, d3] }
  | _ => none }
def DashLaterWrongFalsely : Prop := dashLaterRow.holds Try.pinned (OpenSpec.ofChange dashLaterWrong)

/- THE SECOND FORM. 'bulk': how many values and letters a reading holds, each counted each time it is reached (what is shared counts as often as it is met; a slice's spare places count too). A statement '..UptoSaid' is the law's where the arguments, and the package variables that the reading takes, are together of bulk at most 1048576: NARROWER than '..Said'. Prove '..Said' where nothing that the law and all that it calls make is longer than what came in: it says more and counts as full. Else prove '..UptoSaid'. A law counts once. -/
mutual
def uptoBulk {H : Type} : DataW H → Nat
  | .lit (.string bytes) => bytes.length + 1
  | .lit _ => 1
  | .nil => 1
  | .ptr d => uptoBulk d + 1
  | .slice elems spare => uptoBulkAll elems + uptoBulkAll spare + 1
  | .agg parts => uptoBulkAll parts + 1
  | .iface _ d => uptoBulk d + 1
  | .map entries => uptoBulkEntries entries + 1
  | .held _ => 1
def uptoBulkAll {H : Type} : List (DataW H) → Nat
  | [] => 0
  | d :: r => uptoBulk d + uptoBulkAll r
def uptoBulkEntries {H : Type} : List (Lit × DataW H) → Nat
  | [] => 0
  | x :: r => uptoBulkEntry x + uptoBulkEntries r
def uptoBulkEntry {H : Type} : Lit × DataW H → Nat
  | (.string bytes, d) => bytes.length + uptoBulk d + 1
  | (_, d) => uptoBulk d + 1
 end
def uptoSmall : (H : Type) → List (DataW H) → Bool := fun _ ds => decide (uptoBulkAll ds ≤ 1048576)
def OpenSpec.upto (s : _root_.Go.ChangeSpec) : _root_.Go.OpenSpec := { _root_.Go.OpenSpec.ofChange s with cond := some uptoSmall }

/-- 'rastrumlaw15.DashRuns', WHERE WHAT IT READS IS OF BULK AT MOST 1048576: true; the input reads as it did. -/
def dashRunsUptoRow : OpenClaim := { program := "ytbaapkffmloclaa", sum := "d1dcd58c3fc1c98ca4e2a4a11b97e97fa501190d2d8d923dfb93e96e5f0d0142", func := "rastrum/rastrumlaw15.DashRuns", spec := "dashRuns", apart := false, narrowed := true }
def DashRunsUptoSaid : Prop := dashRunsUptoRow.holds Try.pinned (OpenSpec.upto dashRunsSpec)

/-- 'rastrumlaw15.DashSplits', WHERE WHAT IT READS IS OF BULK AT MOST 1048576: true; the input reads as it did. -/
def dashSplitsUptoRow : OpenClaim := { program := "ytbaapkffmloclaa", sum := "d1dcd58c3fc1c98ca4e2a4a11b97e97fa501190d2d8d923dfb93e96e5f0d0142", func := "rastrum/rastrumlaw15.DashSplits", spec := "dashSplits", apart := false, narrowed := true }
def DashSplitsUptoSaid : Prop := dashSplitsUptoRow.holds Try.pinned (OpenSpec.upto dashSplitsSpec)

/-- 'rastrumlaw15.DashTells', WHERE WHAT IT READS IS OF BULK AT MOST 1048576: true; the input reads as it did. -/
def dashTellsUptoRow : OpenClaim := { program := "ytbaapkffmloclaa", sum := "d1dcd58c3fc1c98ca4e2a4a11b97e97fa501190d2d8d923dfb93e96e5f0d0142", func := "rastrum/rastrumlaw15.DashTells", spec := "dashTells", apart := false, narrowed := true }
def DashTellsUptoSaid : Prop := dashTellsUptoRow.holds Try.pinned (OpenSpec.upto dashTellsSpec)

/-- 'rastrumlaw15.DashLater', WHERE WHAT IT READS IS OF BULK AT MOST 1048576: true; the input reads as it did. -/
def dashLaterUptoRow : OpenClaim := { program := "ytbaapkffmloclaa", sum := "d1dcd58c3fc1c98ca4e2a4a11b97e97fa501190d2d8d923dfb93e96e5f0d0142", func := "rastrum/rastrumlaw15.DashLater", spec := "dashLater", apart := false, narrowed := true }
def DashLaterUptoSaid : Prop := dashLaterUptoRow.holds Try.pinned (OpenSpec.upto dashLaterSpec)

end Rows
end Go.Proofs.Ytbaapkffmloclaa

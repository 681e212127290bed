/-
  No cell of these rows narrows 'for every input' (looked for: loops, veiled, ifaces, maps, wideKeys, modest, calm, conditions, laid).
  DERIVED. THE GIVEN ROWS OF THIS SEAT. 5 by the template 'for every input the law returns true; each argument reads behind the call as it read before'; 0 by the template 'total and deterministic' (their statements: YtmnnaofonefobaaTotals.lean).
  GIVEN WITH THE SEED: the statements are not yours to turn. If you find one false, say at which input.
  Laid BY PROGRAM, IN A SANDBOX (cutbox-rows.mjs): the forced cells as the released guide's own fill.sh prints them over the translation 2ddb0140a925586c… (all of the seat's roots in one cut). By AI agents, Wed Nov 11 2026. No macro, syntax, notation, axiom, sorry.
-/
import Derived.Test.YtmnnaofonefobaaChecked
import GoSem.Claim
import GoSem.ClaimJoined
import GoSem.ClaimMapViews
import Derived.JoinedTies
import Derived.KernelRfl
namespace Go.Proofs.Ytmnnaofonefobaa
/- THE CELL 'sum', in the pinned program and in every row, IS THE sha256 OF THE DUMP (.gsa) THAT YtmnnaofonefobaaProg.lean LOADS. Nothing in Lean hashes anything: it is a label: what it is worth is what the hold of that sum in a sandbox is worth. -/
noncomputable def Try.pinned : Pinned := { name := "ytmnnaofonefobaa", sum := "2ddb0140a925586ca0bda6019d9a6d3826ab221b450ad5b8367e3fd1847d68d3", checked := Try.checked }
namespace Rows
def none {H : Type} : Left H := { results := [], args := [] }

/-- 'rastrumlaw20.TriSpans': WHATEVER THE INPUT: true; the input reads as it did. -/
def triSpansSpec : ChangeSpec := { name := "triSpans", fn := fun _ => fun
  | [d1, d2] => { results := [.lit (.bool true)], args := [d1, d2] }
  | _ => none }
def triSpansRow : OpenClaim := { program := "ytmnnaofonefobaa", sum := "2ddb0140a925586ca0bda6019d9a6d3826ab221b450ad5b8367e3fd1847d68d3", func := "rastrum/rastrumlaw20.TriSpans", spec := "triSpans", apart := false }
def TriSpansSaid : Prop := triSpansRow.holds Try.pinned (OpenSpec.ofChange triSpansSpec)

/-- ITS FALSE NEIGHBOUR: 'it returns false'. Refute it at one input. -/
def triSpansWrong : ChangeSpec := { name := "triSpans", fn := fun _ => fun
  | [d1, d2] => { results := [.lit (.bool false)], args := [d1, d2] }
  | _ => none }
def TriSpansWrongFalsely : Prop := triSpansRow.holds Try.pinned (OpenSpec.ofChange triSpansWrong)

/-- 'rastrumlaw20.TriHas': WHATEVER THE INPUT: true; the input reads as it did. -/
def triHasSpec : ChangeSpec := { name := "triHas", fn := fun _ => fun
  | [d1, d2] => { results := [.lit (.bool true)], args := [d1, d2] }
  | _ => none }
def triHasRow : OpenClaim := { program := "ytmnnaofonefobaa", sum := "2ddb0140a925586ca0bda6019d9a6d3826ab221b450ad5b8367e3fd1847d68d3", func := "rastrum/rastrumlaw20.TriHas", spec := "triHas", apart := false }
def TriHasSaid : Prop := triHasRow.holds Try.pinned (OpenSpec.ofChange triHasSpec)

/-- ITS FALSE NEIGHBOUR: 'it returns false'. Refute it at one input. -/
def triHasWrong : ChangeSpec := { name := "triHas", fn := fun _ => fun
  | [d1, d2] => { results := [.lit (.bool false)], args := [d1, d2] }
  | _ => none }
def TriHasWrongFalsely : Prop := triHasRow.holds Try.pinned (OpenSpec.ofChange triHasWrong)

/-- 'rastrumlaw20.TriApart': WHATEVER THE INPUT: true; the input reads as it did. -/
def triApartSpec : ChangeSpec := { name := "triApart", fn := fun _ => fun
  | [d1, d2, d3] => { results := [.lit (.bool true)], args := [d1, d2, d3] }
  | _ => none }
def triApartRow : OpenClaim := { program := "ytmnnaofonefobaa", sum := "2ddb0140a925586ca0bda6019d9a6d3826ab221b450ad5b8367e3fd1847d68d3", func := "rastrum/rastrumlaw20.TriApart", spec := "triApart", apart := false }
def TriApartSaid : Prop := triApartRow.holds Try.pinned (OpenSpec.ofChange triApartSpec)

/-- ITS FALSE NEIGHBOUR: 'it returns false'. Refute it at one input. -/
def triApartWrong : ChangeSpec := { name := "triApart", fn := fun _ => fun
  | [d1, d2, d3] => { results := [.lit (.bool false)], args := [d1, d2, d3] }
  | _ => none }
def TriApartWrongFalsely : Prop := triApartRow.holds Try.pinned (OpenSpec.ofChange triApartWrong)

/-- 'rastrumlaw20.TriCut': WHATEVER THE INPUT: true; the input reads as it did. -/
def triCutSpec : ChangeSpec := { name := "triCut", fn := fun _ => fun
  | [d1, d2, d3] => { results := [.lit (.bool true)], args := [d1, d2, d3] }
  | _ => none }
def triCutRow : OpenClaim := { program := "ytmnnaofonefobaa", sum := "2ddb0140a925586ca0bda6019d9a6d3826ab221b450ad5b8367e3fd1847d68d3", func := "rastrum/rastrumlaw20.TriCut", spec := "triCut", apart := false }
def TriCutSaid : Prop := triCutRow.holds Try.pinned (OpenSpec.ofChange triCutSpec)

/-- ITS FALSE NEIGHBOUR: 'it returns false'. Refute it at one input. -/
def triCutWrong : ChangeSpec := { name := "triCut", fn := fun _ => fun
  | [d1, d2, d3] => { results := [.lit (.bool false)], args := [d1, d2, d3] }
  | _ => none }
def TriCutWrongFalsely : Prop := triCutRow.holds Try.pinned (OpenSpec.ofChange triCutWrong)

/-- 'rastrumlaw20.TriMoves': WHATEVER THE INPUT: true; the input reads as it did. -/
def triMovesSpec : ChangeSpec := { name := "triMoves", fn := fun _ => fun
  | [d1, d2] => { results := [.lit (.bool true)], args := [d1, d2] }
  | _ => none }
def triMovesRow : OpenClaim := { program := "ytmnnaofonefobaa", sum := "2ddb0140a925586ca0bda6019d9a6d3826ab221b450ad5b8367e3fd1847d68d3", func := "rastrum/rastrumlaw20.TriMoves", spec := "triMoves", apart := false }
def TriMovesSaid : Prop := triMovesRow.holds Try.pinned (OpenSpec.ofChange triMovesSpec)

/-- ITS FALSE NEIGHBOUR: 'it returns false'. Refute it at one input. -/
def triMovesWrong : ChangeSpec := { name := "triMoves", fn := fun _ => fun
  | [d1, d2] => { results := [.lit (.bool false)], args := [d1, d2] }
  | _ => none }
def TriMovesWrongFalsely : Prop := triMovesRow.holds Try.pinned (OpenSpec.ofChange triMovesWrong)

/- THE SECOND FORM. 'bulk': how many values and letters a reading holds, each counted each time it is reached (what is shared counts as often as it is met; a slice's spare places count too). A statement '..UptoSaid' is the law's where the arguments, and the package variables that the reading takes, are together of bulk at most 1048576: NARROWER than '..Said'. Prove '..Said' where nothing that the law and all that it calls make is longer than what came in: it says more and counts as full. Else prove '..UptoSaid'. A law counts once. -/
mutual
def uptoBulk {H : Type} : DataW H → Nat
  | .lit (.string bytes) => bytes.length + 1
  | .lit _ => 1
  | .nil => 1
  | .ptr d => uptoBulk d + 1
  | .slice elems spare => uptoBulkAll elems + uptoBulkAll spare + 1
  | .agg parts => uptoBulkAll parts + 1
  | .iface _ d => uptoBulk d + 1
  | .map entries => uptoBulkEntries entries + 1
  | .held _ => 1
def uptoBulkAll {H : Type} : List (DataW H) → Nat
  | [] => 0
  | d :: r => uptoBulk d + uptoBulkAll r
def uptoBulkEntries {H : Type} : List (Lit × DataW H) → Nat
  | [] => 0
  | x :: r => uptoBulkEntry x + uptoBulkEntries r
def uptoBulkEntry {H : Type} : Lit × DataW H → Nat
  | (.string bytes, d) => bytes.length + uptoBulk d + 1
  | (_, d) => uptoBulk d + 1
 end
def uptoSmall : (H : Type) → List (DataW H) → Bool := fun _ ds => decide (uptoBulkAll ds ≤ 1048576)
def OpenSpec.upto (s : _root_.Go.ChangeSpec) : _root_.Go.OpenSpec := { _root_.Go.OpenSpec.ofChange s with cond := some uptoSmall }

/-- 'rastrumlaw20.TriSpans', WHERE WHAT IT READS IS OF BULK AT MOST 1048576: true; the input reads as it did. -/
def triSpansUptoRow : OpenClaim := { program := "ytmnnaofonefobaa", sum := "2ddb0140a925586ca0bda6019d9a6d3826ab221b450ad5b8367e3fd1847d68d3", func := "rastrum/rastrumlaw20.TriSpans", spec := "triSpans", apart := false, narrowed := true }
def TriSpansUptoSaid : Prop := triSpansUptoRow.holds Try.pinned (OpenSpec.upto triSpansSpec)

/-- 'rastrumlaw20.TriHas', WHERE WHAT IT READS IS OF BULK AT MOST 1048576: true; the input reads as it did. -/
def triHasUptoRow : OpenClaim := { program := "ytmnnaofonefobaa", sum := "2ddb0140a925586ca0bda6019d9a6d3826ab221b450ad5b8367e3fd1847d68d3", func := "rastrum/rastrumlaw20.TriHas", spec := "triHas", apart := false, narrowed := true }
def TriHasUptoSaid : Prop := triHasUptoRow.holds Try.pinned (OpenSpec.upto triHasSpec)

/-- 'rastrumlaw20.TriApart', WHERE WHAT IT READS IS OF BULK AT MOST 1048576: true; the input reads as it did. -/
def triApartUptoRow : OpenClaim := { program := "ytmnnaofonefobaa", sum := "2ddb0140a925586ca0bda6019d9a6d3826ab221b450ad5b8367e3fd1847d68d3", func := "rastrum/rastrumlaw20.TriApart", spec := "triApart", apart := false, narrowed := true }
def TriApartUptoSaid : Prop := triApartUptoRow.holds Try.pinned (OpenSpec.upto triApartSpec)

/-- 'rastrumlaw20.TriCut', WHERE WHAT IT READS IS OF BULK AT MOST 1048576: true; the input reads as it did. -/
def triCutUptoRow : OpenClaim := { program := "ytmnnaofonefobaa", sum := "2ddb0140a925586ca0bda6019d9a6d3826ab221b450ad5b8367e3fd1847d68d3", func := "rastrum/rastrumlaw20.TriCut", spec := "triCut", apart := false, narrowed := true }
def TriCutUptoSaid : Prop := triCutUptoRow.holds Try.pinned (OpenSpec.upto triCutSpec)

/-- 'rastrumlaw20.TriMoves', WHERE WHAT IT READS IS OF BULK AT MOST 1048576: true; the input reads as it did. -/
def triMovesUptoRow : OpenClaim := { program := "ytmnnaofonefobaa", sum := "2ddb0140a925586ca0bda6019d9a6d3826ab221b450ad5b8367e3fd1847d68d3", func := "rastrum/rastrumlaw20.TriMoves", spec := "triMoves", apart := false, narrowed := true }
def TriMovesUptoSaid : Prop := triMovesUptoRow.holds Try.pinned (OpenSpec.upto triMovesSpec)

end Rows
end Go.Proofs.Ytmnnaofonefobaa

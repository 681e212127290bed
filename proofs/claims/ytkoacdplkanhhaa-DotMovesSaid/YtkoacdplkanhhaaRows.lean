/-
  No cell of these rows narrows 'for every input' (looked for: loops, veiled, ifaces, maps, wideKeys, modest, calm, conditions, laid).
  DERIVED. THE GIVEN ROWS OF THIS SEAT. 4 by the template 'for every input the law returns true; each argument reads behind the call as it read before'; 0 by the template 'total and deterministic' (their statements: YtkoacdplkanhhaaTotals.lean).
  GIVEN WITH THE SEED: the statements are not yours to turn. If you find one false, say at which input.
  Laid BY PROGRAM, IN A SANDBOX (cutbox-rows.mjs): the forced cells as the released guide's own fill.sh prints them over the translation d5bd12f5e6618d70… (all of the seat's roots in one cut). By AI agents, Wed Nov 11 2026. No macro, syntax, notation, axiom, sorry.
-/
import Derived.Test.YtkoacdplkanhhaaChecked
import GoSem.Claim
import GoSem.ClaimJoined
import GoSem.ClaimMapViews
import Derived.JoinedTies
import Derived.KernelRfl
namespace Go.Proofs.Ytkoacdplkanhhaa
/- THE CELL 'sum', in the pinned program and in every row, IS THE sha256 OF THE DUMP (.gsa) THAT YtkoacdplkanhhaaProg.lean LOADS. Nothing in Lean hashes anything: it is a label: what it is worth is what the hold of that sum in a sandbox is worth. -/
noncomputable def Try.pinned : Pinned := { name := "ytkoacdplkanhhaa", sum := "d5bd12f5e6618d70b5d65924520b198b7a6630fe9e9178177abd6a02ee3f4d36", checked := Try.checked }
namespace Rows
def none {H : Type} : Left H := { results := [], args := [] }

/-- 'rastrumlaw19.DotTells': WHATEVER THE INPUT: true; the input reads as it did. -/
def dotTellsSpec : ChangeSpec := { name := "dotTells", fn := fun _ => fun
  | [d] => { results := [.lit (.bool true)], args := [d] }
  | _ => none }
def dotTellsRow : OpenClaim := { program := "ytkoacdplkanhhaa", sum := "d5bd12f5e6618d70b5d65924520b198b7a6630fe9e9178177abd6a02ee3f4d36", func := "rastrum/rastrumlaw19.DotTells", spec := "dotTells", unfollowed := true, recurses := true, apart := false }
def DotTellsSaid : Prop := dotTellsRow.holds Try.pinned (OpenSpec.ofChange dotTellsSpec)

/-- ITS FALSE NEIGHBOUR: 'it returns false'. Refute it at one input. -/
def dotTellsWrong : ChangeSpec := { name := "dotTells", fn := fun _ => fun
  | [d] => { results := [.lit (.bool false)], args := [d] }
  | _ => none }
def DotTellsWrongFalsely : Prop := dotTellsRow.holds Try.pinned (OpenSpec.ofChange dotTellsWrong)

/-- 'rastrumlaw19.DotCounts': WHATEVER THE INPUT: true; the input reads as it did. -/
def dotCountsSpec : ChangeSpec := { name := "dotCounts", fn := fun _ => fun
  | [d1, d2] => { results := [.lit (.bool true)], args := [d1, d2] }
  | _ => none }
def dotCountsRow : OpenClaim := { program := "ytkoacdplkanhhaa", sum := "d5bd12f5e6618d70b5d65924520b198b7a6630fe9e9178177abd6a02ee3f4d36", func := "rastrum/rastrumlaw19.DotCounts", spec := "dotCounts", unfollowed := true, recurses := true, apart := false }
def DotCountsSaid : Prop := dotCountsRow.holds Try.pinned (OpenSpec.ofChange dotCountsSpec)

/-- ITS FALSE NEIGHBOUR: 'it returns false'. Refute it at one input. -/
def dotCountsWrong : ChangeSpec := { name := "dotCounts", fn := fun _ => fun
  | [d1, d2] => { results := [.lit (.bool false)], args := [d1, d2] }
  | _ => none }
def DotCountsWrongFalsely : Prop := dotCountsRow.holds Try.pinned (OpenSpec.ofChange dotCountsWrong)

/-- 'rastrumlaw19.DotMoves': WHATEVER THE INPUT: true; the input reads as it did. -/
def dotMovesSpec : ChangeSpec := { name := "dotMoves", fn := fun _ => fun
  | [d1, d2] => { results := [.lit (.bool true)], args := [d1, d2] }
  | _ => none }
def dotMovesRow : OpenClaim := { program := "ytkoacdplkanhhaa", sum := "d5bd12f5e6618d70b5d65924520b198b7a6630fe9e9178177abd6a02ee3f4d36", func := "rastrum/rastrumlaw19.DotMoves", spec := "dotMoves", unfollowed := true, recurses := true, apart := false }
def DotMovesSaid : Prop := dotMovesRow.holds Try.pinned (OpenSpec.ofChange dotMovesSpec)

/-- ITS FALSE NEIGHBOUR: 'it returns false'. Refute it at one input. -/
def dotMovesWrong : ChangeSpec := { name := "dotMoves", fn := fun _ => fun
  | [d1, d2] => { results := [.lit (.bool false)], args := [d1, d2] }
  | _ => none }
def DotMovesWrongFalsely : Prop := dotMovesRow.holds Try.pinned (OpenSpec.ofChange dotMovesWrong)

/-- 'rastrumlaw19.DotSprites': WHATEVER THE INPUT: true; the input reads as it did. -/
def dotSpritesSpec : ChangeSpec := { name := "dotSprites", fn := fun _ => fun
  | [d1, d2] => { results := [.lit (.bool true)], args := [d1, d2] }
  | _ => none }
def dotSpritesRow : OpenClaim := { program := "ytkoacdplkanhhaa", sum := "d5bd12f5e6618d70b5d65924520b198b7a6630fe9e9178177abd6a02ee3f4d36", func := "rastrum/rastrumlaw19.DotSprites", spec := "dotSprites", unfollowed := true, recurses := true, apart := false }
def DotSpritesSaid : Prop := dotSpritesRow.holds Try.pinned (OpenSpec.ofChange dotSpritesSpec)

/-- ITS FALSE NEIGHBOUR: 'it returns false'. Refute it at one input. -/
def dotSpritesWrong : ChangeSpec := { name := "dotSprites", fn := fun _ => fun
  | [d1, d2] => { results := [.lit (.bool false)], args := [d1, d2] }
  | _ => none }
def DotSpritesWrongFalsely : Prop := dotSpritesRow.holds Try.pinned (OpenSpec.ofChange dotSpritesWrong)

/- THE SECOND FORM. 'bulk': how many values and letters a reading holds, each counted each time it is reached (what is shared counts as often as it is met; a slice's spare places count too). A statement '..UptoSaid' is the law's where the arguments, and the package variables that the reading takes, are together of bulk at most 1048576: NARROWER than '..Said'. Prove '..Said' where nothing that the law and all that it calls make is longer than what came in: it says more and counts as full. Else prove '..UptoSaid'. A law counts once. -/
mutual
def uptoBulk {H : Type} : DataW H → Nat
  | .lit (.string bytes) => bytes.length + 1
  | .lit _ => 1
  | .nil => 1
  | .ptr d => uptoBulk d + 1
  | .slice elems spare => uptoBulkAll elems + uptoBulkAll spare + 1
  | .agg parts => uptoBulkAll parts + 1
  | .iface _ d => uptoBulk d + 1
  | .map entries => uptoBulkEntries entries + 1
  | .held _ => 1
def uptoBulkAll {H : Type} : List (DataW H) → Nat
  | [] => 0
  | d :: r => uptoBulk d + uptoBulkAll r
def uptoBulkEntries {H : Type} : List (Lit × DataW H) → Nat
  | [] => 0
  | x :: r => uptoBulkEntry x + uptoBulkEntries r
def uptoBulkEntry {H : Type} : Lit × DataW H → Nat
  | (.string bytes, d) => bytes.length + uptoBulk d + 1
  | (_, d) => uptoBulk d + 1
 end
def uptoSmall : (H : Type) → List (DataW H) → Bool := fun _ ds => decide (uptoBulkAll ds ≤ 1048576)
def OpenSpec.upto (s : _root_.Go.ChangeSpec) : _root_.Go.OpenSpec := { _root_.Go.OpenSpec.ofChange s with cond := some uptoSmall }

/-- 'rastrumlaw19.DotTells', WHERE WHAT IT READS IS OF BULK AT MOST 1048576: true; the input reads as it did. -/
def dotTellsUptoRow : OpenClaim := { program := "ytkoacdplkanhhaa", sum := "d5bd12f5e6618d70b5d65924520b198b7a6630fe9e9178177abd6a02ee3f4d36", func := "rastrum/rastrumlaw19.DotTells", spec := "dotTells", unfollowed := true, recurses := true, apart := false, narrowed := true }
def DotTellsUptoSaid : Prop := dotTellsUptoRow.holds Try.pinned (OpenSpec.upto dotTellsSpec)

/-- 'rastrumlaw19.DotCounts', WHERE WHAT IT READS IS OF BULK AT MOST 1048576: true; the input reads as it did. -/
def dotCountsUptoRow : OpenClaim := { program := "ytkoacdplkanhhaa", sum := "d5bd12f5e6618d70b5d65924520b198b7a6630fe9e9178177abd6a02ee3f4d36", func := "rastrum/rastrumlaw19.DotCounts", spec := "dotCounts", unfollowed := true, recurses := true, apart := false, narrowed := true }
def DotCountsUptoSaid : Prop := dotCountsUptoRow.holds Try.pinned (OpenSpec.upto dotCountsSpec)

/-- 'rastrumlaw19.DotMoves', WHERE WHAT IT READS IS OF BULK AT MOST 1048576: true; the input reads as it did. -/
def dotMovesUptoRow : OpenClaim := { program := "ytkoacdplkanhhaa", sum := "d5bd12f5e6618d70b5d65924520b198b7a6630fe9e9178177abd6a02ee3f4d36", func := "rastrum/rastrumlaw19.DotMoves", spec := "dotMoves", unfollowed := true, recurses := true, apart := false, narrowed := true }
def DotMovesUptoSaid : Prop := dotMovesUptoRow.holds Try.pinned (OpenSpec.upto dotMovesSpec)

/-- 'rastrumlaw19.DotSprites', WHERE WHAT IT READS IS OF BULK AT MOST 1048576: true; the input reads as it did. -/
def dotSpritesUptoRow : OpenClaim := { program := "ytkoacdplkanhhaa", sum := "d5bd12f5e6618d70b5d65924520b198b7a6630fe9e9178177abd6a02ee3f4d36", func := "rastrum/rastrumlaw19.DotSprites", spec := "dotSprites", unfollowed := true, recurses := true, apart := false, narrowed := true }
def DotSpritesUptoSaid : Prop := dotSpritesUptoRow.holds Try.pinned (OpenSpec.upto dotSpritesSpec)

end Rows
end Go.Proofs.Ytkoacdplkanhhaa

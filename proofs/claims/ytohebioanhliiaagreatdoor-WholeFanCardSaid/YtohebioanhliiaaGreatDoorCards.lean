/-
  DERIVED. GIVEN WITH THE SEED: THE CARDS: each row of YtohebioanhliiaaGreatDoorRows.lean that lists a variable, with what it lists TIED to the program's text (the seventh form; the later family's looks); each row that meets fmt, with fmt's text TOLD by the authors' own Lean function (tested against real Go, not proved from fmt's source: count such statements apart). THE CARD IS WHAT COUNTS. Prove the row's statement (the work); the ties are given (YtohebioanhliiaaGreatDoorTie.lean); close each card by the builder's one call (the guide's Derived/Test/ToyasCard.lean, 'card_holds'). Laid BY PROGRAM, IN A SANDBOX (cutbox-door.mjs). By AI agents, Wed Nov 11 2026. No macro, syntax, notation, axiom, sorry.
-/
import Derived.Test.YtohebioanhliiaaGreatDoorRows
import GoSem.ClaimSeven
namespace Go.Proofs.YtohebioanhliiaaGreatDoor
namespace Rows

/-- THE TIED CARD OF 'rastrumtop.WholeFan'. -/
def wholeFanCard : Claim7 := { stood := { row := wholeFanRow, standIns := [], harness := (true, "2afb62b030b826eca8a00db1c9c4fc8da8c6b45d2a016693c6c25d61e2c85ce0"), looks := true }, kinds := [], alts := [], laidByText := true, laidKinds := [.data, .data, .data, .data, .data, .sentinel, .sentinel], laidTests := true, laidLooks := .later }
def WholeFanCardSaid : Prop := Claim7.holds Tryz.pinned (.plain (OpenSpec.ofChange wholeFanSpec)) wholeFanCard

/-- THE TIED CARD OF 'rastrumtop.WholeCulled'. -/
def wholeCulledCard : Claim7 := { stood := { row := wholeCulledRow, standIns := [], harness := (true, "2afb62b030b826eca8a00db1c9c4fc8da8c6b45d2a016693c6c25d61e2c85ce0"), looks := true }, kinds := [], alts := [], laidByText := true, laidKinds := [.data, .data, .data, .data, .data, .sentinel, .sentinel], laidTests := true, laidLooks := .later }
def WholeCulledCardSaid : Prop := Claim7.holds Tryz.pinned (.plain (OpenSpec.ofChange wholeCulledSpec)) wholeCulledCard

/-- THE TIED CARD OF 'rastrumtop.WholeFlat'. -/
def wholeFlatCard : Claim7 := { stood := { row := wholeFlatRow, standIns := [], harness := (true, "2afb62b030b826eca8a00db1c9c4fc8da8c6b45d2a016693c6c25d61e2c85ce0"), looks := true }, kinds := [], alts := [], laidByText := true, laidKinds := [.data, .data, .data, .data, .data, .sentinel, .sentinel], laidTests := true, laidLooks := .later }
def WholeFlatCardSaid : Prop := Claim7.holds Tryz.pinned (.plain (OpenSpec.ofChange wholeFlatSpec)) wholeFlatCard

/-- THE TIED CARD OF 'rastrumtop.WholeAgain'. -/
def wholeAgainCard : Claim7 := { stood := { row := wholeAgainRow, standIns := [], harness := (true, "2afb62b030b826eca8a00db1c9c4fc8da8c6b45d2a016693c6c25d61e2c85ce0"), looks := true }, kinds := [], alts := [], laidByText := true, laidKinds := [.data, .data, .data, .data, .data, .sentinel, .sentinel], laidTests := true, laidLooks := .later }
def WholeAgainCardSaid : Prop := Claim7.holds Tryz.pinned (.plain (OpenSpec.ofChange wholeAgainSpec)) wholeAgainCard

/-- THE TIED CARD OF 'rastrumtop.WholeSides'. -/
def wholeSidesCard : Claim7 := { stood := { row := wholeSidesRow, standIns := [], harness := (true, "2afb62b030b826eca8a00db1c9c4fc8da8c6b45d2a016693c6c25d61e2c85ce0"), looks := true }, kinds := [], alts := [], laidByText := true, laidKinds := [.data, .data, .data, .data, .data, .sentinel, .sentinel], laidTests := true, laidLooks := .later }
def WholeSidesCardSaid : Prop := Claim7.holds Tryz.pinned (.plain (OpenSpec.ofChange wholeSidesSpec)) wholeSidesCard

/-- THE TIED CARD OF 'rastrumtop.WholeBounds'. -/
def wholeBoundsCard : Claim7 := { stood := { row := wholeBoundsRow, standIns := [], harness := (true, "2afb62b030b826eca8a00db1c9c4fc8da8c6b45d2a016693c6c25d61e2c85ce0"), looks := true }, kinds := [], alts := [], laidByText := true, laidKinds := [.data, .data, .data, .data, .data, .sentinel, .sentinel], laidTests := true, laidLooks := .later }
def WholeBoundsCardSaid : Prop := Claim7.holds Tryz.pinned (.plain (OpenSpec.ofChange wholeBoundsSpec)) wholeBoundsCard

/-- THE SECOND FORM's CARD OF 'rastrumtop.WholeFan'. -/
def wholeFanUptoCard : Claim7 := { stood := { row := wholeFanUptoRow, standIns := [], harness := (true, "2afb62b030b826eca8a00db1c9c4fc8da8c6b45d2a016693c6c25d61e2c85ce0"), looks := true }, kinds := [], alts := [], laidByText := true, laidKinds := [.data, .data, .data, .data, .data, .sentinel, .sentinel], laidTests := true, laidLooks := .later }
def WholeFanUptoCardSaid : Prop := Claim7.holds Tryz.pinned (.plain (OpenSpec.upto wholeFanSpec)) wholeFanUptoCard

/-- THE SECOND FORM's CARD OF 'rastrumtop.WholeCulled'. -/
def wholeCulledUptoCard : Claim7 := { stood := { row := wholeCulledUptoRow, standIns := [], harness := (true, "2afb62b030b826eca8a00db1c9c4fc8da8c6b45d2a016693c6c25d61e2c85ce0"), looks := true }, kinds := [], alts := [], laidByText := true, laidKinds := [.data, .data, .data, .data, .data, .sentinel, .sentinel], laidTests := true, laidLooks := .later }
def WholeCulledUptoCardSaid : Prop := Claim7.holds Tryz.pinned (.plain (OpenSpec.upto wholeCulledSpec)) wholeCulledUptoCard

/-- THE SECOND FORM's CARD OF 'rastrumtop.WholeFlat'. -/
def wholeFlatUptoCard : Claim7 := { stood := { row := wholeFlatUptoRow, standIns := [], harness := (true, "2afb62b030b826eca8a00db1c9c4fc8da8c6b45d2a016693c6c25d61e2c85ce0"), looks := true }, kinds := [], alts := [], laidByText := true, laidKinds := [.data, .data, .data, .data, .data, .sentinel, .sentinel], laidTests := true, laidLooks := .later }
def WholeFlatUptoCardSaid : Prop := Claim7.holds Tryz.pinned (.plain (OpenSpec.upto wholeFlatSpec)) wholeFlatUptoCard

/-- THE SECOND FORM's CARD OF 'rastrumtop.WholeAgain'. -/
def wholeAgainUptoCard : Claim7 := { stood := { row := wholeAgainUptoRow, standIns := [], harness := (true, "2afb62b030b826eca8a00db1c9c4fc8da8c6b45d2a016693c6c25d61e2c85ce0"), looks := true }, kinds := [], alts := [], laidByText := true, laidKinds := [.data, .data, .data, .data, .data, .sentinel, .sentinel], laidTests := true, laidLooks := .later }
def WholeAgainUptoCardSaid : Prop := Claim7.holds Tryz.pinned (.plain (OpenSpec.upto wholeAgainSpec)) wholeAgainUptoCard

/-- THE SECOND FORM's CARD OF 'rastrumtop.WholeSides'. -/
def wholeSidesUptoCard : Claim7 := { stood := { row := wholeSidesUptoRow, standIns := [], harness := (true, "2afb62b030b826eca8a00db1c9c4fc8da8c6b45d2a016693c6c25d61e2c85ce0"), looks := true }, kinds := [], alts := [], laidByText := true, laidKinds := [.data, .data, .data, .data, .data, .sentinel, .sentinel], laidTests := true, laidLooks := .later }
def WholeSidesUptoCardSaid : Prop := Claim7.holds Tryz.pinned (.plain (OpenSpec.upto wholeSidesSpec)) wholeSidesUptoCard

/-- THE SECOND FORM's CARD OF 'rastrumtop.WholeBounds'. -/
def wholeBoundsUptoCard : Claim7 := { stood := { row := wholeBoundsUptoRow, standIns := [], harness := (true, "2afb62b030b826eca8a00db1c9c4fc8da8c6b45d2a016693c6c25d61e2c85ce0"), looks := true }, kinds := [], alts := [], laidByText := true, laidKinds := [.data, .data, .data, .data, .data, .sentinel, .sentinel], laidTests := true, laidLooks := .later }
def WholeBoundsUptoCardSaid : Prop := Claim7.holds Tryz.pinned (.plain (OpenSpec.upto wholeBoundsSpec)) wholeBoundsUptoCard
end Rows
end Go.Proofs.YtohebioanhliiaaGreatDoor

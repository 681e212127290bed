/-
  No cell of these rows narrows 'for every input' (looked for: loops, veiled, ifaces, maps, wideKeys, modest, calm, conditions, laid).
  DERIVED. THE GIVEN ROWS OF THIS SEAT. 4 by the template 'for every input the law returns true; each argument reads behind the call as it read before'; 0 by the template 'total and deterministic' (their statements: YtdbahmcjdojiaaaTotals.lean).
  GIVEN WITH THE SEED: the statements are not yours to turn. If you find one false, say at which input.
  Laid BY PROGRAM, IN A SANDBOX (cutbox-rows.mjs): the forced cells as the released guide's own fill.sh prints them over the translation bd654ea2432e2bd1… (all of the seat's roots in one cut). By AI agents, Wed Nov 11 2026. No macro, syntax, notation, axiom, sorry.
-/
import Derived.Test.YtdbahmcjdojiaaaChecked
import GoSem.Claim
import GoSem.ClaimJoined
import GoSem.ClaimMapViews
import Derived.JoinedTies
import Derived.KernelRfl
namespace Go.Proofs.Ytdbahmcjdojiaaa
/- THE CELL 'sum', in the pinned program and in every row, IS THE sha256 OF THE DUMP (.gsa) THAT YtdbahmcjdojiaaaProg.lean LOADS. Nothing in Lean hashes anything: it is a label: what it is worth is what the hold of that sum in a sandbox is worth. -/
noncomputable def Try.pinned : Pinned := { name := "ytdbahmcjdojiaaa", sum := "bd654ea2432e2bd105b21b76edd49cfcd62fccb6b6a697f3c05e87ba13f2f7ed", checked := Try.checked }
namespace Rows
def none {H : Type} : Left H := { results := [], args := [] }

/-- 'rastrumlaw12.RectCuts': WHATEVER THE INPUT: true; the input reads as it did. -/
def rectCutsSpec : ChangeSpec := { name := "rectCuts", fn := fun _ => fun
  | [d1, d2, d3] => { results := [.lit (.bool true)], args := [d1, d2, d3] }
  | _ => none }
def rectCutsRow : OpenClaim := { program := "ytdbahmcjdojiaaa", sum := "bd654ea2432e2bd105b21b76edd49cfcd62fccb6b6a697f3c05e87ba13f2f7ed", func := "rastrum/rastrumlaw12.RectCuts", spec := "rectCuts", apart := false }
def RectCutsSaid : Prop := rectCutsRow.holds Try.pinned (OpenSpec.ofChange rectCutsSpec)

/-- ITS FALSE NEIGHBOUR: 'it returns false'. Refute it at one input. -/
def rectCutsWrong : ChangeSpec := { name := "rectCuts", fn := fun _ => fun
  | [d1, d2, d3] => { results := [.lit (.bool false)], args := [d1, d2, d3] }
  | _ => none }
def RectCutsWrongFalsely : Prop := rectCutsRow.holds Try.pinned (OpenSpec.ofChange rectCutsWrong)

/-- 'rastrumlaw12.RectOnce': WHATEVER THE INPUT: true; the input reads as it did. -/
def rectOnceSpec : ChangeSpec := { name := "rectOnce", fn := fun _ => fun
  | [d] => { results := [.lit (.bool true)], args := [d] }
  | _ => none }
def rectOnceRow : OpenClaim := { program := "ytdbahmcjdojiaaa", sum := "bd654ea2432e2bd105b21b76edd49cfcd62fccb6b6a697f3c05e87ba13f2f7ed", func := "rastrum/rastrumlaw12.RectOnce", spec := "rectOnce", apart := false }
def RectOnceSaid : Prop := rectOnceRow.holds Try.pinned (OpenSpec.ofChange rectOnceSpec)

/-- ITS FALSE NEIGHBOUR: 'it returns false'. Refute it at one input. -/
def rectOnceWrong : ChangeSpec := { name := "rectOnce", fn := fun _ => fun
  | [d] => { results := [.lit (.bool false)], args := [d] }
  | _ => none }
def RectOnceWrongFalsely : Prop := rectOnceRow.holds Try.pinned (OpenSpec.ofChange rectOnceWrong)

/-- 'rastrumlaw12.RectSums': WHATEVER THE INPUT: true; the input reads as it did. -/
def rectSumsSpec : ChangeSpec := { name := "rectSums", fn := fun _ => fun
  | [d1, d2, d3] => { results := [.lit (.bool true)], args := [d1, d2, d3] }
  | _ => none }
def rectSumsRow : OpenClaim := { program := "ytdbahmcjdojiaaa", sum := "bd654ea2432e2bd105b21b76edd49cfcd62fccb6b6a697f3c05e87ba13f2f7ed", func := "rastrum/rastrumlaw12.RectSums", spec := "rectSums", apart := false }
def RectSumsSaid : Prop := rectSumsRow.holds Try.pinned (OpenSpec.ofChange rectSumsSpec)

/-- ITS FALSE NEIGHBOUR: 'it returns false'. Refute it at one input. -/
def rectSumsWrong : ChangeSpec := { name := "rectSums", fn := fun _ => fun
  | [d1, d2, d3] => { results := [.lit (.bool false)], args := [d1, d2, d3] }
  | _ => none }
def RectSumsWrongFalsely : Prop := rectSumsRow.holds Try.pinned (OpenSpec.ofChange rectSumsWrong)

/-- 'rastrumlaw12.RectTells': WHATEVER THE INPUT: true; the input reads as it did. -/
def rectTellsSpec : ChangeSpec := { name := "rectTells", fn := fun _ => fun
  | [d1, d2, d3] => { results := [.lit (.bool true)], args := [d1, d2, d3] }
  | _ => none }
def rectTellsRow : OpenClaim := { program := "ytdbahmcjdojiaaa", sum := "bd654ea2432e2bd105b21b76edd49cfcd62fccb6b6a697f3c05e87ba13f2f7ed", func := "rastrum/rastrumlaw12.RectTells", spec := "rectTells", apart := false }
def RectTellsSaid : Prop := rectTellsRow.holds Try.pinned (OpenSpec.ofChange rectTellsSpec)

/-- ITS FALSE NEIGHBOUR: 'it returns false'. Refute it at one input. -/
def rectTellsWrong : ChangeSpec := { name := "rectTells", fn := fun _ => fun
  | [d1, d2, d3] => { results := [.lit (.bool false)], args := [d1, d2, d3] }
  | _ => none }
def RectTellsWrongFalsely : Prop := rectTellsRow.holds Try.pinned (OpenSpec.ofChange rectTellsWrong)

/- THE SECOND FORM. 'bulk': how many values and letters a reading holds, each counted each time it is reached (what is shared counts as often as it is met; a slice's spare places count too). A statement '..UptoSaid' is the law's where the arguments, and the package variables that the reading takes, are together of bulk at most 1048576: NARROWER than '..Said'. Prove '..Said' where nothing that the law and all that it calls make is longer than what came in: it says more and counts as full. Else prove '..UptoSaid'. A law counts once. -/
mutual
def uptoBulk {H : Type} : DataW H → Nat
  | .lit (.string bytes) => bytes.length + 1
  | .lit _ => 1
  | .nil => 1
  | .ptr d => uptoBulk d + 1
  | .slice elems spare => uptoBulkAll elems + uptoBulkAll spare + 1
  | .agg parts => uptoBulkAll parts + 1
  | .iface _ d => uptoBulk d + 1
  | .map entries => uptoBulkEntries entries + 1
  | .held _ => 1
def uptoBulkAll {H : Type} : List (DataW H) → Nat
  | [] => 0
  | d :: r => uptoBulk d + uptoBulkAll r
def uptoBulkEntries {H : Type} : List (Lit × DataW H) → Nat
  | [] => 0
  | x :: r => uptoBulkEntry x + uptoBulkEntries r
def uptoBulkEntry {H : Type} : Lit × DataW H → Nat
  | (.string bytes, d) => bytes.length + uptoBulk d + 1
  | (_, d) => uptoBulk d + 1
 end
def uptoSmall : (H : Type) → List (DataW H) → Bool := fun _ ds => decide (uptoBulkAll ds ≤ 1048576)
def OpenSpec.upto (s : _root_.Go.ChangeSpec) : _root_.Go.OpenSpec := { _root_.Go.OpenSpec.ofChange s with cond := some uptoSmall }

/-- 'rastrumlaw12.RectCuts', WHERE WHAT IT READS IS OF BULK AT MOST 1048576: true; the input reads as it did. -/
def rectCutsUptoRow : OpenClaim := { program := "ytdbahmcjdojiaaa", sum := "bd654ea2432e2bd105b21b76edd49cfcd62fccb6b6a697f3c05e87ba13f2f7ed", func := "rastrum/rastrumlaw12.RectCuts", spec := "rectCuts", apart := false, narrowed := true }
def RectCutsUptoSaid : Prop := rectCutsUptoRow.holds Try.pinned (OpenSpec.upto rectCutsSpec)

/-- 'rastrumlaw12.RectOnce', WHERE WHAT IT READS IS OF BULK AT MOST 1048576: true; the input reads as it did. -/
def rectOnceUptoRow : OpenClaim := { program := "ytdbahmcjdojiaaa", sum := "bd654ea2432e2bd105b21b76edd49cfcd62fccb6b6a697f3c05e87ba13f2f7ed", func := "rastrum/rastrumlaw12.RectOnce", spec := "rectOnce", apart := false, narrowed := true }
def RectOnceUptoSaid : Prop := rectOnceUptoRow.holds Try.pinned (OpenSpec.upto rectOnceSpec)

/-- 'rastrumlaw12.RectSums', WHERE WHAT IT READS IS OF BULK AT MOST 1048576: true; the input reads as it did. -/
def rectSumsUptoRow : OpenClaim := { program := "ytdbahmcjdojiaaa", sum := "bd654ea2432e2bd105b21b76edd49cfcd62fccb6b6a697f3c05e87ba13f2f7ed", func := "rastrum/rastrumlaw12.RectSums", spec := "rectSums", apart := false, narrowed := true }
def RectSumsUptoSaid : Prop := rectSumsUptoRow.holds Try.pinned (OpenSpec.upto rectSumsSpec)

/-- 'rastrumlaw12.RectTells', WHERE WHAT IT READS IS OF BULK AT MOST 1048576: true; the input reads as it did. -/
def rectTellsUptoRow : OpenClaim := { program := "ytdbahmcjdojiaaa", sum := "bd654ea2432e2bd105b21b76edd49cfcd62fccb6b6a697f3c05e87ba13f2f7ed", func := "rastrum/rastrumlaw12.RectTells", spec := "rectTells", apart := false, narrowed := true }
def RectTellsUptoSaid : Prop := rectTellsUptoRow.holds Try.pinned (OpenSpec.upto rectTellsSpec)

end Rows
end Go.Proofs.Ytdbahmcjdojiaaa

/- The Go function GuardPlays returns true for every input, and each argument reads behind the call as it read before. No condition but the given row's own. -/
import Derived.Test.YtfdpnmohpdekiaaLaws3
import Derived.Test.YtfdpnmohpdekiaaSxH2
import Derived.Test.YtfdpnmohpdekiaaBulk
import Derived.WalkKit
set_option linter.unusedVariables false
set_option linter.unusedSimpArgs false
namespace Go.Proofs.Ytfdpnmohpdekiaa.guardPlays
open Go.ChangeShapes Go.WideShapes Go.ChangeAt Go.RowKit Go.Sx Go.Proofs.Ytfdpnmohpdekiaa.Fns Go.Proofs.Ytfdpnmohpdekiaa.Trees

theorem own : ownKnob Try.prog.godebug = none := by kernel_rfl
theorem laid : laidOutB Try.prog = true := by kernel_rfl

set_option maxRecDepth 100000 in
theorem lifted (os : Os) (started : os.Started) (H : Type) (enc : TypeId × Value → H) :
    ReturnsInHanded {} Try.checked os 3 .any (Rows.guardPlaysSpec.pre6 enc Try.prog Try.f3 Rows.guardPlaysRow.domain false) (Rows.guardPlaysSpec.post enc Try.prog Try.f3 false true false false) := by
  refine returnsInHanded_of_change (C := Try.checked) own started (by kernel_rfl) Try.func3
    (ChangeSpec.witness6 (enc := enc) (C := Try.checked) false ⟨#[], #[.slice none 0 0], []⟩ 8 (by kernel_rfl) (by kernel_rfl) (by kernel_rfl) (by kernel_rfl)) ?_
  intro W base args ds gs before hval hW hcnd _
  exact law_cap Bulk.slice Bulk.agg ok3 (by kernel_rfl) laid (by kernel_rfl) rfl rfl rfl (fun ds h => by match ds, h with | [a], _ => rfl) hval hW

theorem over : Rows.guardPlaysRow.holds Try.pinned (OpenSpec.ofChange Rows.guardPlaysSpec) :=
  OpenClaim.holds_of_wide 3 Try.f3 rfl rfl rfl rfl rfl rfl rfl ⟨rfl, rfl, rfl, rfl, rfl⟩ rfl rfl rfl rfl rfl (by kernel_rfl) Try.func3 (by kernel_rfl)
    (of_decide_eq_true (by kernel_rfl)) (by unfold Func.isWrapper; first | (rw [if_pos (by decide +kernel)]; kernel_rfl) | (rw [if_neg (by decide +kernel)]; exact ⟨rfl, rfl⟩))
    (fun os started H enc _ => lifted os started H enc)

theorem proved : Rows.GuardPlaysSaid :=
  over
end Go.Proofs.Ytfdpnmohpdekiaa.guardPlays

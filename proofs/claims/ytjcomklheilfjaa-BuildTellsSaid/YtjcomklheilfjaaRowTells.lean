/- The Go function BuildTells returns true for every input, and each argument reads behind the call as it read before. No condition but the given row's own. -/
import Derived.Test.YtjcomklheilfjaaLaws5
import Derived.Test.YtjcomklheilfjaaSxH2
import Derived.Test.YtjcomklheilfjaaBulk
import Derived.WalkKit
set_option linter.unusedVariables false
set_option linter.unusedSimpArgs false
namespace Go.Proofs.Ytjcomklheilfjaa.buildTells
open Go.ChangeShapes Go.WideShapes Go.ChangeAt Go.RowKit Go.Sx Go.Proofs.Ytjcomklheilfjaa.Fns Go.Proofs.Ytjcomklheilfjaa.Trees

theorem own : ownKnob Try.prog.godebug = none := by kernel_rfl
theorem laid : laidOutB Try.prog = true := by kernel_rfl

set_option maxRecDepth 100000 in
theorem lifted (os : Os) (started : os.Started) (H : Type) (enc : TypeId × Value → H) :
    ReturnsInHanded {} Try.checked os 3 .any (Rows.buildTellsSpec.pre6 enc Try.prog Try.f3 Rows.buildTellsRow.domain false) (Rows.buildTellsSpec.post enc Try.prog Try.f3 false true false false) := by
  refine returnsInHanded_of_change (C := Try.checked) own started (by kernel_rfl) Try.func3
    (ChangeSpec.witness6 (enc := enc) (C := Try.checked) false ⟨#[], #[.int .i64 0, .slice none 0 0, .bool false], []⟩ 8 (by kernel_rfl) (by kernel_rfl) (by kernel_rfl) (by kernel_rfl)) ?_
  intro W base args ds gs before hval hW hcnd _
  exact law_step Bulk.slice Bulk.agg ok3 rfl (by kernel_rfl) laid (by kernel_rfl) rfl rfl rfl (fun ds h => by match ds, h with | [a, b, c], _ => rfl) hval hW (fun dvs h _ => pre3 dvs h)

theorem over : Rows.buildTellsRow.holds Try.pinned (OpenSpec.ofChange Rows.buildTellsSpec) :=
  OpenClaim.holds_of_wide 3 Try.f3 rfl rfl rfl rfl rfl rfl rfl ⟨rfl, rfl, rfl, rfl, rfl⟩ rfl rfl rfl rfl rfl (by kernel_rfl) Try.func3 (by kernel_rfl)
    (of_decide_eq_true (by kernel_rfl)) (by unfold Func.isWrapper; first | (rw [if_pos (by decide +kernel)]; kernel_rfl) | (rw [if_neg (by decide +kernel)]; exact ⟨rfl, rfl⟩))
    (fun os started H enc _ => lifted os started H enc)

theorem proved : Rows.BuildTellsSaid :=
  over
end Go.Proofs.Ytjcomklheilfjaa.buildTells

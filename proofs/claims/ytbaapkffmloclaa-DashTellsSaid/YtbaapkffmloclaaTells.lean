/- The Go function DashTells of package rastrumlaw15 returns true for every input, and each argument reads behind the call as it read before. No condition but the given row's own. -/
import Derived.Test.YtbaapkffmloclaaLaws
import Derived.Test.YtbaapkffmloclaaSxH2
import Derived.Test.YtbaapkffmloclaaBulk
import Derived.WalkKit
set_option linter.unusedVariables false
set_option linter.unusedSimpArgs false
namespace Go.Proofs.Ytbaapkffmloclaa.Tells
open Go.ChangeShapes Go.WideShapes Go.ChangeAt Go.RowKit Go.Sx Go.Proofs.Ytbaapkffmloclaa.Fns Go.Proofs.Ytbaapkffmloclaa.Trees

theorem own : ownKnob Try.prog.godebug = none := by kernel_rfl
theorem laid : laidOutB Try.prog = true := by kernel_rfl

theorem pre5 (dvs : List DV) (h : dvsIn (cts sg5.args) dvs) : c5.pre dvs := by
  simp only [sg5, cts, List.flatMap_cons, List.flatMap_nil, VT.cts, List.append_nil, List.cons_append, List.nil_append] at h
  match dvs, h with
  | [.i p, .i r, .i c, .i k, .i n], ⟨h1, h2, h3, h4, h5, _⟩ => exact ⟨h1, h2, h3⟩

set_option maxRecDepth 100000 in
theorem lifted (os : Os) (started : os.Started) (H : Type) (enc : TypeId × Value → H) :
    ReturnsInHanded {} Try.checked os 5 .any (Rows.dashTellsSpec.pre6 enc Try.prog Try.f5 Rows.dashTellsRow.domain false) (Rows.dashTellsSpec.post enc Try.prog Try.f5 false true false false) := by
  refine returnsInHanded_of_change (C := Try.checked) own started (by kernel_rfl) Try.func5
    (ChangeSpec.witness6 (enc := enc) (C := Try.checked) false ⟨#[], #[.agg #[.int .i64 0, .int .i64 0, .int .i64 0], .int .i64 0, .int .i64 0], []⟩ 8 (by kernel_rfl) (by kernel_rfl) (by kernel_rfl) (by kernel_rfl)) ?_
  intro W base args ds gs before hval hW hcnd _
  exact law_step Bulk.slice Bulk.agg ok5 rfl (by kernel_rfl) laid (by kernel_rfl) rfl rfl rfl (fun ds h => by match ds, h with | [a, b, c], _ => rfl) hval hW (fun dvs h _ => pre5 dvs h)

theorem over : Rows.dashTellsRow.holds Try.pinned (OpenSpec.ofChange Rows.dashTellsSpec) :=
  OpenClaim.holds_of_wide 5 Try.f5 rfl rfl rfl rfl rfl rfl rfl ⟨rfl, rfl, rfl, rfl, rfl⟩ rfl rfl rfl rfl rfl (by kernel_rfl) Try.func5 (by kernel_rfl)
    (of_decide_eq_true (by kernel_rfl)) (by unfold Func.isWrapper; first | (rw [if_pos (by decide +kernel)]; kernel_rfl) | (rw [if_neg (by decide +kernel)]; exact ⟨rfl, rfl⟩))
    (fun os started H enc _ => lifted os started H enc)

theorem proved : Rows.DashTellsSaid :=
  over
end Go.Proofs.Ytbaapkffmloclaa.Tells

/- What faces are drawn as; Emit, places, shapes, Run. -/
import Derived.Test.YtohebioanhliiaaGreatDoorGX2
set_option maxRecDepth 100000
namespace Go.Proofs.YtohebioanhliiaaGreatDoor.av
open Go.Sx
theorem fcT:fcB PP true=true:=by kernel_rfl
theorem fcF:fcB PP false=true:=by kernel_rfl
theorem efF:emF PP false=true:=by kernel_rfl
theorem efT:emF PP true=true:=by kernel_rfl
theorem plT:plB PP=true:=by kernel_rfl
theorem shF:shB PP false=true:=by kernel_rfl
theorem shT:shB PP true=true:=by kernel_rfl
theorem ruF:ruB PP false=true:=by kernel_rfl
theorem ruT:ruB PP true=true:=by kernel_rfl
end Go.Proofs.YtohebioanhliiaaGreatDoor.av

/- What Emit gives of a point, a line, a triangle, soft ones. -/
import Derived.Test.YtohebioanhliiaaGreatDoorBX2
set_option maxRecDepth 100000
namespace Go.Proofs.YtohebioanhliiaaGreatDoor.aw
open Go.Sx
theorem agQ:UH Tryz.prog 1 true true=true:=by kernel_rfl
theorem agR:UH Tryz.prog 2 true true=true:=by kernel_rfl
theorem abR:UH Tryz.prog 3 true true=true:=by kernel_rfl
theorem abS:UH Tryz.prog 3 true false=true:=by kernel_rfl
end Go.Proofs.YtohebioanhliiaaGreatDoor.aw

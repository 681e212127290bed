/- What Emit gives of a point, a line, a triangle. -/
import Derived.Test.YtohebioanhliiaaGreatDoorBX2
set_option maxRecDepth 100000
namespace Go.Proofs.YtohebioanhliiaaGreatDoor.aw
open Go.Sx
theorem agO:UH Tryz.prog 1 false true=true:=by kernel_rfl
theorem agP:UH Tryz.prog 2 false true=true:=by kernel_rfl
theorem abP:UH Tryz.prog 3 false true=true:=by kernel_rfl
theorem abQ:UH Tryz.prog 3 false false=true:=by kernel_rfl
end Go.Proofs.YtohebioanhliiaaGreatDoor.aw

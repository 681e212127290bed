/- What the law gives of a point, a line, a triangle. -/
import Derived.Test.YtohebioanhliiaaGreatDoorBX2
set_option maxRecDepth 100000
namespace Go.Proofs.YtohebioanhliiaaGreatDoor.aw
open Go.Sx
theorem agS:Xk Tryz.prog 1 false=true:=by kernel_rfl
theorem agT:Xk Tryz.prog 2 false=true:=by kernel_rfl
theorem agU:Xk Tryz.prog 3 false=true:=by kernel_rfl
theorem agV:Xk Tryz.prog 1 true=true:=by kernel_rfl
theorem agW:Xk Tryz.prog 2 true=true:=by kernel_rfl
theorem agX:Xk Tryz.prog 3 true=true:=by kernel_rfl
theorem agY:abN Tryz.prog false=true:=by kernel_rfl
theorem agZ:abN Tryz.prog true=true:=by kernel_rfl
theorem ag0:abO Tryz.prog false=true:=by kernel_rfl
theorem ag1:abO Tryz.prog true=true:=by kernel_rfl
end Go.Proofs.YtohebioanhliiaaGreatDoor.aw

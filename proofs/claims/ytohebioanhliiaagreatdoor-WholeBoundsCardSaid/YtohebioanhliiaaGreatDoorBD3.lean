/- Functions that come to an end, as their contracts say. -/
import Derived.Test.YtohebioanhliiaaGreatDoorBB1
import Derived.Test.YtohebioanhliiaaGreatDoorChecked
import Derived.KernelRfl
set_option maxRecDepth 100000
namespace Go.Proofs.YtohebioanhliiaaGreatDoor.aw
open Go.Sx
theorem d19:part Tryz.prog 159 19=true:=by kernel_rfl
theorem d20:part Tryz.prog 159 20=true:=by kernel_rfl
theorem d21:part Tryz.prog 159 21=true:=by kernel_rfl
theorem d22:part Tryz.prog 159 22=true:=by kernel_rfl
theorem d23:part Tryz.prog 159 23=true:=by kernel_rfl
theorem d24:part Tryz.prog 159 24=true:=by kernel_rfl
theorem d25:part Tryz.prog 159 25=true:=by kernel_rfl
theorem d26:part Tryz.prog 159 26=true:=by kernel_rfl
end Go.Proofs.YtohebioanhliiaaGreatDoor.aw

/- Functions that come to an end, as their contracts say. -/
import Derived.Test.YtohebioanhliiaaGreatDoorBB1
import Derived.Test.YtohebioanhliiaaGreatDoorChecked
import Derived.KernelRfl
set_option maxRecDepth 100000
namespace Go.Proofs.YtohebioanhliiaaGreatDoor.aw
open Go.Sx
theorem d0:part Tryz.prog 159 0=true:=by kernel_rfl
theorem d1:part Tryz.prog 159 1=true:=by kernel_rfl
theorem d2:part Tryz.prog 159 2=true:=by kernel_rfl
theorem d3:part Tryz.prog 159 3=true:=by kernel_rfl
theorem d4:part Tryz.prog 159 4=true:=by kernel_rfl
theorem d5:part Tryz.prog 159 5=true:=by kernel_rfl
theorem d6:part Tryz.prog 159 6=true:=by kernel_rfl
theorem d7:part Tryz.prog 159 7=true:=by kernel_rfl
theorem d8:part Tryz.prog 159 8=true:=by kernel_rfl
end Go.Proofs.YtohebioanhliiaaGreatDoor.aw

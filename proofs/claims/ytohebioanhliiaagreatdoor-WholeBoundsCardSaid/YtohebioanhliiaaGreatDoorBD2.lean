/- Functions that come to an end, as their contracts say. -/
import Derived.Test.YtohebioanhliiaaGreatDoorBB1
import Derived.Test.YtohebioanhliiaaGreatDoorChecked
import Derived.KernelRfl
set_option maxRecDepth 100000
namespace Go.Proofs.YtohebioanhliiaaGreatDoor.aw
open Go.Sx
theorem d9:part Tryz.prog 159 9=true:=by kernel_rfl
theorem d10:part Tryz.prog 159 10=true:=by kernel_rfl
theorem d11:part Tryz.prog 159 11=true:=by kernel_rfl
theorem d12:part Tryz.prog 159 12=true:=by kernel_rfl
theorem d13:part Tryz.prog 159 13=true:=by kernel_rfl
theorem d14:part Tryz.prog 159 14=true:=by kernel_rfl
theorem d15:part Tryz.prog 159 15=true:=by kernel_rfl
theorem d16:part Tryz.prog 159 16=true:=by kernel_rfl
theorem d17:part Tryz.prog 159 17=true:=by kernel_rfl
end Go.Proofs.YtohebioanhliiaaGreatDoor.aw

/- Functions that come to an end, as their contracts say. -/
import Derived.Test.YtohebioanhliiaaGreatDoorBB1
import Derived.Test.YtohebioanhliiaaGreatDoorChecked
import Derived.KernelRfl
set_option maxRecDepth 100000
namespace Go.Proofs.YtohebioanhliiaaGreatDoor.aw
open Go.Sx
theorem e26:row Tryz.prog 26=true:=by kernel_rfl
theorem e16:row Tryz.prog 16=true:=by kernel_rfl
theorem e99:row Tryz.prog 99=true:=by kernel_rfl
theorem e64:row Tryz.prog 64=true:=by kernel_rfl
theorem e40:row Tryz.prog 40=true:=by kernel_rfl
theorem e27:row Tryz.prog 27=true:=by kernel_rfl
theorem e17:row Tryz.prog 17=true:=by kernel_rfl
theorem e34:row Tryz.prog 34=true:=by kernel_rfl
theorem e20:row Tryz.prog 20=true:=by kernel_rfl
theorem e10:row Tryz.prog 10=true:=by kernel_rfl
theorem e3:row Tryz.prog 3=true:=by kernel_rfl
theorem e4:row Tryz.prog 4=true:=by kernel_rfl
theorem e5:row Tryz.prog 5=true:=by kernel_rfl
theorem e6:row Tryz.prog 6=true:=by kernel_rfl
theorem e7:row Tryz.prog 7=true:=by kernel_rfl
theorem e8:row Tryz.prog 8=true:=by kernel_rfl
end Go.Proofs.YtohebioanhliiaaGreatDoor.aw

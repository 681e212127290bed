/- Functions that come to an end, as their contracts say. -/
import Derived.Test.YtohebioanhliiaaGreatDoorBB1
import Derived.Test.YtohebioanhliiaaGreatDoorChecked
import Derived.KernelRfl
set_option maxRecDepth 100000
namespace Go.Proofs.YtohebioanhliiaaGreatDoor.aw
open Go.Sx
theorem d27:part Tryz.prog 159 27=true:=by kernel_rfl
theorem d28:part Tryz.prog 159 28=true:=by kernel_rfl
theorem d29:part Tryz.prog 159 29=true:=by kernel_rfl
theorem d30:part Tryz.prog 159 30=true:=by kernel_rfl
theorem d31:part Tryz.prog 159 31=true:=by kernel_rfl
theorem d32:part Tryz.prog 159 32=true:=by kernel_rfl
theorem e24:Kt Tryz.prog kd qp jZ xs 24 (rowOf 24)=true:=by kernel_rfl
theorem d33:rest Tryz.prog 159=true:=by kernel_rfl
end Go.Proofs.YtohebioanhliiaaGreatDoor.aw

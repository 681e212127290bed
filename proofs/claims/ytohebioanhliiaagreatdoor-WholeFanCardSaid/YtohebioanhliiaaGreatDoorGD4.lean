/- Functions that come to an end, as their contracts say. -/
import Derived.Test.YtohebioanhliiaaGreatDoorGB1
set_option maxRecDepth 100000
namespace Go.Proofs.YtohebioanhliiaaGreatDoor.av
open Go.Sx
theorem d27:part PP 159 27=true:=by kernel_rfl
theorem d28:part PP 159 28=true:=by kernel_rfl
theorem d29:part PP 159 29=true:=by kernel_rfl
theorem d30:part PP 159 30=true:=by kernel_rfl
theorem d31:part PP 159 31=true:=by kernel_rfl
theorem d32:part PP 159 32=true:=by kernel_rfl
theorem e24:On PP kd qX lG xs 24 (rowOf 24)=true:=by kernel_rfl
theorem d33:rest PP 159=true:=by kernel_rfl
end Go.Proofs.YtohebioanhliiaaGreatDoor.av

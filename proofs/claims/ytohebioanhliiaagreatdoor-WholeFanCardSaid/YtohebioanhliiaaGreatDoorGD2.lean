/- Functions that come to an end, as their contracts say. -/
import Derived.Test.YtohebioanhliiaaGreatDoorGB1
set_option maxRecDepth 100000
namespace Go.Proofs.YtohebioanhliiaaGreatDoor.av
open Go.Sx
theorem d9:part PP 159 9=true:=by kernel_rfl
theorem d10:part PP 159 10=true:=by kernel_rfl
theorem d11:part PP 159 11=true:=by kernel_rfl
theorem d12:part PP 159 12=true:=by kernel_rfl
theorem d13:part PP 159 13=true:=by kernel_rfl
theorem d14:part PP 159 14=true:=by kernel_rfl
theorem d15:part PP 159 15=true:=by kernel_rfl
theorem d16:part PP 159 16=true:=by kernel_rfl
theorem d17:part PP 159 17=true:=by kernel_rfl
end Go.Proofs.YtohebioanhliiaaGreatDoor.av

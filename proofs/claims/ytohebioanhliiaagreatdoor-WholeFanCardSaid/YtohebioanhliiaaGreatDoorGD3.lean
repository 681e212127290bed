/- Functions that come to an end, as their contracts say. -/
import Derived.Test.YtohebioanhliiaaGreatDoorGB1
set_option maxRecDepth 100000
namespace Go.Proofs.YtohebioanhliiaaGreatDoor.av
open Go.Sx
theorem d19:part PP 159 19=true:=by kernel_rfl
theorem d20:part PP 159 20=true:=by kernel_rfl
theorem d21:part PP 159 21=true:=by kernel_rfl
theorem d22:part PP 159 22=true:=by kernel_rfl
theorem d23:part PP 159 23=true:=by kernel_rfl
theorem d24:part PP 159 24=true:=by kernel_rfl
theorem d25:part PP 159 25=true:=by kernel_rfl
theorem d26:part PP 159 26=true:=by kernel_rfl
end Go.Proofs.YtohebioanhliiaaGreatDoor.av

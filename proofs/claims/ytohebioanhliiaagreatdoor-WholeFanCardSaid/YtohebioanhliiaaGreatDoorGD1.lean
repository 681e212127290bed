/- Functions that come to an end, as their contracts say. -/
import Derived.Test.YtohebioanhliiaaGreatDoorGB1
set_option maxRecDepth 100000
namespace Go.Proofs.YtohebioanhliiaaGreatDoor.av
open Go.Sx
theorem d0:part PP 159 0=true:=by kernel_rfl
theorem d1:part PP 159 1=true:=by kernel_rfl
theorem d2:part PP 159 2=true:=by kernel_rfl
theorem d3:part PP 159 3=true:=by kernel_rfl
theorem d4:part PP 159 4=true:=by kernel_rfl
theorem d5:part PP 159 5=true:=by kernel_rfl
theorem d6:part PP 159 6=true:=by kernel_rfl
theorem d7:part PP 159 7=true:=by kernel_rfl
theorem d8:part PP 159 8=true:=by kernel_rfl
end Go.Proofs.YtohebioanhliiaaGreatDoor.av

/- Functions that come to an end, as their contracts say. -/
import Derived.Test.YtohebioanhliiaaGreatDoorGB1
set_option maxRecDepth 100000
namespace Go.Proofs.YtohebioanhliiaaGreatDoor.av
open Go.Sx
theorem e26:row PP 26=true:=by kernel_rfl
theorem L3:row PP 16=true:=by kernel_rfl
theorem e99:row PP 99=true:=by kernel_rfl
theorem e64:row PP 64=true:=by kernel_rfl
theorem e40:row PP 40=true:=by kernel_rfl
theorem e27:row PP 27=true:=by kernel_rfl
theorem e17:row PP 17=true:=by kernel_rfl
theorem e34:row PP 34=true:=by kernel_rfl
theorem e20:row PP 20=true:=by kernel_rfl
theorem uu:row PP 10=true:=by kernel_rfl
theorem e3:row PP 3=true:=by kernel_rfl
theorem e4:row PP 4=true:=by kernel_rfl
theorem e5:row PP 5=true:=by kernel_rfl
theorem e6:row PP 6=true:=by kernel_rfl
theorem e7:row PP 7=true:=by kernel_rfl
theorem e8:row PP 8=true:=by kernel_rfl
end Go.Proofs.YtohebioanhliiaaGreatDoor.av

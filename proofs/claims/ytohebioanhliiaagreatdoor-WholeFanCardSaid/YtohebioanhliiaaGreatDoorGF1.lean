/- Functions that come to an end, as their contracts say. -/
import Derived.Test.YtohebioanhliiaaGreatDoorGB1
set_option maxRecDepth 100000
namespace Go.Proofs.YtohebioanhliiaaGreatDoor.av
open Go.Sx
theorem e19:row PP 19=true:=by kernel_rfl
end Go.Proofs.YtohebioanhliiaaGreatDoor.av

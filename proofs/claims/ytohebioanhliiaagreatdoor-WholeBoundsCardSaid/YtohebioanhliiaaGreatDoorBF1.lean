/- Functions that come to an end, as their contracts say. -/
import Derived.Test.YtohebioanhliiaaGreatDoorBB1
import Derived.Test.YtohebioanhliiaaGreatDoorChecked
import Derived.KernelRfl
set_option maxRecDepth 100000
namespace Go.Proofs.YtohebioanhliiaaGreatDoor.aw
open Go.Sx
theorem e19:row Tryz.prog 19=true:=by kernel_rfl
end Go.Proofs.YtohebioanhliiaaGreatDoor.aw

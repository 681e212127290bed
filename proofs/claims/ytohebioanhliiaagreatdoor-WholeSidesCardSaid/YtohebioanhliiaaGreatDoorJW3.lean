/- Functions that come to an end, as their contracts say. -/
import Derived.Test.YtohebioanhliiaaGreatDoorJB1
import Derived.Test.YtohebioanhliiaaGreatDoorJAK
import Derived.Test.YtohebioanhliiaaGreatDoorJW0
import Derived.Test.YtohebioanhliiaaGreatDoorChecked
import Derived.KernelRfl
set_option maxRecDepth 100000
namespace Go.Proofs.YtohebioanhliiaaGreatDoor.aF
open Go.Sx
theorem I3:tm Tryz.prog 159 [false,true,true,true,true,false,false,false,true]=true:=by kernel_rfl
theorem I4:tm Tryz.prog 159 [false,true,true,true,true,false,false,false,false]=true:=by kernel_rfl
end Go.Proofs.YtohebioanhliiaaGreatDoor.aF

/- Functions that come to an end, as their contracts say. -/
import Derived.Test.YtohebioanhliiaaGreatDoorGW0
set_option maxRecDepth 100000
namespace Go.Proofs.YtohebioanhliiaaGreatDoor.av
open Go.Sx
theorem KX:uJ PP 159 [false,true,true,true,true,false,false,false,true]=true:=by kernel_rfl
theorem KY:uJ PP 159 [false,true,true,true,true,false,false,false,false]=true:=by kernel_rfl
end Go.Proofs.YtohebioanhliiaaGreatDoor.av

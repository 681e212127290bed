/- Functions that come to an end, as their contracts say. -/
import Derived.Test.YtohebioanhliiaaGreatDoorFW0
set_option maxRecDepth 100000
namespace Go.Proofs.YtohebioanhliiaaGreatDoor.aN
open Go.Sx
theorem RU:ui PP 159 [false,true,true,true,true,false,true]=true:=by kernel_rfl
theorem JR:ui PP 159 [false,true,true,true,true,false,false,true,true]=true:=by kernel_rfl
theorem JS:ui PP 159 [false,true,true,true,true,false,false,true,false]=true:=by kernel_rfl
end Go.Proofs.YtohebioanhliiaaGreatDoor.aN

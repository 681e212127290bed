/- Functions that come to an end, as their contracts say. -/
import Derived.Test.YtohebioanhliiaaGreatDoorFW0
set_option maxRecDepth 100000
namespace Go.Proofs.YtohebioanhliiaaGreatDoor.aN
open Go.Sx
theorem y1:ui PP 159 [true]=true:=by kernel_rfl
theorem y00:ui PP 159 [false,false]=true:=by kernel_rfl
theorem ank:ui PP 159 [false,true,false]=true:=by kernel_rfl
theorem afV:ui PP 159 [false,true,true,false]=true:=by kernel_rfl
theorem abE:ui PP 159 [false,true,true,true,false]=true:=by kernel_rfl
theorem Xn:ui PP 159 [false,true,true,true,true,true]=true:=by kernel_rfl
theorem yr:X3 PP (rowOf 24) 94 18=true:=by kernel_rfl
end Go.Proofs.YtohebioanhliiaaGreatDoor.aN

/- Functions that come to an end, as their contracts say. -/
import Derived.Test.YtohebioanhliiaaGreatDoorKB1
import Derived.Test.YtohebioanhliiaaGreatDoorKAK
import Derived.Test.YtohebioanhliiaaGreatDoorKW0
import Derived.Test.YtohebioanhliiaaGreatDoorChecked
import Derived.KernelRfl
set_option maxRecDepth 100000
namespace Go.Proofs.YtohebioanhliiaaGreatDoor.aD
open Go.Sx
theorem N1:rl Tryz.prog 159 [false,true,true,true,true,false,true]=true:=by kernel_rfl
theorem Gw:rl Tryz.prog 159 [false,true,true,true,true,false,false,true,true]=true:=by kernel_rfl
theorem Gx:rl Tryz.prog 159 [false,true,true,true,true,false,false,true,false]=true:=by kernel_rfl
end Go.Proofs.YtohebioanhliiaaGreatDoor.aD

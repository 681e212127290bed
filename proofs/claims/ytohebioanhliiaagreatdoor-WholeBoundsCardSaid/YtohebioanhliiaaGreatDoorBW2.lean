/- Functions that come to an end, as their contracts say. -/
import Derived.Test.YtohebioanhliiaaGreatDoorBB1
import Derived.Test.YtohebioanhliiaaGreatDoorBAK
import Derived.Test.YtohebioanhliiaaGreatDoorBW0
import Derived.Test.YtohebioanhliiaaGreatDoorChecked
import Derived.KernelRfl
set_option maxRecDepth 100000
namespace Go.Proofs.YtohebioanhliiaaGreatDoor.aw
open Go.Sx
theorem OZ:rP Tryz.prog 159 [false,true,true,true,true,false,true]=true:=by kernel_rfl
theorem Ht:rP Tryz.prog 159 [false,true,true,true,true,false,false,true,true]=true:=by kernel_rfl
theorem Hu:rP Tryz.prog 159 [false,true,true,true,true,false,false,true,false]=true:=by kernel_rfl
end Go.Proofs.YtohebioanhliiaaGreatDoor.aw

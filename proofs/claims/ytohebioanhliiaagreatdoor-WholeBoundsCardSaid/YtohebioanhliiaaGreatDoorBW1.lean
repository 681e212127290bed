/- Functions that come to an end, as their contracts say. -/
import Derived.Test.YtohebioanhliiaaGreatDoorBB1
import Derived.Test.YtohebioanhliiaaGreatDoorBAK
import Derived.Test.YtohebioanhliiaaGreatDoorBW0
import Derived.Test.YtohebioanhliiaaGreatDoorChecked
import Derived.KernelRfl
set_option maxRecDepth 100000
namespace Go.Proofs.YtohebioanhliiaaGreatDoor.aw
open Go.Sx
theorem y1:rP Tryz.prog 159 [true]=true:=by kernel_rfl
theorem y00:rP Tryz.prog 159 [false,false]=true:=by kernel_rfl
theorem akc:rP Tryz.prog 159 [false,true,false]=true:=by kernel_rfl
theorem adh:rP Tryz.prog 159 [false,true,true,false]=true:=by kernel_rfl
theorem Yz:rP Tryz.prog 159 [false,true,true,true,false]=true:=by kernel_rfl
theorem TQ:rP Tryz.prog 159 [false,true,true,true,true,true]=true:=by kernel_rfl
theorem yr:Ux Tryz.prog (rowOf 24) 94 18=true:=by kernel_rfl
end Go.Proofs.YtohebioanhliiaaGreatDoor.aw

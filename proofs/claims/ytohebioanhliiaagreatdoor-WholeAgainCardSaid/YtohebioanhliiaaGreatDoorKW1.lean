/- Functions that come to an end, as their contracts say. -/
import Derived.Test.YtohebioanhliiaaGreatDoorKB1
import Derived.Test.YtohebioanhliiaaGreatDoorKAK
import Derived.Test.YtohebioanhliiaaGreatDoorKW0
import Derived.Test.YtohebioanhliiaaGreatDoorChecked
import Derived.KernelRfl
set_option maxRecDepth 100000
namespace Go.Proofs.YtohebioanhliiaaGreatDoor.aD
open Go.Sx
theorem y1:rl Tryz.prog 159 [true]=true:=by kernel_rfl
theorem y00:rl Tryz.prog 159 [false,false]=true:=by kernel_rfl
theorem akv:rl Tryz.prog 159 [false,true,false]=true:=by kernel_rfl
theorem ade:rl Tryz.prog 159 [false,true,true,false]=true:=by kernel_rfl
theorem Xq:rl Tryz.prog 159 [false,true,true,true,false]=true:=by kernel_rfl
theorem S9:rl Tryz.prog 159 [false,true,true,true,true,true]=true:=by kernel_rfl
theorem yr:TK Tryz.prog (rowOf 24) 94 18=true:=by kernel_rfl
end Go.Proofs.YtohebioanhliiaaGreatDoor.aD

/- Functions that come to an end, as their contracts say. -/
import Derived.Test.YtohebioanhliiaaGreatDoorJB1
import Derived.Test.YtohebioanhliiaaGreatDoorJAK
import Derived.Test.YtohebioanhliiaaGreatDoorJW0
import Derived.Test.YtohebioanhliiaaGreatDoorChecked
import Derived.KernelRfl
set_option maxRecDepth 100000
namespace Go.Proofs.YtohebioanhliiaaGreatDoor.aF
open Go.Sx
theorem y1:tm Tryz.prog 159 [true]=true:=by kernel_rfl
theorem y00:tm Tryz.prog 159 [false,false]=true:=by kernel_rfl
theorem anf:tm Tryz.prog 159 [false,true,false]=true:=by kernel_rfl
theorem afq:tm Tryz.prog 159 [false,true,true,false]=true:=by kernel_rfl
theorem aaH:tm Tryz.prog 159 [false,true,true,true,false]=true:=by kernel_rfl
theorem Wc:tm Tryz.prog 159 [false,true,true,true,true,true]=true:=by kernel_rfl
theorem yr:W6 Tryz.prog (rowOf 24) 94 18=true:=by kernel_rfl
end Go.Proofs.YtohebioanhliiaaGreatDoor.aF

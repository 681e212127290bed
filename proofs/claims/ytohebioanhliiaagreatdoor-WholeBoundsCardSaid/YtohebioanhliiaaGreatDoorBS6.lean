/- Functions that come to an end, as their contracts say. -/
import Derived.Test.YtohebioanhliiaaGreatDoorBB1
import Derived.Test.YtohebioanhliiaaGreatDoorChecked
import Derived.KernelRfl
set_option maxRecDepth 100000
namespace Go.Proofs.YtohebioanhliiaaGreatDoor.aw
open Go.Sx
theorem e86:row Tryz.prog 86=true:=by kernel_rfl
theorem e88:row Tryz.prog 88=true:=by kernel_rfl
theorem afC:row Tryz.prog 187=true:=by kernel_rfl
theorem afD:row Tryz.prog 143=true:=by kernel_rfl
theorem afE:row Tryz.prog 141=true:=by kernel_rfl
theorem e90:row Tryz.prog 90=true:=by kernel_rfl
theorem e91:row Tryz.prog 91=true:=by kernel_rfl
theorem afF:row Tryz.prog 144=true:=by kernel_rfl
theorem afG:row Tryz.prog 188=true:=by kernel_rfl
theorem afH:row Tryz.prog 145=true:=by kernel_rfl
theorem e92:row Tryz.prog 92=true:=by kernel_rfl
theorem e93:row Tryz.prog 93=true:=by kernel_rfl
theorem e94:row Tryz.prog 94=true:=by kernel_rfl
theorem afI:row Tryz.prog 134=true:=by kernel_rfl
theorem afJ:row Tryz.prog 193=true:=by kernel_rfl
theorem afK:row Tryz.prog 232=true:=by kernel_rfl
theorem afL:row Tryz.prog 233=true:=by kernel_rfl
theorem afM:row Tryz.prog 235=true:=by kernel_rfl
theorem afN:row Tryz.prog 264=true:=by kernel_rfl
theorem afO:row Tryz.prog 236=true:=by kernel_rfl
theorem afP:row Tryz.prog 265=true:=by kernel_rfl
theorem afQ:row Tryz.prog 237=true:=by kernel_rfl
theorem afR:row Tryz.prog 262=true:=by kernel_rfl
theorem e12:row Tryz.prog 12=true:=by kernel_rfl
theorem e55:row Tryz.prog 55=true:=by kernel_rfl
theorem e11:row Tryz.prog 11=true:=by kernel_rfl
theorem e21:row Tryz.prog 21=true:=by kernel_rfl
theorem e13:row Tryz.prog 13=true:=by kernel_rfl
theorem e14:row Tryz.prog 14=true:=by kernel_rfl
theorem e25:row Tryz.prog 25=true:=by kernel_rfl
theorem e15:row Tryz.prog 15=true:=by kernel_rfl
end Go.Proofs.YtohebioanhliiaaGreatDoor.aw

/- Functions that come to an end, as their contracts say. -/
import Derived.Test.YtohebioanhliiaaGreatDoorJB1
import Derived.Test.YtohebioanhliiaaGreatDoorChecked
import Derived.KernelRfl
set_option maxRecDepth 100000
namespace Go.Proofs.YtohebioanhliiaaGreatDoor.aF
open Go.Sx
theorem c72:one Tryz.prog 87 72=true:=by kernel_rfl
theorem e72:row Tryz.prog 72=true:=by kernel_rfl
theorem akP:one Tryz.prog 88 114=true:=by kernel_rfl
theorem ahr:row Tryz.prog 114=true:=by kernel_rfl
theorem akQ:one Tryz.prog 89 115=true:=by kernel_rfl
theorem ahs:row Tryz.prog 115=true:=by kernel_rfl
theorem akR:one Tryz.prog 90 117=true:=by kernel_rfl
theorem aht:row Tryz.prog 117=true:=by kernel_rfl
theorem akS:one Tryz.prog 91 173=true:=by kernel_rfl
theorem ahu:row Tryz.prog 173=true:=by kernel_rfl
theorem c73:one Tryz.prog 92 73=true:=by kernel_rfl
theorem e73:row Tryz.prog 73=true:=by kernel_rfl
theorem akT:one Tryz.prog 93 118=true:=by kernel_rfl
theorem ahv:row Tryz.prog 118=true:=by kernel_rfl
theorem c119:one Tryz.prog 94 119=true:=by kernel_rfl
theorem ahw:row Tryz.prog 119=true:=by kernel_rfl
theorem akU:one Tryz.prog 95 214=true:=by kernel_rfl
theorem ahx:row Tryz.prog 214=true:=by kernel_rfl
theorem akV:one Tryz.prog 96 215=true:=by kernel_rfl
theorem ahy:row Tryz.prog 215=true:=by kernel_rfl
theorem akW:one Tryz.prog 97 216=true:=by kernel_rfl
theorem ahz:row Tryz.prog 216=true:=by kernel_rfl
theorem akX:one Tryz.prog 98 175=true:=by kernel_rfl
theorem ahA:row Tryz.prog 175=true:=by kernel_rfl
theorem akY:one Tryz.prog 99 121=true:=by kernel_rfl
theorem ahB:row Tryz.prog 121=true:=by kernel_rfl
theorem akZ:one Tryz.prog 100 120=true:=by kernel_rfl
theorem ahC:row Tryz.prog 120=true:=by kernel_rfl
theorem ak0:one Tryz.prog 101 220=true:=by kernel_rfl
theorem ahD:row Tryz.prog 220=true:=by kernel_rfl
theorem ak1:one Tryz.prog 102 176=true:=by kernel_rfl
theorem ahE:row Tryz.prog 176=true:=by kernel_rfl
theorem ak2:one Tryz.prog 103 269=true:=by kernel_rfl
theorem ahF:row Tryz.prog 269=true:=by kernel_rfl
theorem ak3:one Tryz.prog 104 252=true:=by kernel_rfl
theorem ahG:row Tryz.prog 252=true:=by kernel_rfl
theorem ak4:one Tryz.prog 105 270=true:=by kernel_rfl
theorem ahH:row Tryz.prog 270=true:=by kernel_rfl
theorem ak5:one Tryz.prog 106 271=true:=by kernel_rfl
theorem ahI:row Tryz.prog 271=true:=by kernel_rfl
theorem ak6:one Tryz.prog 107 253=true:=by kernel_rfl
theorem ahJ:row Tryz.prog 253=true:=by kernel_rfl
theorem ak7:one Tryz.prog 108 221=true:=by kernel_rfl
theorem ahK:row Tryz.prog 221=true:=by kernel_rfl
theorem ak8:one Tryz.prog 109 222=true:=by kernel_rfl
theorem ahL:row Tryz.prog 222=true:=by kernel_rfl
theorem ak9:one Tryz.prog 110 272=true:=by kernel_rfl
theorem ahM:row Tryz.prog 272=true:=by kernel_rfl
theorem ak':one Tryz.prog 111 273=true:=by kernel_rfl
theorem ahN:row Tryz.prog 273=true:=by kernel_rfl
theorem ala:one Tryz.prog 112 254=true:=by kernel_rfl
theorem ahO:row Tryz.prog 254=true:=by kernel_rfl
theorem alb:one Tryz.prog 113 223=true:=by kernel_rfl
theorem ahP:row Tryz.prog 223=true:=by kernel_rfl
end Go.Proofs.YtohebioanhliiaaGreatDoor.aF

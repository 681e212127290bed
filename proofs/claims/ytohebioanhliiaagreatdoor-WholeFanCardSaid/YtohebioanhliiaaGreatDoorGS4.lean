/- Functions that come to an end, as their contracts say. -/
import Derived.Test.YtohebioanhliiaaGreatDoorGB1
set_option maxRecDepth 100000
namespace Go.Proofs.YtohebioanhliiaaGreatDoor.av
open Go.Sx
theorem c72:one PP 87 72=true:=by kernel_rfl
theorem e72:row PP 72=true:=by kernel_rfl
theorem akW:one PP 88 114=true:=by kernel_rfl
theorem ahO:row PP 114=true:=by kernel_rfl
theorem akX:one PP 89 115=true:=by kernel_rfl
theorem ahP:row PP 115=true:=by kernel_rfl
theorem akY:one PP 90 117=true:=by kernel_rfl
theorem ahQ:row PP 117=true:=by kernel_rfl
theorem akZ:one PP 91 173=true:=by kernel_rfl
theorem ahR:row PP 173=true:=by kernel_rfl
theorem c73:one PP 92 73=true:=by kernel_rfl
theorem e73:row PP 73=true:=by kernel_rfl
theorem ak0:one PP 93 118=true:=by kernel_rfl
theorem ahS:row PP 118=true:=by kernel_rfl
theorem c119:one PP 94 119=true:=by kernel_rfl
theorem ahT:row PP 119=true:=by kernel_rfl
theorem ak1:one PP 95 214=true:=by kernel_rfl
theorem ahU:row PP 214=true:=by kernel_rfl
theorem ak2:one PP 96 215=true:=by kernel_rfl
theorem ahV:row PP 215=true:=by kernel_rfl
theorem ak3:one PP 97 216=true:=by kernel_rfl
theorem ahW:row PP 216=true:=by kernel_rfl
theorem ak4:one PP 98 175=true:=by kernel_rfl
theorem ahX:row PP 175=true:=by kernel_rfl
theorem ak5:one PP 99 121=true:=by kernel_rfl
theorem aaG:row PP 121=true:=by kernel_rfl
theorem ak6:one PP 100 120=true:=by kernel_rfl
theorem ahY:row PP 120=true:=by kernel_rfl
theorem ak7:one PP 101 220=true:=by kernel_rfl
theorem ahZ:row PP 220=true:=by kernel_rfl
theorem ak8:one PP 102 176=true:=by kernel_rfl
theorem ah0:row PP 176=true:=by kernel_rfl
theorem ak9:one PP 103 269=true:=by kernel_rfl
theorem ah1:row PP 269=true:=by kernel_rfl
theorem ak':one PP 104 252=true:=by kernel_rfl
theorem ah2:row PP 252=true:=by kernel_rfl
theorem ala:one PP 105 270=true:=by kernel_rfl
theorem ah3:row PP 270=true:=by kernel_rfl
theorem alb:one PP 106 271=true:=by kernel_rfl
theorem ah4:row PP 271=true:=by kernel_rfl
theorem alc:one PP 107 253=true:=by kernel_rfl
theorem ah5:row PP 253=true:=by kernel_rfl
theorem ald:one PP 108 221=true:=by kernel_rfl
theorem ah6:row PP 221=true:=by kernel_rfl
theorem ale:one PP 109 222=true:=by kernel_rfl
theorem ah7:row PP 222=true:=by kernel_rfl
theorem alf:one PP 110 272=true:=by kernel_rfl
theorem ah8:row PP 272=true:=by kernel_rfl
theorem alg:one PP 111 273=true:=by kernel_rfl
theorem ah9:row PP 273=true:=by kernel_rfl
theorem alh:one PP 112 254=true:=by kernel_rfl
theorem ah':row PP 254=true:=by kernel_rfl
theorem ali:one PP 113 223=true:=by kernel_rfl
theorem aia:row PP 223=true:=by kernel_rfl
end Go.Proofs.YtohebioanhliiaaGreatDoor.av

/- Functions that come to an end, as their contracts say. -/
import Derived.Test.YtohebioanhliiaaGreatDoorBB1
import Derived.Test.YtohebioanhliiaaGreatDoorChecked
import Derived.KernelRfl
set_option maxRecDepth 100000
namespace Go.Proofs.YtohebioanhliiaaGreatDoor.aw
open Go.Sx
theorem c72:one Tryz.prog 87 72=true:=by kernel_rfl
theorem e72:row Tryz.prog 72=true:=by kernel_rfl
theorem aiA:one Tryz.prog 88 114=true:=by kernel_rfl
theorem aeY:row Tryz.prog 114=true:=by kernel_rfl
theorem aiB:one Tryz.prog 89 115=true:=by kernel_rfl
theorem aeZ:row Tryz.prog 115=true:=by kernel_rfl
theorem aiC:one Tryz.prog 90 117=true:=by kernel_rfl
theorem ae0:row Tryz.prog 117=true:=by kernel_rfl
theorem aiD:one Tryz.prog 91 173=true:=by kernel_rfl
theorem ae1:row Tryz.prog 173=true:=by kernel_rfl
theorem c73:one Tryz.prog 92 73=true:=by kernel_rfl
theorem e73:row Tryz.prog 73=true:=by kernel_rfl
theorem aiE:one Tryz.prog 93 118=true:=by kernel_rfl
theorem ae2:row Tryz.prog 118=true:=by kernel_rfl
theorem c119:one Tryz.prog 94 119=true:=by kernel_rfl
theorem ae3:row Tryz.prog 119=true:=by kernel_rfl
theorem aiF:one Tryz.prog 95 214=true:=by kernel_rfl
theorem ae4:row Tryz.prog 214=true:=by kernel_rfl
theorem aiG:one Tryz.prog 96 215=true:=by kernel_rfl
theorem ae5:row Tryz.prog 215=true:=by kernel_rfl
theorem aiH:one Tryz.prog 97 216=true:=by kernel_rfl
theorem ae6:row Tryz.prog 216=true:=by kernel_rfl
theorem aiI:one Tryz.prog 98 175=true:=by kernel_rfl
theorem ae7:row Tryz.prog 175=true:=by kernel_rfl
theorem aiJ:one Tryz.prog 99 121=true:=by kernel_rfl
theorem ae8:row Tryz.prog 121=true:=by kernel_rfl
theorem aiK:one Tryz.prog 100 120=true:=by kernel_rfl
theorem ae9:row Tryz.prog 120=true:=by kernel_rfl
theorem aiL:one Tryz.prog 101 220=true:=by kernel_rfl
theorem ae':row Tryz.prog 220=true:=by kernel_rfl
theorem aiM:one Tryz.prog 102 176=true:=by kernel_rfl
theorem afa:row Tryz.prog 176=true:=by kernel_rfl
theorem aiN:one Tryz.prog 103 269=true:=by kernel_rfl
theorem afb:row Tryz.prog 269=true:=by kernel_rfl
theorem aiO:one Tryz.prog 104 252=true:=by kernel_rfl
theorem afc:row Tryz.prog 252=true:=by kernel_rfl
theorem aiP:one Tryz.prog 105 270=true:=by kernel_rfl
theorem afd:row Tryz.prog 270=true:=by kernel_rfl
theorem aiQ:one Tryz.prog 106 271=true:=by kernel_rfl
theorem afe:row Tryz.prog 271=true:=by kernel_rfl
theorem aiR:one Tryz.prog 107 253=true:=by kernel_rfl
theorem aff:row Tryz.prog 253=true:=by kernel_rfl
theorem aiS:one Tryz.prog 108 221=true:=by kernel_rfl
theorem afg:row Tryz.prog 221=true:=by kernel_rfl
theorem aiT:one Tryz.prog 109 222=true:=by kernel_rfl
theorem afh:row Tryz.prog 222=true:=by kernel_rfl
theorem aiU:one Tryz.prog 110 272=true:=by kernel_rfl
theorem afi:row Tryz.prog 272=true:=by kernel_rfl
theorem aiV:one Tryz.prog 111 273=true:=by kernel_rfl
theorem afj:row Tryz.prog 273=true:=by kernel_rfl
theorem aiW:one Tryz.prog 112 254=true:=by kernel_rfl
theorem afk:row Tryz.prog 254=true:=by kernel_rfl
theorem aiX:one Tryz.prog 113 223=true:=by kernel_rfl
theorem afl:row Tryz.prog 223=true:=by kernel_rfl
end Go.Proofs.YtohebioanhliiaaGreatDoor.aw

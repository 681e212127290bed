/- Functions that come to an end, as their contracts say. -/
import Derived.Test.YtohebioanhliiaaGreatDoorBB1
import Derived.Test.YtohebioanhliiaaGreatDoorChecked
import Derived.KernelRfl
set_option maxRecDepth 100000
namespace Go.Proofs.YtohebioanhliiaaGreatDoor.aw
open Go.Sx
theorem aib:one Tryz.prog 62 245=true:=by kernel_rfl
theorem aeA:row Tryz.prog 245=true:=by kernel_rfl
theorem Tm:one Tryz.prog 63 205245=true:=by kernel_rfl
theorem SJ:row Tryz.prog 205245=true:=by kernel_rfl
theorem aic:one Tryz.prog 64 163=true:=by kernel_rfl
theorem aeB:row Tryz.prog 163=true:=by kernel_rfl
theorem aid:one Tryz.prog 65 204=true:=by kernel_rfl
theorem aeC:row Tryz.prog 204=true:=by kernel_rfl
theorem aie:one Tryz.prog 66 244=true:=by kernel_rfl
theorem aeD:row Tryz.prog 244=true:=by kernel_rfl
theorem aif:one Tryz.prog 67 203=true:=by kernel_rfl
theorem aeE:row Tryz.prog 203=true:=by kernel_rfl
theorem aih:one Tryz.prog 68 112=true:=by kernel_rfl
theorem aeF:row Tryz.prog 112=true:=by kernel_rfl
theorem aii:one Tryz.prog 69 164=true:=by kernel_rfl
theorem aeG:row Tryz.prog 164=true:=by kernel_rfl
theorem aij:one Tryz.prog 70 165=true:=by kernel_rfl
theorem aeH:row Tryz.prog 165=true:=by kernel_rfl
theorem aik:one Tryz.prog 71 210=true:=by kernel_rfl
theorem aeI:row Tryz.prog 210=true:=by kernel_rfl
theorem ail:one Tryz.prog 72 211=true:=by kernel_rfl
theorem aeJ:row Tryz.prog 211=true:=by kernel_rfl
theorem aim:one Tryz.prog 73 247=true:=by kernel_rfl
theorem aeK:row Tryz.prog 247=true:=by kernel_rfl
theorem ain:one Tryz.prog 74 250=true:=by kernel_rfl
theorem aeL:row Tryz.prog 250=true:=by kernel_rfl
theorem aio:one Tryz.prog 75 251=true:=by kernel_rfl
theorem aeM:row Tryz.prog 251=true:=by kernel_rfl
theorem aip:one Tryz.prog 76 284=true:=by kernel_rfl
theorem aeN:row Tryz.prog 284=true:=by kernel_rfl
theorem aiq:one Tryz.prog 77 268=true:=by kernel_rfl
theorem aeO:row Tryz.prog 268=true:=by kernel_rfl
theorem air:one Tryz.prog 78 207=true:=by kernel_rfl
theorem aeP:row Tryz.prog 207=true:=by kernel_rfl
theorem ais:one Tryz.prog 79 208=true:=by kernel_rfl
theorem aeQ:row Tryz.prog 208=true:=by kernel_rfl
theorem ait:one Tryz.prog 80 166=true:=by kernel_rfl
theorem aeR:row Tryz.prog 166=true:=by kernel_rfl
theorem aiu:one Tryz.prog 81 168=true:=by kernel_rfl
theorem aeS:row Tryz.prog 168=true:=by kernel_rfl
theorem aiv:one Tryz.prog 82 170=true:=by kernel_rfl
theorem aeT:row Tryz.prog 170=true:=by kernel_rfl
theorem aiw:one Tryz.prog 83 213=true:=by kernel_rfl
theorem aeU:row Tryz.prog 213=true:=by kernel_rfl
theorem aix:one Tryz.prog 84 171=true:=by kernel_rfl
theorem aeV:row Tryz.prog 171=true:=by kernel_rfl
theorem aiy:one Tryz.prog 85 172=true:=by kernel_rfl
theorem aeW:row Tryz.prog 172=true:=by kernel_rfl
theorem aiz:one Tryz.prog 86 113=true:=by kernel_rfl
theorem aeX:row Tryz.prog 113=true:=by kernel_rfl
end Go.Proofs.YtohebioanhliiaaGreatDoor.aw

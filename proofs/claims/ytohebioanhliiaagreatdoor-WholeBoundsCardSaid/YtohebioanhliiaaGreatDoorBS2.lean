/- Functions that come to an end, as their contracts say. -/
import Derived.Test.YtohebioanhliiaaGreatDoorBB1
import Derived.Test.YtohebioanhliiaaGreatDoorChecked
import Derived.KernelRfl
set_option maxRecDepth 100000
namespace Go.Proofs.YtohebioanhliiaaGreatDoor.aw
open Go.Sx
theorem ahR:one Tryz.prog 36 105=true:=by kernel_rfl
theorem aec:row Tryz.prog 105=true:=by kernel_rfl
theorem c69:one Tryz.prog 37 69=true:=by kernel_rfl
theorem e69:row Tryz.prog 69=true:=by kernel_rfl
theorem ahS:one Tryz.prog 38 109=true:=by kernel_rfl
theorem aed:row Tryz.prog 109=true:=by kernel_rfl
theorem ahT:one Tryz.prog 39 155=true:=by kernel_rfl
theorem aee:row Tryz.prog 155=true:=by kernel_rfl
theorem ahU:one Tryz.prog 40 139=true:=by kernel_rfl
theorem aef:row Tryz.prog 139=true:=by kernel_rfl
theorem c196:one Tryz.prog 41 196=true:=by kernel_rfl
theorem aeg:row Tryz.prog 196=true:=by kernel_rfl
theorem ahV:one Tryz.prog 42 240=true:=by kernel_rfl
theorem aeh:row Tryz.prog 240=true:=by kernel_rfl
theorem ahW:one Tryz.prog 43 197=true:=by kernel_rfl
theorem aei:row Tryz.prog 197=true:=by kernel_rfl
theorem ahX:one Tryz.prog 44 156=true:=by kernel_rfl
theorem aej:row Tryz.prog 156=true:=by kernel_rfl
theorem ahY:one Tryz.prog 45 110=true:=by kernel_rfl
theorem aek:row Tryz.prog 110=true:=by kernel_rfl
theorem ahZ:one Tryz.prog 46 157=true:=by kernel_rfl
theorem ael:row Tryz.prog 157=true:=by kernel_rfl
theorem ah0:one Tryz.prog 47 267=true:=by kernel_rfl
theorem aem:row Tryz.prog 267=true:=by kernel_rfl
theorem aen:row Tryz.prog 241=true:=by kernel_rfl
theorem ah1:one Tryz.prog 49 242=true:=by kernel_rfl
theorem aeo:row Tryz.prog 242=true:=by kernel_rfl
theorem c198:one Tryz.prog 50 198=true:=by kernel_rfl
theorem aep:row Tryz.prog 198=true:=by kernel_rfl
theorem ah2:one Tryz.prog 51 199=true:=by kernel_rfl
theorem aeq:row Tryz.prog 199=true:=by kernel_rfl
theorem ah3:one Tryz.prog 52 158=true:=by kernel_rfl
theorem aer:row Tryz.prog 158=true:=by kernel_rfl
theorem ah4:one Tryz.prog 53 111=true:=by kernel_rfl
theorem aes:row Tryz.prog 111=true:=by kernel_rfl
theorem c71:one Tryz.prog 54 71=true:=by kernel_rfl
theorem e71:row Tryz.prog 71=true:=by kernel_rfl
theorem ah5:one Tryz.prog 55 159=true:=by kernel_rfl
theorem aet:row Tryz.prog 159=true:=by kernel_rfl
theorem ah6:one Tryz.prog 56 200=true:=by kernel_rfl
theorem aeu:row Tryz.prog 200=true:=by kernel_rfl
theorem ah7:one Tryz.prog 57 201=true:=by kernel_rfl
theorem aev:row Tryz.prog 201=true:=by kernel_rfl
theorem ah8:one Tryz.prog 58 202=true:=by kernel_rfl
theorem aew:row Tryz.prog 202=true:=by kernel_rfl
theorem ah9:one Tryz.prog 59 160=true:=by kernel_rfl
theorem aex:row Tryz.prog 160=true:=by kernel_rfl
theorem ah':one Tryz.prog 60 161=true:=by kernel_rfl
theorem aey:row Tryz.prog 161=true:=by kernel_rfl
theorem aia:one Tryz.prog 61 246=true:=by kernel_rfl
theorem aez:row Tryz.prog 246=true:=by kernel_rfl
end Go.Proofs.YtohebioanhliiaaGreatDoor.aw

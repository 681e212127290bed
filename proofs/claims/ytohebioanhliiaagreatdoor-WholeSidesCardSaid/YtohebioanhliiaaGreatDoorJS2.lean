/- Functions that come to an end, as their contracts say. -/
import Derived.Test.YtohebioanhliiaaGreatDoorJB1
import Derived.Test.YtohebioanhliiaaGreatDoorChecked
import Derived.KernelRfl
set_option maxRecDepth 100000
namespace Go.Proofs.YtohebioanhliiaaGreatDoor.aF
open Go.Sx
theorem aj7:one Tryz.prog 36 105=true:=by kernel_rfl
theorem agG:row Tryz.prog 105=true:=by kernel_rfl
theorem c69:one Tryz.prog 37 69=true:=by kernel_rfl
theorem e69:row Tryz.prog 69=true:=by kernel_rfl
theorem aj8:one Tryz.prog 38 109=true:=by kernel_rfl
theorem agH:row Tryz.prog 109=true:=by kernel_rfl
theorem aj9:one Tryz.prog 39 155=true:=by kernel_rfl
theorem agI:row Tryz.prog 155=true:=by kernel_rfl
theorem aj':one Tryz.prog 40 139=true:=by kernel_rfl
theorem agJ:row Tryz.prog 139=true:=by kernel_rfl
theorem c196:one Tryz.prog 41 196=true:=by kernel_rfl
theorem agK:row Tryz.prog 196=true:=by kernel_rfl
theorem aka:one Tryz.prog 42 240=true:=by kernel_rfl
theorem agL:row Tryz.prog 240=true:=by kernel_rfl
theorem akb:one Tryz.prog 43 197=true:=by kernel_rfl
theorem agM:row Tryz.prog 197=true:=by kernel_rfl
theorem akc:one Tryz.prog 44 156=true:=by kernel_rfl
theorem agN:row Tryz.prog 156=true:=by kernel_rfl
theorem akd:one Tryz.prog 45 110=true:=by kernel_rfl
theorem agO:row Tryz.prog 110=true:=by kernel_rfl
theorem ake:one Tryz.prog 46 157=true:=by kernel_rfl
theorem agP:row Tryz.prog 157=true:=by kernel_rfl
theorem akf:one Tryz.prog 47 267=true:=by kernel_rfl
theorem agQ:row Tryz.prog 267=true:=by kernel_rfl
theorem agR:row Tryz.prog 241=true:=by kernel_rfl
theorem akg:one Tryz.prog 49 242=true:=by kernel_rfl
theorem agS:row Tryz.prog 242=true:=by kernel_rfl
theorem c198:one Tryz.prog 50 198=true:=by kernel_rfl
theorem agT:row Tryz.prog 198=true:=by kernel_rfl
theorem akh:one Tryz.prog 51 199=true:=by kernel_rfl
theorem agU:row Tryz.prog 199=true:=by kernel_rfl
theorem aki:one Tryz.prog 52 158=true:=by kernel_rfl
theorem agV:row Tryz.prog 158=true:=by kernel_rfl
theorem akj:one Tryz.prog 53 111=true:=by kernel_rfl
theorem agW:row Tryz.prog 111=true:=by kernel_rfl
theorem c71:one Tryz.prog 54 71=true:=by kernel_rfl
theorem e71:row Tryz.prog 71=true:=by kernel_rfl
theorem akk:one Tryz.prog 55 159=true:=by kernel_rfl
theorem agX:row Tryz.prog 159=true:=by kernel_rfl
theorem akl:one Tryz.prog 56 200=true:=by kernel_rfl
theorem agY:row Tryz.prog 200=true:=by kernel_rfl
theorem akm:one Tryz.prog 57 201=true:=by kernel_rfl
theorem agZ:row Tryz.prog 201=true:=by kernel_rfl
theorem akn:one Tryz.prog 58 202=true:=by kernel_rfl
theorem ag0:row Tryz.prog 202=true:=by kernel_rfl
theorem ako:one Tryz.prog 59 160=true:=by kernel_rfl
theorem ag1:row Tryz.prog 160=true:=by kernel_rfl
theorem akp:one Tryz.prog 60 161=true:=by kernel_rfl
theorem ag2:row Tryz.prog 161=true:=by kernel_rfl
theorem akq:one Tryz.prog 61 246=true:=by kernel_rfl
theorem ag3:row Tryz.prog 246=true:=by kernel_rfl
end Go.Proofs.YtohebioanhliiaaGreatDoor.aF

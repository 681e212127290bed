/- Functions that come to an end, as their contracts say. -/
import Derived.Test.YtohebioanhliiaaGreatDoorBB1
import Derived.Test.YtohebioanhliiaaGreatDoorChecked
import Derived.KernelRfl
set_option maxRecDepth 100000
namespace Go.Proofs.YtohebioanhliiaaGreatDoor.aw
open Go.Sx
theorem c9:one Tryz.prog 7 9=true:=by kernel_rfl
theorem e9:row Tryz.prog 9=true:=by kernel_rfl
theorem c56:one Tryz.prog 8 56=true:=by kernel_rfl
theorem e56:row Tryz.prog 56=true:=by kernel_rfl
theorem c37:one Tryz.prog 9 37=true:=by kernel_rfl
theorem e37:row Tryz.prog 37=true:=by kernel_rfl
theorem c23:one Tryz.prog 10 23=true:=by kernel_rfl
theorem e23:row Tryz.prog 23=true:=by kernel_rfl
theorem c41:one Tryz.prog 11 41=true:=by kernel_rfl
theorem e41:row Tryz.prog 41=true:=by kernel_rfl
theorem c65:one Tryz.prog 12 65=true:=by kernel_rfl
theorem e65:row Tryz.prog 65=true:=by kernel_rfl
theorem c42:one Tryz.prog 13 42=true:=by kernel_rfl
theorem e42:row Tryz.prog 42=true:=by kernel_rfl
theorem c28:one Tryz.prog 14 28=true:=by kernel_rfl
theorem e28:row Tryz.prog 28=true:=by kernel_rfl
theorem ahG:one Tryz.prog 15 100=true:=by kernel_rfl
theorem ad2:row Tryz.prog 100=true:=by kernel_rfl
theorem c66:one Tryz.prog 16 66=true:=by kernel_rfl
theorem e66:row Tryz.prog 66=true:=by kernel_rfl
theorem c43:one Tryz.prog 17 43=true:=by kernel_rfl
theorem e43:row Tryz.prog 43=true:=by kernel_rfl
theorem c29:one Tryz.prog 18 29=true:=by kernel_rfl
theorem e29:row Tryz.prog 29=true:=by kernel_rfl
theorem e47:row Tryz.prog 47=true:=by kernel_rfl
theorem e44:row Tryz.prog 44=true:=by kernel_rfl
theorem c46:one Tryz.prog 21 46=true:=by kernel_rfl
theorem e46:row Tryz.prog 46=true:=by kernel_rfl
theorem e30:row Tryz.prog 30=true:=by kernel_rfl
theorem ahH:one Tryz.prog 23 101=true:=by kernel_rfl
theorem ad3:row Tryz.prog 101=true:=by kernel_rfl
theorem c67:one Tryz.prog 24 67=true:=by kernel_rfl
theorem e67:row Tryz.prog 67=true:=by kernel_rfl
theorem ahI:one Tryz.prog 25 174=true:=by kernel_rfl
theorem ad4:row Tryz.prog 174=true:=by kernel_rfl
theorem ahJ:one Tryz.prog 26 195=true:=by kernel_rfl
theorem ad5:row Tryz.prog 195=true:=by kernel_rfl
theorem ahK:one Tryz.prog 27 149=true:=by kernel_rfl
theorem ad6:row Tryz.prog 149=true:=by kernel_rfl
theorem ahL:one Tryz.prog 28 102=true:=by kernel_rfl
theorem ad7:row Tryz.prog 102=true:=by kernel_rfl
theorem ahM:one Tryz.prog 29 151=true:=by kernel_rfl
theorem ad8:row Tryz.prog 151=true:=by kernel_rfl
theorem ahN:one Tryz.prog 30 150=true:=by kernel_rfl
theorem ad9:row Tryz.prog 150=true:=by kernel_rfl
theorem Tk:one Tryz.prog 31 104150=true:=by kernel_rfl
theorem SG:row Tryz.prog 104150=true:=by kernel_rfl
theorem ahO:one Tryz.prog 32 103=true:=by kernel_rfl
theorem ad':row Tryz.prog 103=true:=by kernel_rfl
theorem ahP:one Tryz.prog 33 107=true:=by kernel_rfl
theorem aea:row Tryz.prog 107=true:=by kernel_rfl
theorem ahQ:one Tryz.prog 34 106=true:=by kernel_rfl
theorem aeb:row Tryz.prog 106=true:=by kernel_rfl
theorem Tl:one Tryz.prog 35 104106=true:=by kernel_rfl
theorem SH:row Tryz.prog 104106=true:=by kernel_rfl
end Go.Proofs.YtohebioanhliiaaGreatDoor.aw

/- Functions that come to an end, as their contracts say. -/
import Derived.Test.YtohebioanhliiaaGreatDoorJB1
import Derived.Test.YtohebioanhliiaaGreatDoorChecked
import Derived.KernelRfl
set_option maxRecDepth 100000
namespace Go.Proofs.YtohebioanhliiaaGreatDoor.aF
open Go.Sx
theorem akr:one Tryz.prog 62 245=true:=by kernel_rfl
theorem ag4:row Tryz.prog 245=true:=by kernel_rfl
theorem Vv:one Tryz.prog 63 205245=true:=by kernel_rfl
theorem UW:row Tryz.prog 205245=true:=by kernel_rfl
theorem aks:one Tryz.prog 64 163=true:=by kernel_rfl
theorem ag5:row Tryz.prog 163=true:=by kernel_rfl
theorem akt:one Tryz.prog 65 204=true:=by kernel_rfl
theorem ag6:row Tryz.prog 204=true:=by kernel_rfl
theorem aku:one Tryz.prog 66 244=true:=by kernel_rfl
theorem ag7:row Tryz.prog 244=true:=by kernel_rfl
theorem akv:one Tryz.prog 67 203=true:=by kernel_rfl
theorem ag8:row Tryz.prog 203=true:=by kernel_rfl
theorem akw:one Tryz.prog 68 112=true:=by kernel_rfl
theorem ag9:row Tryz.prog 112=true:=by kernel_rfl
theorem akx:one Tryz.prog 69 164=true:=by kernel_rfl
theorem ag':row Tryz.prog 164=true:=by kernel_rfl
theorem aky:one Tryz.prog 70 165=true:=by kernel_rfl
theorem aha:row Tryz.prog 165=true:=by kernel_rfl
theorem akz:one Tryz.prog 71 210=true:=by kernel_rfl
theorem ahb:row Tryz.prog 210=true:=by kernel_rfl
theorem akA:one Tryz.prog 72 211=true:=by kernel_rfl
theorem ahc:row Tryz.prog 211=true:=by kernel_rfl
theorem akB:one Tryz.prog 73 247=true:=by kernel_rfl
theorem ahd:row Tryz.prog 247=true:=by kernel_rfl
theorem akC:one Tryz.prog 74 250=true:=by kernel_rfl
theorem ahe:row Tryz.prog 250=true:=by kernel_rfl
theorem akD:one Tryz.prog 75 251=true:=by kernel_rfl
theorem ahf:row Tryz.prog 251=true:=by kernel_rfl
theorem akE:one Tryz.prog 76 284=true:=by kernel_rfl
theorem ahg:row Tryz.prog 284=true:=by kernel_rfl
theorem akF:one Tryz.prog 77 268=true:=by kernel_rfl
theorem ahh:row Tryz.prog 268=true:=by kernel_rfl
theorem akG:one Tryz.prog 78 207=true:=by kernel_rfl
theorem ahi:row Tryz.prog 207=true:=by kernel_rfl
theorem akH:one Tryz.prog 79 208=true:=by kernel_rfl
theorem ahj:row Tryz.prog 208=true:=by kernel_rfl
theorem akI:one Tryz.prog 80 166=true:=by kernel_rfl
theorem ahk:row Tryz.prog 166=true:=by kernel_rfl
theorem akJ:one Tryz.prog 81 168=true:=by kernel_rfl
theorem ahl:row Tryz.prog 168=true:=by kernel_rfl
theorem akK:one Tryz.prog 82 170=true:=by kernel_rfl
theorem ahm:row Tryz.prog 170=true:=by kernel_rfl
theorem akL:one Tryz.prog 83 213=true:=by kernel_rfl
theorem ahn:row Tryz.prog 213=true:=by kernel_rfl
theorem akM:one Tryz.prog 84 171=true:=by kernel_rfl
theorem aho:row Tryz.prog 171=true:=by kernel_rfl
theorem akN:one Tryz.prog 85 172=true:=by kernel_rfl
theorem ahp:row Tryz.prog 172=true:=by kernel_rfl
theorem akO:one Tryz.prog 86 113=true:=by kernel_rfl
theorem ahq:row Tryz.prog 113=true:=by kernel_rfl
end Go.Proofs.YtohebioanhliiaaGreatDoor.aF

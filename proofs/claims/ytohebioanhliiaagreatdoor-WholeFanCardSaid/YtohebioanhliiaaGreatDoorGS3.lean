/- Functions that come to an end, as their contracts say. -/
import Derived.Test.YtohebioanhliiaaGreatDoorGB1
set_option maxRecDepth 100000
namespace Go.Proofs.YtohebioanhliiaaGreatDoor.av
open Go.Sx
theorem aky:one PP 62 245=true:=by kernel_rfl
theorem ahq:row PP 245=true:=by kernel_rfl
theorem XG:one PP 63 205245=true:=by kernel_rfl
theorem WU:row PP 205245=true:=by kernel_rfl
theorem akz:one PP 64 163=true:=by kernel_rfl
theorem ahr:row PP 163=true:=by kernel_rfl
theorem akA:one PP 65 204=true:=by kernel_rfl
theorem ahs:row PP 204=true:=by kernel_rfl
theorem akB:one PP 66 244=true:=by kernel_rfl
theorem aht:row PP 244=true:=by kernel_rfl
theorem akC:one PP 67 203=true:=by kernel_rfl
theorem ahu:row PP 203=true:=by kernel_rfl
theorem akD:one PP 68 112=true:=by kernel_rfl
theorem ahv:row PP 112=true:=by kernel_rfl
theorem akE:one PP 69 164=true:=by kernel_rfl
theorem ahw:row PP 164=true:=by kernel_rfl
theorem akF:one PP 70 165=true:=by kernel_rfl
theorem ahx:row PP 165=true:=by kernel_rfl
theorem akG:one PP 71 210=true:=by kernel_rfl
theorem ahy:row PP 210=true:=by kernel_rfl
theorem akH:one PP 72 211=true:=by kernel_rfl
theorem ahz:row PP 211=true:=by kernel_rfl
theorem akI:one PP 73 247=true:=by kernel_rfl
theorem ahA:row PP 247=true:=by kernel_rfl
theorem akJ:one PP 74 250=true:=by kernel_rfl
theorem ahB:row PP 250=true:=by kernel_rfl
theorem akK:one PP 75 251=true:=by kernel_rfl
theorem ahC:row PP 251=true:=by kernel_rfl
theorem akL:one PP 76 284=true:=by kernel_rfl
theorem ahD:row PP 284=true:=by kernel_rfl
theorem akM:one PP 77 268=true:=by kernel_rfl
theorem ahE:row PP 268=true:=by kernel_rfl
theorem akN:one PP 78 207=true:=by kernel_rfl
theorem ahF:row PP 207=true:=by kernel_rfl
theorem akO:one PP 79 208=true:=by kernel_rfl
theorem ahG:row PP 208=true:=by kernel_rfl
theorem akP:one PP 80 166=true:=by kernel_rfl
theorem ahH:row PP 166=true:=by kernel_rfl
theorem akQ:one PP 81 168=true:=by kernel_rfl
theorem ahI:row PP 168=true:=by kernel_rfl
theorem akR:one PP 82 170=true:=by kernel_rfl
theorem ahJ:row PP 170=true:=by kernel_rfl
theorem akS:one PP 83 213=true:=by kernel_rfl
theorem ahK:row PP 213=true:=by kernel_rfl
theorem akT:one PP 84 171=true:=by kernel_rfl
theorem ahL:row PP 171=true:=by kernel_rfl
theorem akU:one PP 85 172=true:=by kernel_rfl
theorem ahM:row PP 172=true:=by kernel_rfl
theorem akV:one PP 86 113=true:=by kernel_rfl
theorem ahN:row PP 113=true:=by kernel_rfl
end Go.Proofs.YtohebioanhliiaaGreatDoor.av

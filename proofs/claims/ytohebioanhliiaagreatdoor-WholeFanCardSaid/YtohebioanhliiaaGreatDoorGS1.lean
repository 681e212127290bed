/- Functions that come to an end, as their contracts say. -/
import Derived.Test.YtohebioanhliiaaGreatDoorGB1
set_option maxRecDepth 100000
namespace Go.Proofs.YtohebioanhliiaaGreatDoor.av
open Go.Sx
theorem c9:one PP 7 9=true:=by kernel_rfl
theorem e9:row PP 9=true:=by kernel_rfl
theorem c56:one PP 8 56=true:=by kernel_rfl
theorem e56:row PP 56=true:=by kernel_rfl
theorem c37:one PP 9 37=true:=by kernel_rfl
theorem e37:row PP 37=true:=by kernel_rfl
theorem c23:one PP 10 23=true:=by kernel_rfl
theorem e23:row PP 23=true:=by kernel_rfl
theorem c41:one PP 11 41=true:=by kernel_rfl
theorem e41:row PP 41=true:=by kernel_rfl
theorem c65:one PP 12 65=true:=by kernel_rfl
theorem e65:row PP 65=true:=by kernel_rfl
theorem c42:one PP 13 42=true:=by kernel_rfl
theorem e42:row PP 42=true:=by kernel_rfl
theorem c28:one PP 14 28=true:=by kernel_rfl
theorem e28:row PP 28=true:=by kernel_rfl
theorem aj3:one PP 15 100=true:=by kernel_rfl
theorem agS:row PP 100=true:=by kernel_rfl
theorem c66:one PP 16 66=true:=by kernel_rfl
theorem e66:row PP 66=true:=by kernel_rfl
theorem c43:one PP 17 43=true:=by kernel_rfl
theorem e43:row PP 43=true:=by kernel_rfl
theorem c29:one PP 18 29=true:=by kernel_rfl
theorem e29:row PP 29=true:=by kernel_rfl
theorem e47:row PP 47=true:=by kernel_rfl
theorem e44:row PP 44=true:=by kernel_rfl
theorem c46:one PP 21 46=true:=by kernel_rfl
theorem e46:row PP 46=true:=by kernel_rfl
theorem e30:row PP 30=true:=by kernel_rfl
theorem aj4:one PP 23 101=true:=by kernel_rfl
theorem agT:row PP 101=true:=by kernel_rfl
theorem c67:one PP 24 67=true:=by kernel_rfl
theorem e67:row PP 67=true:=by kernel_rfl
theorem aj5:one PP 25 174=true:=by kernel_rfl
theorem agU:row PP 174=true:=by kernel_rfl
theorem aj6:one PP 26 195=true:=by kernel_rfl
theorem agV:row PP 195=true:=by kernel_rfl
theorem aj7:one PP 27 149=true:=by kernel_rfl
theorem agW:row PP 149=true:=by kernel_rfl
theorem aj8:one PP 28 102=true:=by kernel_rfl
theorem agX:row PP 102=true:=by kernel_rfl
theorem aj9:one PP 29 151=true:=by kernel_rfl
theorem agY:row PP 151=true:=by kernel_rfl
theorem aj':one PP 30 150=true:=by kernel_rfl
theorem agZ:row PP 150=true:=by kernel_rfl
theorem XD:one PP 31 104150=true:=by kernel_rfl
theorem WS:row PP 104150=true:=by kernel_rfl
theorem aka:one PP 32 103=true:=by kernel_rfl
theorem ag0:row PP 103=true:=by kernel_rfl
theorem akb:one PP 33 107=true:=by kernel_rfl
theorem ag1:row PP 107=true:=by kernel_rfl
theorem akc:one PP 34 106=true:=by kernel_rfl
theorem ag2:row PP 106=true:=by kernel_rfl
theorem XE:one PP 35 104106=true:=by kernel_rfl
theorem WT:row PP 104106=true:=by kernel_rfl
end Go.Proofs.YtohebioanhliiaaGreatDoor.av

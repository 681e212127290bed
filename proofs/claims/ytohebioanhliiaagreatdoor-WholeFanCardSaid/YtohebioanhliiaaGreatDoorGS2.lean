/- Functions that come to an end, as their contracts say. -/
import Derived.Test.YtohebioanhliiaaGreatDoorGB1
set_option maxRecDepth 100000
namespace Go.Proofs.YtohebioanhliiaaGreatDoor.av
open Go.Sx
theorem akd:one PP 36 105=true:=by kernel_rfl
theorem ag3:row PP 105=true:=by kernel_rfl
theorem c69:one PP 37 69=true:=by kernel_rfl
theorem e69:row PP 69=true:=by kernel_rfl
theorem ake:one PP 38 109=true:=by kernel_rfl
theorem ag4:row PP 109=true:=by kernel_rfl
theorem akf:one PP 39 155=true:=by kernel_rfl
theorem ag5:row PP 155=true:=by kernel_rfl
theorem akg:one PP 40 139=true:=by kernel_rfl
theorem ag6:row PP 139=true:=by kernel_rfl
theorem c196:one PP 41 196=true:=by kernel_rfl
theorem ag7:row PP 196=true:=by kernel_rfl
theorem akh:one PP 42 240=true:=by kernel_rfl
theorem ag8:row PP 240=true:=by kernel_rfl
theorem aki:one PP 43 197=true:=by kernel_rfl
theorem ag9:row PP 197=true:=by kernel_rfl
theorem akj:one PP 44 156=true:=by kernel_rfl
theorem ag':row PP 156=true:=by kernel_rfl
theorem akk:one PP 45 110=true:=by kernel_rfl
theorem aha:row PP 110=true:=by kernel_rfl
theorem akl:one PP 46 157=true:=by kernel_rfl
theorem ahb:row PP 157=true:=by kernel_rfl
theorem akm:one PP 47 267=true:=by kernel_rfl
theorem ahc:row PP 267=true:=by kernel_rfl
theorem ahd:row PP 241=true:=by kernel_rfl
theorem akn:one PP 49 242=true:=by kernel_rfl
theorem ahe:row PP 242=true:=by kernel_rfl
theorem c198:one PP 50 198=true:=by kernel_rfl
theorem ahf:row PP 198=true:=by kernel_rfl
theorem ako:one PP 51 199=true:=by kernel_rfl
theorem ahg:row PP 199=true:=by kernel_rfl
theorem akp:one PP 52 158=true:=by kernel_rfl
theorem ahh:row PP 158=true:=by kernel_rfl
theorem akq:one PP 53 111=true:=by kernel_rfl
theorem ahi:row PP 111=true:=by kernel_rfl
theorem c71:one PP 54 71=true:=by kernel_rfl
theorem e71:row PP 71=true:=by kernel_rfl
theorem akr:one PP 55 159=true:=by kernel_rfl
theorem ahj:row PP 159=true:=by kernel_rfl
theorem aks:one PP 56 200=true:=by kernel_rfl
theorem ahk:row PP 200=true:=by kernel_rfl
theorem akt:one PP 57 201=true:=by kernel_rfl
theorem ahl:row PP 201=true:=by kernel_rfl
theorem aku:one PP 58 202=true:=by kernel_rfl
theorem ahm:row PP 202=true:=by kernel_rfl
theorem akv:one PP 59 160=true:=by kernel_rfl
theorem ahn:row PP 160=true:=by kernel_rfl
theorem akw:one PP 60 161=true:=by kernel_rfl
theorem aho:row PP 161=true:=by kernel_rfl
theorem akx:one PP 61 246=true:=by kernel_rfl
theorem ahp:row PP 246=true:=by kernel_rfl
end Go.Proofs.YtohebioanhliiaaGreatDoor.av

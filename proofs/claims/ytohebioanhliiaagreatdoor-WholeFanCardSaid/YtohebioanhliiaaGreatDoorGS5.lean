/- Functions that come to an end, as their contracts say. -/
import Derived.Test.YtohebioanhliiaaGreatDoorGB1
set_option maxRecDepth 100000
namespace Go.Proofs.YtohebioanhliiaaGreatDoor.av
open Go.Sx
theorem alj:one PP 114 224=true:=by kernel_rfl
theorem aib:row PP 224=true:=by kernel_rfl
theorem alk:one PP 115 225=true:=by kernel_rfl
theorem aic:row PP 225=true:=by kernel_rfl
theorem alm:one PP 116 177=true:=by kernel_rfl
theorem aaH:row PP 177=true:=by kernel_rfl
theorem aln:one PP 117 122=true:=by kernel_rfl
theorem aid:row PP 122=true:=by kernel_rfl
theorem alo:one PP 118 123=true:=by kernel_rfl
theorem aie:row PP 123=true:=by kernel_rfl
theorem alp:one PP 119 124=true:=by kernel_rfl
theorem aif:row PP 124=true:=by kernel_rfl
theorem c74:one PP 120 74=true:=by kernel_rfl
theorem e74:row PP 74=true:=by kernel_rfl
theorem alq:one PP 121 152=true:=by kernel_rfl
theorem aih:row PP 152=true:=by kernel_rfl
theorem alr:one PP 122 153=true:=by kernel_rfl
theorem aii:row PP 153=true:=by kernel_rfl
theorem als:one PP 123 154=true:=by kernel_rfl
theorem aij:row PP 154=true:=by kernel_rfl
theorem alv:one PP 124 108=true:=by kernel_rfl
theorem aik:row PP 108=true:=by kernel_rfl
theorem e18:row PP 18=true:=by kernel_rfl
theorem ail:row PP 186=true:=by kernel_rfl
theorem aim:row PP 132=true:=by kernel_rfl
theorem ain:row PP 133=true:=by kernel_rfl
theorem e80:row PP 80=true:=by kernel_rfl
theorem e57:row PP 57=true:=by kernel_rfl
theorem e59:row PP 59=true:=by kernel_rfl
theorem aio:row PP 135=true:=by kernel_rfl
theorem aip:row PP 136=true:=by kernel_rfl
theorem aiq:row PP 137=true:=by kernel_rfl
theorem e84:row PP 84=true:=by kernel_rfl
end Go.Proofs.YtohebioanhliiaaGreatDoor.av

/- Functions that come to an end, as their contracts say. -/
import Derived.Test.YtohebioanhliiaaGreatDoorGB1
set_option maxRecDepth 100000
namespace Go.Proofs.YtohebioanhliiaaGreatDoor.av
open Go.Sx
theorem e86:row PP 86=true:=by kernel_rfl
theorem e88:row PP 88=true:=by kernel_rfl
theorem air:row PP 187=true:=by kernel_rfl
theorem ais:row PP 143=true:=by kernel_rfl
theorem ait:row PP 141=true:=by kernel_rfl
theorem e90:row PP 90=true:=by kernel_rfl
theorem e91:row PP 91=true:=by kernel_rfl
theorem aiu:row PP 144=true:=by kernel_rfl
theorem aiv:row PP 188=true:=by kernel_rfl
theorem aiw:row PP 145=true:=by kernel_rfl
theorem e92:row PP 92=true:=by kernel_rfl
theorem e93:row PP 93=true:=by kernel_rfl
theorem e94:row PP 94=true:=by kernel_rfl
theorem aix:row PP 134=true:=by kernel_rfl
theorem aiy:row PP 193=true:=by kernel_rfl
theorem aiz:row PP 232=true:=by kernel_rfl
theorem aiA:row PP 233=true:=by kernel_rfl
theorem aiB:row PP 235=true:=by kernel_rfl
theorem aiC:row PP 264=true:=by kernel_rfl
theorem aiD:row PP 236=true:=by kernel_rfl
theorem aiE:row PP 265=true:=by kernel_rfl
theorem aiF:row PP 237=true:=by kernel_rfl
theorem aiG:row PP 262=true:=by kernel_rfl
theorem ry:row PP 12=true:=by kernel_rfl
theorem e55:row PP 55=true:=by kernel_rfl
theorem CY:row PP 11=true:=by kernel_rfl
theorem e21:row PP 21=true:=by kernel_rfl
theorem vP:row PP 13=true:=by kernel_rfl
theorem Ot:row PP 14=true:=by kernel_rfl
theorem e25:row PP 25=true:=by kernel_rfl
theorem Ou:row PP 15=true:=by kernel_rfl
theorem Xm:al3 PP 160 12=true:=by kernel_rfl
end Go.Proofs.YtohebioanhliiaaGreatDoor.av

/- Functions that come to an end, as their contracts say. -/
import Derived.Test.YtohebioanhliiaaGreatDoorFB1
set_option maxRecDepth 100000
namespace Go.Proofs.YtohebioanhliiaaGreatDoor.aN
open Go.Sx
theorem c86:one PP 136 86=true:=by kernel_rfl
theorem e86:row PP 86=true:=by kernel_rfl
theorem c88:one PP 137 88=true:=by kernel_rfl
theorem e88:row PP 88=true:=by kernel_rfl
theorem alB:one PP 138 187=true:=by kernel_rfl
theorem aik:row PP 187=true:=by kernel_rfl
theorem alC:one PP 139 143=true:=by kernel_rfl
theorem ail:row PP 143=true:=by kernel_rfl
theorem alD:one PP 140 141=true:=by kernel_rfl
theorem aim:row PP 141=true:=by kernel_rfl
theorem c90:one PP 141 90=true:=by kernel_rfl
theorem e90:row PP 90=true:=by kernel_rfl
theorem c91:one PP 142 91=true:=by kernel_rfl
theorem e91:row PP 91=true:=by kernel_rfl
theorem alE:one PP 143 144=true:=by kernel_rfl
theorem ain:row PP 144=true:=by kernel_rfl
theorem alF:one PP 144 188=true:=by kernel_rfl
theorem aio:row PP 188=true:=by kernel_rfl
theorem alG:one PP 145 145=true:=by kernel_rfl
theorem aip:row PP 145=true:=by kernel_rfl
theorem c92:one PP 146 92=true:=by kernel_rfl
theorem e92:row PP 92=true:=by kernel_rfl
theorem c93:one PP 147 93=true:=by kernel_rfl
theorem e93:row PP 93=true:=by kernel_rfl
theorem c94:one PP 148 94=true:=by kernel_rfl
theorem e94:row PP 94=true:=by kernel_rfl
theorem alH:one PP 149 134=true:=by kernel_rfl
theorem aiq:row PP 134=true:=by kernel_rfl
theorem c193:one PP 150 193=true:=by kernel_rfl
theorem air:row PP 193=true:=by kernel_rfl
theorem alI:one PP 151 232=true:=by kernel_rfl
theorem ais:row PP 232=true:=by kernel_rfl
theorem alJ:one PP 152 233=true:=by kernel_rfl
theorem ait:row PP 233=true:=by kernel_rfl
theorem alK:one PP 153 235=true:=by kernel_rfl
theorem aiu:row PP 235=true:=by kernel_rfl
theorem alL:one PP 154 264=true:=by kernel_rfl
theorem aiv:row PP 264=true:=by kernel_rfl
theorem alM:one PP 155 236=true:=by kernel_rfl
theorem aiw:row PP 236=true:=by kernel_rfl
theorem alN:one PP 156 265=true:=by kernel_rfl
theorem aix:row PP 265=true:=by kernel_rfl
theorem alO:one PP 157 237=true:=by kernel_rfl
theorem aiy:row PP 237=true:=by kernel_rfl
theorem alP:one PP 158 262=true:=by kernel_rfl
theorem aiz:row PP 262=true:=by kernel_rfl
theorem Bu:row PP 12=true:=by kernel_rfl
theorem c55:one PP 161 55=true:=by kernel_rfl
theorem e55:row PP 55=true:=by kernel_rfl
theorem c11:one PP 162 11=true:=by kernel_rfl
theorem Uv:row PP 11=true:=by kernel_rfl
theorem c21:one PP 163 21=true:=by kernel_rfl
theorem e21:row PP 21=true:=by kernel_rfl
theorem c13:one PP 164 13=true:=by kernel_rfl
theorem e13:row PP 13=true:=by kernel_rfl
theorem c14:one PP 165 14=true:=by kernel_rfl
theorem e14:row PP 14=true:=by kernel_rfl
theorem c25:one PP 166 25=true:=by kernel_rfl
theorem e25:row PP 25=true:=by kernel_rfl
theorem c15:one PP 167 15=true:=by kernel_rfl
theorem e15:row PP 15=true:=by kernel_rfl
theorem w12:amA PP 160 12=true:=by kernel_rfl
end Go.Proofs.YtohebioanhliiaaGreatDoor.aN

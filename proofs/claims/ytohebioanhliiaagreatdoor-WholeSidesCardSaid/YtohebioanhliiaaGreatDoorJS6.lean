/- Functions that come to an end, as their contracts say. -/
import Derived.Test.YtohebioanhliiaaGreatDoorJB1
import Derived.Test.YtohebioanhliiaaGreatDoorChecked
import Derived.KernelRfl
set_option maxRecDepth 100000
namespace Go.Proofs.YtohebioanhliiaaGreatDoor.aF
open Go.Sx
theorem c86:one Tryz.prog 136 86=true:=by kernel_rfl
theorem e86:row Tryz.prog 86=true:=by kernel_rfl
theorem c88:one Tryz.prog 137 88=true:=by kernel_rfl
theorem e88:row Tryz.prog 88=true:=by kernel_rfl
theorem alu:one Tryz.prog 138 187=true:=by kernel_rfl
theorem ah6:row Tryz.prog 187=true:=by kernel_rfl
theorem alv:one Tryz.prog 139 143=true:=by kernel_rfl
theorem ah7:row Tryz.prog 143=true:=by kernel_rfl
theorem alw:one Tryz.prog 140 141=true:=by kernel_rfl
theorem ah8:row Tryz.prog 141=true:=by kernel_rfl
theorem c90:one Tryz.prog 141 90=true:=by kernel_rfl
theorem e90:row Tryz.prog 90=true:=by kernel_rfl
theorem c91:one Tryz.prog 142 91=true:=by kernel_rfl
theorem e91:row Tryz.prog 91=true:=by kernel_rfl
theorem alx:one Tryz.prog 143 144=true:=by kernel_rfl
theorem ah9:row Tryz.prog 144=true:=by kernel_rfl
theorem aly:one Tryz.prog 144 188=true:=by kernel_rfl
theorem ah':row Tryz.prog 188=true:=by kernel_rfl
theorem alz:one Tryz.prog 145 145=true:=by kernel_rfl
theorem aia:row Tryz.prog 145=true:=by kernel_rfl
theorem c92:one Tryz.prog 146 92=true:=by kernel_rfl
theorem e92:row Tryz.prog 92=true:=by kernel_rfl
theorem c93:one Tryz.prog 147 93=true:=by kernel_rfl
theorem e93:row Tryz.prog 93=true:=by kernel_rfl
theorem c94:one Tryz.prog 148 94=true:=by kernel_rfl
theorem e94:row Tryz.prog 94=true:=by kernel_rfl
theorem alA:one Tryz.prog 149 134=true:=by kernel_rfl
theorem aib:row Tryz.prog 134=true:=by kernel_rfl
theorem c193:one Tryz.prog 150 193=true:=by kernel_rfl
theorem aic:row Tryz.prog 193=true:=by kernel_rfl
theorem alB:one Tryz.prog 151 232=true:=by kernel_rfl
theorem aid:row Tryz.prog 232=true:=by kernel_rfl
theorem alC:one Tryz.prog 152 233=true:=by kernel_rfl
theorem aie:row Tryz.prog 233=true:=by kernel_rfl
theorem alD:one Tryz.prog 153 235=true:=by kernel_rfl
theorem aif:row Tryz.prog 235=true:=by kernel_rfl
theorem alE:one Tryz.prog 154 264=true:=by kernel_rfl
theorem aih:row Tryz.prog 264=true:=by kernel_rfl
theorem alF:one Tryz.prog 155 236=true:=by kernel_rfl
theorem aii:row Tryz.prog 236=true:=by kernel_rfl
theorem alG:one Tryz.prog 156 265=true:=by kernel_rfl
theorem aij:row Tryz.prog 265=true:=by kernel_rfl
theorem alH:one Tryz.prog 157 237=true:=by kernel_rfl
theorem aik:row Tryz.prog 237=true:=by kernel_rfl
theorem alI:one Tryz.prog 158 262=true:=by kernel_rfl
theorem ail:row Tryz.prog 262=true:=by kernel_rfl
theorem e12:row Tryz.prog 12=true:=by kernel_rfl
theorem c55:one Tryz.prog 161 55=true:=by kernel_rfl
theorem e55:row Tryz.prog 55=true:=by kernel_rfl
theorem c11:one Tryz.prog 162 11=true:=by kernel_rfl
theorem e11:row Tryz.prog 11=true:=by kernel_rfl
theorem c21:one Tryz.prog 163 21=true:=by kernel_rfl
theorem e21:row Tryz.prog 21=true:=by kernel_rfl
theorem c13:one Tryz.prog 164 13=true:=by kernel_rfl
theorem e13:row Tryz.prog 13=true:=by kernel_rfl
theorem c14:one Tryz.prog 165 14=true:=by kernel_rfl
theorem e14:row Tryz.prog 14=true:=by kernel_rfl
theorem c25:one Tryz.prog 166 25=true:=by kernel_rfl
theorem e25:row Tryz.prog 25=true:=by kernel_rfl
theorem c15:one Tryz.prog 167 15=true:=by kernel_rfl
theorem e15:row Tryz.prog 15=true:=by kernel_rfl
theorem w12:aat Tryz.prog 160 12=true:=by kernel_rfl
end Go.Proofs.YtohebioanhliiaaGreatDoor.aF

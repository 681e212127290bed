/- Functions that come to an end, as their contracts say. -/
import Derived.Test.YtohebioanhliiaaGreatDoorJB1
import Derived.Test.YtohebioanhliiaaGreatDoorChecked
import Derived.KernelRfl
set_option maxRecDepth 100000
namespace Go.Proofs.YtohebioanhliiaaGreatDoor.aF
open Go.Sx
theorem alc:one Tryz.prog 114 224=true:=by kernel_rfl
theorem ahQ:row Tryz.prog 224=true:=by kernel_rfl
theorem ald:one Tryz.prog 115 225=true:=by kernel_rfl
theorem ahR:row Tryz.prog 225=true:=by kernel_rfl
theorem ale:one Tryz.prog 116 177=true:=by kernel_rfl
theorem ahS:row Tryz.prog 177=true:=by kernel_rfl
theorem alf:one Tryz.prog 117 122=true:=by kernel_rfl
theorem ahT:row Tryz.prog 122=true:=by kernel_rfl
theorem alg:one Tryz.prog 118 123=true:=by kernel_rfl
theorem ahU:row Tryz.prog 123=true:=by kernel_rfl
theorem alh:one Tryz.prog 119 124=true:=by kernel_rfl
theorem ahV:row Tryz.prog 124=true:=by kernel_rfl
theorem c74:one Tryz.prog 120 74=true:=by kernel_rfl
theorem e74:row Tryz.prog 74=true:=by kernel_rfl
theorem ali:one Tryz.prog 121 152=true:=by kernel_rfl
theorem ahW:row Tryz.prog 152=true:=by kernel_rfl
theorem alj:one Tryz.prog 122 153=true:=by kernel_rfl
theorem ahX:row Tryz.prog 153=true:=by kernel_rfl
theorem alk:one Tryz.prog 123 154=true:=by kernel_rfl
theorem ahY:row Tryz.prog 154=true:=by kernel_rfl
theorem alm:one Tryz.prog 124 108=true:=by kernel_rfl
theorem ahZ:row Tryz.prog 108=true:=by kernel_rfl
theorem e18:row Tryz.prog 18=true:=by kernel_rfl
theorem aln:one Tryz.prog 126 186=true:=by kernel_rfl
theorem ah0:row Tryz.prog 186=true:=by kernel_rfl
theorem alo:one Tryz.prog 127 132=true:=by kernel_rfl
theorem ah1:row Tryz.prog 132=true:=by kernel_rfl
theorem alp:one Tryz.prog 128 133=true:=by kernel_rfl
theorem ah2:row Tryz.prog 133=true:=by kernel_rfl
theorem c80:one Tryz.prog 129 80=true:=by kernel_rfl
theorem e80:row Tryz.prog 80=true:=by kernel_rfl
theorem e57:row Tryz.prog 57=true:=by kernel_rfl
theorem c59:one Tryz.prog 131 59=true:=by kernel_rfl
theorem e59:row Tryz.prog 59=true:=by kernel_rfl
theorem alq:one Tryz.prog 132 135=true:=by kernel_rfl
theorem ah3:row Tryz.prog 135=true:=by kernel_rfl
theorem alr:one Tryz.prog 133 136=true:=by kernel_rfl
theorem ah4:row Tryz.prog 136=true:=by kernel_rfl
theorem als:one Tryz.prog 134 137=true:=by kernel_rfl
theorem ah5:row Tryz.prog 137=true:=by kernel_rfl
theorem c84:one Tryz.prog 135 84=true:=by kernel_rfl
theorem e84:row Tryz.prog 84=true:=by kernel_rfl
theorem w57:aat Tryz.prog 130 57=true:=by kernel_rfl
end Go.Proofs.YtohebioanhliiaaGreatDoor.aF

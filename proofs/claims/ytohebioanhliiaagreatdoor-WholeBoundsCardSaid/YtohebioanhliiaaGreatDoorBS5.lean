/- Functions that come to an end, as their contracts say. -/
import Derived.Test.YtohebioanhliiaaGreatDoorBB1
import Derived.Test.YtohebioanhliiaaGreatDoorChecked
import Derived.KernelRfl
set_option maxRecDepth 100000
namespace Go.Proofs.YtohebioanhliiaaGreatDoor.aw
open Go.Sx
theorem aiY:one Tryz.prog 114 224=true:=by kernel_rfl
theorem afm:row Tryz.prog 224=true:=by kernel_rfl
theorem aiZ:one Tryz.prog 115 225=true:=by kernel_rfl
theorem afn:row Tryz.prog 225=true:=by kernel_rfl
theorem ai0:one Tryz.prog 116 177=true:=by kernel_rfl
theorem afo:row Tryz.prog 177=true:=by kernel_rfl
theorem ai1:one Tryz.prog 117 122=true:=by kernel_rfl
theorem afp:row Tryz.prog 122=true:=by kernel_rfl
theorem ai2:one Tryz.prog 118 123=true:=by kernel_rfl
theorem afq:row Tryz.prog 123=true:=by kernel_rfl
theorem ai3:one Tryz.prog 119 124=true:=by kernel_rfl
theorem afr:row Tryz.prog 124=true:=by kernel_rfl
theorem c74:one Tryz.prog 120 74=true:=by kernel_rfl
theorem e74:row Tryz.prog 74=true:=by kernel_rfl
theorem ai4:one Tryz.prog 121 152=true:=by kernel_rfl
theorem afs:row Tryz.prog 152=true:=by kernel_rfl
theorem ai5:one Tryz.prog 122 153=true:=by kernel_rfl
theorem aft:row Tryz.prog 153=true:=by kernel_rfl
theorem ai6:one Tryz.prog 123 154=true:=by kernel_rfl
theorem afu:row Tryz.prog 154=true:=by kernel_rfl
theorem ai8:one Tryz.prog 124 108=true:=by kernel_rfl
theorem afv:row Tryz.prog 108=true:=by kernel_rfl
theorem ZW:row Tryz.prog 18=true:=by kernel_rfl
theorem afw:row Tryz.prog 186=true:=by kernel_rfl
theorem afx:row Tryz.prog 132=true:=by kernel_rfl
theorem afy:row Tryz.prog 133=true:=by kernel_rfl
theorem e80:row Tryz.prog 80=true:=by kernel_rfl
theorem e57:row Tryz.prog 57=true:=by kernel_rfl
theorem e59:row Tryz.prog 59=true:=by kernel_rfl
theorem afz:row Tryz.prog 135=true:=by kernel_rfl
theorem afA:row Tryz.prog 136=true:=by kernel_rfl
theorem afB:row Tryz.prog 137=true:=by kernel_rfl
theorem e84:row Tryz.prog 84=true:=by kernel_rfl
end Go.Proofs.YtohebioanhliiaaGreatDoor.aw

/- What Do makes of a pipe, told a mode and vertices. -/
import Derived.Test.YtohebioanhliiaaGreatDoorBX2
set_option maxRecDepth 100000
namespace Go.Proofs.YtohebioanhliiaaGreatDoor.aw
open Go.Sx
theorem abU:Rn Tryz.prog (EV 1 true)=true:=by kernel_rfl
theorem Xo:Rn Tryz.prog (tG 1 true 0)=true:=by kernel_rfl
theorem abW:Rn Tryz.prog (EV 2 true)=true:=by kernel_rfl
theorem Xr:Rn Tryz.prog (tG 2 true 0)=true:=by kernel_rfl
theorem Xs:Rn Tryz.prog (tG 2 true 1)=true:=by kernel_rfl
theorem abY:Rn Tryz.prog (EV 3 true)=true:=by kernel_rfl
theorem Xw:Rn Tryz.prog (tG 3 true 0)=true:=by kernel_rfl
theorem Xx:Rn Tryz.prog (tG 3 true 1)=true:=by kernel_rfl
theorem Xy:Rn Tryz.prog (tG 3 true 2)=true:=by kernel_rfl
end Go.Proofs.YtohebioanhliiaaGreatDoor.aw

/- What Do makes of a pipe, told a mode and vertices. -/
import Derived.Test.YtohebioanhliiaaGreatDoorBX2
set_option maxRecDepth 100000
namespace Go.Proofs.YtohebioanhliiaaGreatDoor.aw
open Go.Sx
theorem abT:Rn Tryz.prog (EV 1 false)=true:=by kernel_rfl
theorem Xn:Rn Tryz.prog (tG 1 false 0)=true:=by kernel_rfl
theorem abV:Rn Tryz.prog (EV 2 false)=true:=by kernel_rfl
theorem Xp:Rn Tryz.prog (tG 2 false 0)=true:=by kernel_rfl
theorem Xq:Rn Tryz.prog (tG 2 false 1)=true:=by kernel_rfl
theorem abX:Rn Tryz.prog (EV 3 false)=true:=by kernel_rfl
theorem Xt:Rn Tryz.prog (tG 3 false 0)=true:=by kernel_rfl
theorem Xu:Rn Tryz.prog (tG 3 false 1)=true:=by kernel_rfl
theorem Xv:Rn Tryz.prog (tG 3 false 2)=true:=by kernel_rfl
end Go.Proofs.YtohebioanhliiaaGreatDoor.aw

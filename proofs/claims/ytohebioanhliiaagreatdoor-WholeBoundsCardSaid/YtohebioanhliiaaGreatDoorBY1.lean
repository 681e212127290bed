/- What Do makes of a pipe, told a few commands. -/
import Derived.Test.YtohebioanhliiaaGreatDoorBX2
set_option maxRecDepth 100000
namespace Go.Proofs.YtohebioanhliiaaGreatDoor.aw
open Go.Sx
theorem rn1:Rn Tryz.prog (W6)=true:=by kernel_rfl
theorem rn2:Rn Tryz.prog (W7)=true:=by kernel_rfl
theorem rn3:Rn Tryz.prog (W8)=true:=by kernel_rfl
theorem rn4:Rn Tryz.prog (W9)=true:=by kernel_rfl
theorem rn5:Rn Tryz.prog (Xa)=true:=by kernel_rfl
theorem rn6:Rn Tryz.prog (Xb)=true:=by kernel_rfl
theorem rn7:Rn Tryz.prog (Xc)=true:=by kernel_rfl
end Go.Proofs.YtohebioanhliiaaGreatDoor.aw

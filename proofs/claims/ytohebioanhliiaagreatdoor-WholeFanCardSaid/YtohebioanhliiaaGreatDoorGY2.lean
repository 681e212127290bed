/- What Do makes of a pipe, told the vertices of the fan. -/
import Derived.Test.YtohebioanhliiaaGreatDoorGX2
set_option maxRecDepth 100000
namespace Go.Proofs.YtohebioanhliiaaGreatDoor.av
open Go.Sx
theorem ajz:Ky PP (Gr true 0)=true:=by kernel_rfl
theorem ajA:Ky PP (Gr true 1)=true:=by kernel_rfl
theorem ajB:Ky PP (Gr true 2)=true:=by kernel_rfl
theorem ajC:Ky PP (Gr true 3)=true:=by kernel_rfl
theorem ajD:Ky PP (Gr true 4)=true:=by kernel_rfl
end Go.Proofs.YtohebioanhliiaaGreatDoor.av

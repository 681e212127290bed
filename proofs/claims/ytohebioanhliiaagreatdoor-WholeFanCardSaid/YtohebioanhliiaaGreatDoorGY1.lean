/- What Do makes of a pipe, told a mode and vertices. -/
import Derived.Test.YtohebioanhliiaaGreatDoorGX2
set_option maxRecDepth 100000
namespace Go.Proofs.YtohebioanhliiaaGreatDoor.av
open Go.Sx
theorem aeI:Ky PP (ad7)=true:=by kernel_rfl
theorem aeJ:Ky PP (ad8)=true:=by kernel_rfl
theorem aeK:Ky PP (ad9)=true:=by kernel_rfl
theorem aeL:Ky PP (ad')=true:=by kernel_rfl
theorem aju:Ky PP (abw false)=true:=by kernel_rfl
theorem ajv:Ky PP (abw true)=true:=by kernel_rfl
theorem ajw:Ky PP (Gr false 0)=true:=by kernel_rfl
theorem ajx:Ky PP (Gr false 1)=true:=by kernel_rfl
theorem ajy:Ky PP (Gr false 2)=true:=by kernel_rfl
end Go.Proofs.YtohebioanhliiaaGreatDoor.av

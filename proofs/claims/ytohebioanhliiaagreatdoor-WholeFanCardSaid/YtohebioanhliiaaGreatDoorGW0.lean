/- Functions that come to an end, as their contracts say. -/
import Derived.Test.YtohebioanhliiaaGreatDoorGB1
set_option maxRecDepth 100000
namespace Go.Proofs.YtohebioanhliiaaGreatDoor.av
open Go.Sx
abbrev uJ(P:Program)(i:Nat)(p:List Bool):Bool:=Om P (rowOf 24) (Kof kc (ord.take i)) (ir.key ⟨24,.stuck "",(rowOf 24).sub⟩) (an 24) (kc 24) 94 18 p
end Go.Proofs.YtohebioanhliiaaGreatDoor.av

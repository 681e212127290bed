/- Functions that come to an end, as their contracts say. -/
import Derived.Test.YtohebioanhliiaaGreatDoorFB1
set_option maxRecDepth 100000
namespace Go.Proofs.YtohebioanhliiaaGreatDoor.aN
open Go.Sx
abbrev ui(P:Program)(i:Nat)(p:List Bool):Bool:=M6 P (rowOf 24) (Vw kc (ord.take i)) (iU.key ⟨24,.stuck "",(rowOf 24).sub⟩) (an 24) (kc 24) 94 18 p
end Go.Proofs.YtohebioanhliiaaGreatDoor.aN

/- Functions that come to an end, as their contracts say. -/
import Derived.Test.YtohebioanhliiaaGreatDoorJB1
import Derived.Test.YtohebioanhliiaaGreatDoorJAK
import Derived.Test.YtohebioanhliiaaGreatDoorChecked
import Derived.KernelRfl
set_option maxRecDepth 100000
namespace Go.Proofs.YtohebioanhliiaaGreatDoor.aF
open Go.Sx
abbrev tm(P:Program)(i:Nat)(p:List Bool):Bool:=Mk P (rowOf 24) (UG kc (ord.take i)) (iG.key ⟨24,.stuck "",(rowOf 24).sub⟩) (an 24) (kc 24) 94 18 p
end Go.Proofs.YtohebioanhliiaaGreatDoor.aF

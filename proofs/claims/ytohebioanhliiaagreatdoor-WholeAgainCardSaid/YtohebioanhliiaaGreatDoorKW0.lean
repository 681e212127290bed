/- Functions that come to an end, as their contracts say. -/
import Derived.Test.YtohebioanhliiaaGreatDoorKB1
import Derived.Test.YtohebioanhliiaaGreatDoorKAK
import Derived.Test.YtohebioanhliiaaGreatDoorChecked
import Derived.KernelRfl
set_option maxRecDepth 100000
namespace Go.Proofs.YtohebioanhliiaaGreatDoor.aD
open Go.Sx
abbrev rl(P:Program)(i:Nat)(p:List Bool):Bool:=JF P (rowOf 24) (Ru kc (ord.take i)) (gR.key ⟨24,.stuck "",(rowOf 24).sub⟩) (an 24) (kc 24) 94 18 p
end Go.Proofs.YtohebioanhliiaaGreatDoor.aD

/- Functions that come to an end, as their contracts say. -/
import Derived.Test.YtohebioanhliiaaGreatDoorBB1
import Derived.Test.YtohebioanhliiaaGreatDoorBAK
import Derived.Test.YtohebioanhliiaaGreatDoorChecked
import Derived.KernelRfl
set_option maxRecDepth 100000
namespace Go.Proofs.YtohebioanhliiaaGreatDoor.aw
open Go.Sx
abbrev rP(P:Program)(i:Nat)(p:List Bool):Bool:=Ks P (rowOf 24) (ZU kc (ord.take i)) (gb.key ⟨24,.stuck "",(rowOf 24).sub⟩) (an 24) (kc 24) 94 18 p
end Go.Proofs.YtohebioanhliiaaGreatDoor.aw

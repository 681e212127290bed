/- Emit: what it gives. -/
import Derived.Test.YtohebioanhliiaaGreatDoorBE1
import Derived.Test.YtohebioanhliiaaGreatDoorBC2
set_option maxRecDepth 100000
set_option linter.unusedVariables false
set_option linter.unusedSimpArgs false
namespace Go.Proofs.YtohebioanhliiaaGreatDoor.aw
section
open Go.Sx
def cells(n:Nat)(r:List Int):List DV:=(List.range n).map fun j=>.i (r.getD j 0)
end
section
open Go.Sx Go
structure U0(X:bD):Prop where
 kd:∀k s ds rs,qp k=some s->cm (TT Tryz.prog) X k ds rs->kinds (bt s.res) rs=true
 no:∀ds,X 999999 ds=none
theorem no9:TT Tryz.prog 999999=none:=by kernel_rfl
theorem Oq{X:bD}(h:∀ds,X 999999 ds=none){ds rs:List DV}(hg:cm (TT Tryz.prog) X 999999 ds rs):False:=by
 obtain⟨n,hn⟩:=hg;cases n with
 |zero=>cases hn
 | succ n=>
   simp only[ev,no9,h]at hn;cases hn
end
end Go.Proofs.YtohebioanhliiaaGreatDoor.aw

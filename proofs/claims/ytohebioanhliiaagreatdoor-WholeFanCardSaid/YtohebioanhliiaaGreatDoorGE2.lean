/- Emit: what it gives. -/
import Derived.Test.YtohebioanhliiaaGreatDoorGE1
import Derived.Test.YtohebioanhliiaaGreatDoorGC2
set_option maxRecDepth 100000
set_option linter.unusedVariables false
set_option linter.unusedSimpArgs false
namespace Go.Proofs.YtohebioanhliiaaGreatDoor.av
section
open Go.Sx
theorem Kh{k:IntKind}{ks:List CT}{rs:List DV}(h:kinds (.c (.i k)::ks) rs=true):∃x gh,rs = .i x::gh/\kinds ks gh=true:=by
 match rs,h with
 |.i x::rs,h=>exact⟨x,rs,rfl,(Bool.and_eq_true_iff.1 h).2⟩
theorem aa2{rs:List DV}(h:kinds [] rs=true):rs=[]:=by
 match rs,h with
 | [],_=>rfl
def cells(n:Nat)(r:List Int):List DV:=(List.range n).map fun j=>.i (r.getD j 0)
end
section
open Go.Sx Go
structure Zn(X:bY):Prop where
 kd:∀k s ds rs,qX k=some s->eR (TT PP) X k ds rs->kinds (bL s.res) rs=true
 no:∀ds,X 999999 ds=none
theorem no9:TT PP 999999=none:=by kernel_rfl
theorem SD{X:bY}(h:∀ds,X 999999 ds=none){ds rs:List DV}(hg:eR (TT PP) X 999999 ds rs):False:=by
 obtain⟨n,hn⟩:=hg;cases n with
 |zero=>cases hn
 | succ n=>
   simp only[ev,no9,h]at hn;cases hn
end
end Go.Proofs.YtohebioanhliiaaGreatDoor.av

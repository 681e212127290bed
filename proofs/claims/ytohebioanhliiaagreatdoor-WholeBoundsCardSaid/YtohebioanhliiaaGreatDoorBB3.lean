/- All rows of the table are right. -/
import Derived.Test.YtohebioanhliiaaGreatDoorBB1
import Derived.Test.YtohebioanhliiaaGreatDoorBAK
import Derived.Test.YtohebioanhliiaaGreatDoorBW1
import Derived.Test.YtohebioanhliiaaGreatDoorBW2
import Derived.Test.YtohebioanhliiaaGreatDoorBW3
import Derived.Test.YtohebioanhliiaaGreatDoorBS1
import Derived.Test.YtohebioanhliiaaGreatDoorBS2
import Derived.Test.YtohebioanhliiaaGreatDoorBS3
import Derived.Test.YtohebioanhliiaaGreatDoorBS4
import Derived.Test.YtohebioanhliiaaGreatDoorBS5
import Derived.Test.YtohebioanhliiaaGreatDoorBS6
import Derived.Test.YtohebioanhliiaaGreatDoorBS7
import Derived.Test.YtohebioanhliiaaGreatDoorBD1
import Derived.Test.YtohebioanhliiaaGreatDoorBD2
import Derived.Test.YtohebioanhliiaaGreatDoorBD3
import Derived.Test.YtohebioanhliiaaGreatDoorBD4
import Derived.Test.YtohebioanhliiaaGreatDoorBF1
import Derived.Test.YtohebioanhliiaaGreatDoorBB2
import Derived.Test.YtohebioanhliiaaGreatDoorChecked
import Derived.KernelRfl
set_option maxRecDepth 100000
set_option linter.unusedVariables false
namespace Go.Proofs.YtohebioanhliiaaGreatDoor.aw
section
open Go.Sx
theorem d18:part Tryz.prog 159 18=true:=GN (fu y1 (fu (fu (fu (fu (fu TQ (fu OZ (fu (fu Ht Hu) (fu Hv Hw)))) Yz) adh) akc) y00)) yr
end
section
open Go.Sx Go
def SC(p:Nat->Prop):List Nat->Prop
 | []=>True
 |k::r=>p k/\SC p r
theorem SC.mem{p:Nat->Prop}:∀ {l:List Nat},SC p l->∀k∈l,p k:=by
 intro l;induction l with
 |nil=>intro _ k hk;cases hk
 | cons x l ih=>
   intro h k hk;rcases bh.1 hk with rfl|hk;exact h.1;exact ih h.2 k hk
def SD(P:Program)(k:Nat):Prop:=Kt P kd qp jZ xs k (rowOf k)=true/\(gC P (rowOf k)).lJ (bt (rowOf k).s.res)=true
theorem sp{P:Program}{k:Nat}(h:row P k=true):SD P k:=by
 unfold row at h;rwa[ah]at h
theorem SF:∀n,n<33->part Tryz.prog 159 n=true:=by
 intro n hn
 match n,hn with
 |0,_=>exact d0
 |1,_=>exact d1
 |2,_=>exact d2
 |3,_=>exact d3
 |4,_=>exact d4
 |5,_=>exact d5
 |6,_=>exact d6
 |7,_=>exact d7
 |8,_=>exact d8
 |9,_=>exact d9
 |10,_=>exact d10
 |11,_=>exact d11
 |12,_=>exact d12
 |13,_=>exact d13
 |14,_=>exact d14
 |15,_=>exact d15
 |16,_=>exact d16
 |17,_=>exact d17
 |18,_=>exact d18
 |19,_=>exact d19
 |20,_=>exact d20
 |21,_=>exact d21
 |22,_=>exact d22
 |23,_=>exact d23
 |24,_=>exact d24
 |25,_=>exact d25
 |26,_=>exact d26
 |27,_=>exact d27
 |28,_=>exact d28
 |29,_=>exact d29
 |30,_=>exact d30
 |31,_=>exact d31
 |32,_=>exact d32
 |n+33,h=>exact absurd h (by omega)
theorem Nq:SD Tryz.prog 24:=⟨e24,GK (x:=94) (m:=33) Tryz.func24 rfl (by kernel_rfl) (by kernel_rfl) SF d33⟩
def C4:List Nat:=[9,56,37,23,41,65,42,28,100,66,43,29,47,44,46,30,101,67,174,195,149,102,151,150,104150,103,107,106,104106,105,69,109,155,139,196,240,197,156,110,157,267,241,242,198,199,158,111,71,159,200,201,202,160,161,246,245,205245,163,204,244,203,112,164,165,210,211,247,250,251,284,268,207,208,166,168,170,213,171,172,113,72,114,115,117,173,73,118,119,214,215,216,175,121,120,220,176,269,252,270,271,253,221,222,272,273,254,223,224,225,177,122,123,124,74,152,153,154,108,18,186,132,133,80,57,59,135,136,137,84,86,88,187,143,141,90,91,144,188,145,92,93,94,134,193,232,233,235,264,236,265,237,262,24,12,55,11,21,13,14,25,15,26,16,99,64,40,27,17,34,20,19,10,3,4,5,6,7,8]
theorem Nr:(jZ.all fun p=>C4.any (Nat.beq p.1))=true:=by kernel_rfl
theorem Ns:SC (SD Tryz.prog) C4:=⟨sp e9,sp e56,sp e37,sp e23,sp e41,sp e65,sp e42,sp e28,sp ad2,sp e66,sp e43,sp e29,sp e47,sp e44,sp e46,sp e30,sp ad3,sp e67,sp ad4,sp ad5,sp ad6,sp ad7,sp ad8,sp ad9,sp SG,sp ad',sp aea,sp aeb,sp SH,sp aec,sp e69,sp aed,sp aee,sp aef,sp aeg,sp aeh,sp aei,sp aej,sp aek,sp ael,sp aem,sp aen,sp aeo,sp aep,sp aeq,sp aer,sp aes,sp e71,sp aet,sp aeu,sp aev,sp aew,sp aex,sp aey,sp aez,sp aeA,sp SJ,sp aeB,sp aeC,sp aeD,sp aeE,sp aeF,sp aeG,sp aeH,sp aeI,sp aeJ,sp aeK,sp aeL,sp aeM,sp aeN,sp aeO,sp aeP,sp aeQ,sp aeR,sp aeS,sp aeT,sp aeU,sp aeV,sp aeW,sp aeX,sp e72,sp aeY,sp aeZ,sp ae0,sp ae1,sp e73,sp ae2,sp ae3,sp ae4,sp ae5,sp ae6,sp ae7,sp ae8,sp ae9,sp ae',sp afa,sp afb,sp afc,sp afd,sp afe,sp aff,sp afg,sp afh,sp afi,sp afj,sp afk,sp afl,sp afm,sp afn,sp afo,sp afp,sp afq,sp afr,sp e74,sp afs,sp aft,sp afu,sp afv,sp ZW,sp afw,sp afx,sp afy,sp e80,sp e57,sp e59,sp afz,sp afA,sp afB,sp e84,sp e86,sp e88,sp afC,sp afD,sp afE,sp e90,sp e91,sp afF,sp afG,sp afH,sp e92,sp e93,sp e94,sp afI,sp afJ,sp afK,sp afL,sp afM,sp afN,sp afO,sp afP,sp afQ,sp afR,Nq,sp e12,sp e55,sp e11,sp e21,sp e13,sp e14,sp e25,sp e15,sp e26,sp e16,sp e99,sp e64,sp e40,sp e27,sp e17,sp e34,sp e20,sp e19,sp e10,sp e3,sp e4,sp e5,sp e6,sp e7,sp e8,trivial⟩
theorem Iq:fv:=fun k r h=>by
 have hm:k∈C4:=by
   have h1:=k7.1 Nr _ (Bz h);obtain⟨j,h2,h3⟩:=kI.1 h1;rw[show k=j from vz h3];exact h2
 have:=Ns.mem k hm;have e:rowOf k=r:=by unfold rowOf;rw[h];rfl
 unfold SD at this;rwa[e]at this
end
end Go.Proofs.YtohebioanhliiaaGreatDoor.aw

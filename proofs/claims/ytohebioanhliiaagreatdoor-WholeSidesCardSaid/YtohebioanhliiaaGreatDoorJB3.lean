/- All rows of the table are right. -/
import Derived.Test.YtohebioanhliiaaGreatDoorJB1
import Derived.Test.YtohebioanhliiaaGreatDoorJAK
import Derived.Test.YtohebioanhliiaaGreatDoorJW1
import Derived.Test.YtohebioanhliiaaGreatDoorJW2
import Derived.Test.YtohebioanhliiaaGreatDoorJW3
import Derived.Test.YtohebioanhliiaaGreatDoorJS1
import Derived.Test.YtohebioanhliiaaGreatDoorJS2
import Derived.Test.YtohebioanhliiaaGreatDoorJS3
import Derived.Test.YtohebioanhliiaaGreatDoorJS4
import Derived.Test.YtohebioanhliiaaGreatDoorJS5
import Derived.Test.YtohebioanhliiaaGreatDoorJS6
import Derived.Test.YtohebioanhliiaaGreatDoorJS7
import Derived.Test.YtohebioanhliiaaGreatDoorJD1
import Derived.Test.YtohebioanhliiaaGreatDoorJD2
import Derived.Test.YtohebioanhliiaaGreatDoorJD3
import Derived.Test.YtohebioanhliiaaGreatDoorJD4
import Derived.Test.YtohebioanhliiaaGreatDoorJF1
import Derived.Test.YtohebioanhliiaaGreatDoorJB2
import Derived.Test.YtohebioanhliiaaGreatDoorChecked
import Derived.KernelRfl
set_option maxRecDepth 100000
set_option linter.unusedVariables false
namespace Go.Proofs.YtohebioanhliiaaGreatDoor.aF
section
open Go.Sx
theorem d18:part Tryz.prog 159 18=true:=Il (gm y1 (gm (gm (gm (gm (gm Wc (gm QW (gm (gm I1 I2) (gm I3 I4)))) aaH) afq) anf) y00)) yr
end
section
open Go.Sx Go
def UR(p:Nat->Prop):List Nat->Prop
 | []=>True
 |k::r=>p k/\UR p r
theorem UR.mem{p:Nat->Prop}:∀ {l:List Nat},UR p l->∀k∈l,p k:=by
 intro l;induction l with
 |nil=>intro _ k hk;cases hk
 | cons x l ih=>
   intro h k hk;rcases bD.1 hk with rfl|hk;exact h.1;exact ih h.2 k hk
def US(P:Program)(k:Nat):Prop:=Ml P kd kI kH xs k (rowOf k)=true/\(gO P (rowOf k)).na (bI (rowOf k).s.res)=true
theorem sp{P:Program}{k:Nat}(h:row P k=true):US P k:=by
 unfold row at h;rwa[ao]at h
theorem J0:∀n,n<33->part Tryz.prog 159 n=true:=by
 intro n hn
 match n,hn with
 |0,_=>exact d0
 |1,_=>exact d1
 |2,_=>exact d2
 |3,_=>exact d3
 |4,_=>exact d4
 |5,_=>exact d5
 |6,_=>exact d6
 |7,_=>exact d7
 |8,_=>exact d8
 |9,_=>exact d9
 |10,_=>exact d10
 |11,_=>exact d11
 |12,_=>exact d12
 |13,_=>exact d13
 |14,_=>exact d14
 |15,_=>exact d15
 |16,_=>exact d16
 |17,_=>exact d17
 |18,_=>exact d18
 |19,_=>exact d19
 |20,_=>exact d20
 |21,_=>exact d21
 |22,_=>exact d22
 |23,_=>exact d23
 |24,_=>exact d24
 |25,_=>exact d25
 |26,_=>exact d26
 |27,_=>exact d27
 |28,_=>exact d28
 |29,_=>exact d29
 |30,_=>exact d30
 |31,_=>exact d31
 |32,_=>exact d32
 |n+33,h=>exact absurd h (by omega)
theorem Pz:US Tryz.prog 24:=⟨e24,Ij (x:=94) (m:=33) Tryz.func24 rfl (by kernel_rfl) (by kernel_rfl) J0 d33⟩
def EG:List Nat:=[9,56,37,23,41,65,42,28,100,66,43,29,47,44,46,30,101,67,174,195,149,102,151,150,104150,103,107,106,104106,105,69,109,155,139,196,240,197,156,110,157,267,241,242,198,199,158,111,71,159,200,201,202,160,161,246,245,205245,163,204,244,203,112,164,165,210,211,247,250,251,284,268,207,208,166,168,170,213,171,172,113,72,114,115,117,173,73,118,119,214,215,216,175,121,120,220,176,269,252,270,271,253,221,222,272,273,254,223,224,225,177,122,123,124,74,152,153,154,108,18,186,132,133,80,57,59,135,136,137,84,86,88,187,143,141,90,91,144,188,145,92,93,94,134,193,232,233,235,264,236,265,237,262,24,12,55,11,21,13,14,25,15,26,16,99,64,40,27,17,34,20,19,10,3,4,5,6,7,8]
theorem PA:(kH.all fun p=>EG.any (Nat.beq p.1))=true:=by kernel_rfl
theorem PB:UR (US Tryz.prog) EG:=⟨sp e9,sp e56,sp e37,sp e23,sp e41,sp e65,sp e42,sp e28,sp agv,sp e66,sp e43,sp e29,sp e47,sp e44,sp e46,sp e30,sp agw,sp e67,sp agx,sp agy,sp agz,sp agA,sp agB,sp agC,sp UT,sp agD,sp agE,sp agF,sp UU,sp agG,sp e69,sp agH,sp agI,sp agJ,sp agK,sp agL,sp agM,sp agN,sp agO,sp agP,sp agQ,sp agR,sp agS,sp agT,sp agU,sp agV,sp agW,sp e71,sp agX,sp agY,sp agZ,sp ag0,sp ag1,sp ag2,sp ag3,sp ag4,sp UW,sp ag5,sp ag6,sp ag7,sp ag8,sp ag9,sp ag',sp aha,sp ahb,sp ahc,sp ahd,sp ahe,sp ahf,sp ahg,sp ahh,sp ahi,sp ahj,sp ahk,sp ahl,sp ahm,sp ahn,sp aho,sp ahp,sp ahq,sp e72,sp ahr,sp ahs,sp aht,sp ahu,sp e73,sp ahv,sp ahw,sp ahx,sp ahy,sp ahz,sp ahA,sp ahB,sp ahC,sp ahD,sp ahE,sp ahF,sp ahG,sp ahH,sp ahI,sp ahJ,sp ahK,sp ahL,sp ahM,sp ahN,sp ahO,sp ahP,sp ahQ,sp ahR,sp ahS,sp ahT,sp ahU,sp ahV,sp e74,sp ahW,sp ahX,sp ahY,sp ahZ,sp e18,sp ah0,sp ah1,sp ah2,sp e80,sp e57,sp e59,sp ah3,sp ah4,sp ah5,sp e84,sp e86,sp e88,sp ah6,sp ah7,sp ah8,sp e90,sp e91,sp ah9,sp ah',sp aia,sp e92,sp e93,sp e94,sp aib,sp aic,sp aid,sp aie,sp aif,sp aih,sp aii,sp aij,sp aik,sp ail,Pz,sp e12,sp e55,sp e11,sp e21,sp e13,sp e14,sp e25,sp e15,sp e26,sp e16,sp e99,sp e64,sp e40,sp e27,sp e17,sp e34,sp e20,sp e19,sp e10,sp e3,sp e4,sp e5,sp e6,sp e7,sp e8,trivial⟩
theorem J1:gp:=fun k r h=>by
 have hm:k∈EG:=by
   have h1:=jE.1 PA _ (C1 h);obtain⟨j,h2,h3⟩:=lT.1 h1;rw[show k=j from DR h3];exact h2
 have:=PB.mem k hm;have e:rowOf k=r:=by unfold rowOf;rw[h];rfl
 unfold US at this;rwa[e]at this
theorem acA:one Tryz.prog 159 24=true:=by
 have h:TT Tryz.prog 24=some ⟨24,gO Tryz.prog (rowOf 24),(rowOf 24).sub⟩:=rfl;unfold one Pg;rw[show lZ Tryz.prog kH 24=some ⟨24,gO Tryz.prog (rowOf 24),(rowOf 24).sub⟩from rfl];simp only[ao];exact⟨by kernel_rfl,Mh (x:=94) (m:=33) Tryz.func24 rfl (by kernel_rfl) (by kernel_rfl) J0 d33⟩
end
end Go.Proofs.YtohebioanhliiaaGreatDoor.aF

/- All rows of the table are right. -/
import Derived.Test.YtohebioanhliiaaGreatDoorGW1
import Derived.Test.YtohebioanhliiaaGreatDoorGW2
import Derived.Test.YtohebioanhliiaaGreatDoorGW3
import Derived.Test.YtohebioanhliiaaGreatDoorGS1
import Derived.Test.YtohebioanhliiaaGreatDoorGS2
import Derived.Test.YtohebioanhliiaaGreatDoorGS3
import Derived.Test.YtohebioanhliiaaGreatDoorGS4
import Derived.Test.YtohebioanhliiaaGreatDoorGS5
import Derived.Test.YtohebioanhliiaaGreatDoorGS6
import Derived.Test.YtohebioanhliiaaGreatDoorGS7
import Derived.Test.YtohebioanhliiaaGreatDoorGD1
import Derived.Test.YtohebioanhliiaaGreatDoorGD2
import Derived.Test.YtohebioanhliiaaGreatDoorGD3
import Derived.Test.YtohebioanhliiaaGreatDoorGD4
import Derived.Test.YtohebioanhliiaaGreatDoorGF1
import Derived.Test.YtohebioanhliiaaGreatDoorGB2
set_option maxRecDepth 100000
set_option linter.unusedVariables false
namespace Go.Proofs.YtohebioanhliiaaGreatDoor.av
section
open Go.Sx
theorem d18:part PP 159 18=true:=J' (gE y1 (gE (gE (gE (gE (gE Yi (gE Th (gE (gE KV KW) (gE KX KY)))) acf) af7) amL) y00)) yr
end
section
open Go.Sx Go
def WN(p:Nat->Prop):List Nat->Prop
 | []=>True
 |k::r=>p k/\WN p r
theorem WN.mem{p:Nat->Prop}:∀ {l:List Nat},WN p l->∀k∈l,p k:=by
 intro l;induction l with
 |nil=>intro _ k hk;cases hk
 | cons x l ih=>
   intro h k hk;rcases bF.1 hk with rfl|hk;exact h.1;exact ih h.2 k hk
def WO(P:Program)(k:Nat):Prop:=On P kd qX lG xs k (rowOf k)=true/\(gV P (rowOf k)).nB (bL (rowOf k).s.res)=true
theorem sp{P:Program}{k:Nat}(h:row P k=true):WO P k:=by
 unfold row at h;rwa[ao]at h
theorem WR:∀n,n<33->part PP 159 n=true:=by
 intro n hn
 match n,hn with
 |0,_=>exact d0
 |1,_=>exact d1
 |2,_=>exact d2
 |3,_=>exact d3
 |4,_=>exact d4
 |5,_=>exact d5
 |6,_=>exact d6
 |7,_=>exact d7
 |8,_=>exact d8
 |9,_=>exact d9
 |10,_=>exact d10
 |11,_=>exact d11
 |12,_=>exact d12
 |13,_=>exact d13
 |14,_=>exact d14
 |15,_=>exact d15
 |16,_=>exact d16
 |17,_=>exact d17
 |18,_=>exact d18
 |19,_=>exact d19
 |20,_=>exact d20
 |21,_=>exact d21
 |22,_=>exact d22
 |23,_=>exact d23
 |24,_=>exact d24
 |25,_=>exact d25
 |26,_=>exact d26
 |27,_=>exact d27
 |28,_=>exact d28
 |29,_=>exact d29
 |30,_=>exact d30
 |31,_=>exact d31
 |32,_=>exact d32
 |n+33,h=>exact absurd h (by omega)
theorem r24:WO PP 24:=⟨e24,J8 (x:=94) (m:=33) Tryz.func24 rfl (by kernel_rfl) (by kernel_rfl) WR d33⟩
def F4:List Nat:=[9,56,37,23,41,65,42,28,100,66,43,29,47,44,46,30,101,67,174,195,149,102,151,150,104150,103,107,106,104106,105,69,109,155,139,196,240,197,156,110,157,267,241,242,198,199,158,111,71,159,200,201,202,160,161,246,245,205245,163,204,244,203,112,164,165,210,211,247,250,251,284,268,207,208,166,168,170,213,171,172,113,72,114,115,117,173,73,118,119,214,215,216,175,121,120,220,176,269,252,270,271,253,221,222,272,273,254,223,224,225,177,122,123,124,74,152,153,154,108,18,186,132,133,80,57,59,135,136,137,84,86,88,187,143,141,90,91,144,188,145,92,93,94,134,193,232,233,235,264,236,265,237,262,24,12,55,11,21,13,14,25,15,26,16,99,64,40,27,17,34,20,19,10,3,4,5,6,7,8]
theorem Rl:(lG.all fun p=>F4.any (Nat.beq p.1))=true:=by kernel_rfl
theorem Rm:WN (WO PP) F4:=⟨sp e9,sp e56,sp e37,sp e23,sp e41,sp e65,sp e42,sp e28,sp agS,sp e66,sp e43,sp e29,sp e47,sp e44,sp e46,sp e30,sp agT,sp e67,sp agU,sp agV,sp agW,sp agX,sp agY,sp agZ,sp WS,sp ag0,sp ag1,sp ag2,sp WT,sp ag3,sp e69,sp ag4,sp ag5,sp ag6,sp ag7,sp ag8,sp ag9,sp ag',sp aha,sp ahb,sp ahc,sp ahd,sp ahe,sp ahf,sp ahg,sp ahh,sp ahi,sp e71,sp ahj,sp ahk,sp ahl,sp ahm,sp ahn,sp aho,sp ahp,sp ahq,sp WU,sp ahr,sp ahs,sp aht,sp ahu,sp ahv,sp ahw,sp ahx,sp ahy,sp ahz,sp ahA,sp ahB,sp ahC,sp ahD,sp ahE,sp ahF,sp ahG,sp ahH,sp ahI,sp ahJ,sp ahK,sp ahL,sp ahM,sp ahN,sp e72,sp ahO,sp ahP,sp ahQ,sp ahR,sp e73,sp ahS,sp ahT,sp ahU,sp ahV,sp ahW,sp ahX,sp aaG,sp ahY,sp ahZ,sp ah0,sp ah1,sp ah2,sp ah3,sp ah4,sp ah5,sp ah6,sp ah7,sp ah8,sp ah9,sp ah',sp aia,sp aib,sp aic,sp aaH,sp aid,sp aie,sp aif,sp e74,sp aih,sp aii,sp aij,sp aik,sp e18,sp ail,sp aim,sp ain,sp e80,sp e57,sp e59,sp aio,sp aip,sp aiq,sp e84,sp e86,sp e88,sp air,sp ais,sp ait,sp e90,sp e91,sp aiu,sp aiv,sp aiw,sp e92,sp e93,sp e94,sp aix,sp aiy,sp aiz,sp aiA,sp aiB,sp aiC,sp aiD,sp aiE,sp aiF,sp aiG,r24,sp ry,sp e55,sp CY,sp e21,sp vP,sp Ot,sp e25,sp Ou,sp e26,sp L3,sp e99,sp e64,sp e40,sp e27,sp e17,sp e34,sp e20,sp e19,sp uu,sp e3,sp e4,sp e5,sp e6,sp e7,sp e8,trivial⟩
theorem L4:gF:=fun k r h=>by
 have hm:k∈F4:=by
   have h1:=kG.1 Rl _ (Er h);obtain⟨j,h2,h3⟩:=mr.1 h1;rw[show k=j from mq h3];exact h2
 have:=Rm.mem k hm;have e:rowOf k=r:=by unfold rowOf;rw[h];rfl
 unfold WO at this;rwa[e]at this
end
end Go.Proofs.YtohebioanhliiaaGreatDoor.av

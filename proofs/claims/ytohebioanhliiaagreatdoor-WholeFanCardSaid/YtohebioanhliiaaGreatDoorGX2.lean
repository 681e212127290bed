/- Pipes behind a few commands some of whose numbers are not known. -/
import Derived.Test.YtohebioanhliiaaGreatDoorGX1
import Derived.Test.YtohebioanhliiaaGreatDoorGB2
set_option maxRecDepth 100000
set_option linter.unusedVariables false
namespace Go.Proofs.YtohebioanhliiaaGreatDoor.av
open Go.Sx Go
def un(k:Nat)(c m:Int):SI:=.s c (List.replicate k 0++[m])
def kz(n:Nat):List YV:=List.replicate n (.i (.k 0))
def H7(w h:Int)(port:List YV)(c:Int)(op:Bool)(mode:Int)(vs:List (List SI))(wd:SI)(soft:Bool)(sz kd:SI)(mix:Bool)(m:Int):List YV:=
 let un1:YV:=.l [(List.range 16).map fun i=>.k (if Nat.beq (i%5) 0 then 65536 else 0)]
 let px (n:Int):YV:=.l (List.replicate (w*h).toNat [.k n])
 [.i (.k 0),.i (.k w),.i (.k h),px 0,px 16777215]++kz 4++[.i (.k 16777215)]++port++[.i (.k 0),un1,un1]++(List.replicate 6 (.i (.k 3)::kz 4)).flatten++List.replicate 6 (.b false)
   ++ List.replicate 4 (.i (.k c))++[.b true,.b op,.i (.k mode),.l vs,.l (vs.map fun _=>[.k 1]),.i wd,.b soft,.b false,.i (.k 65535),.i (.k 1),.i (.k 0),.i sz,.i kd]++kz 2++[.b true,.i (.k 0),.b false]++kz 2++List.replicate 3 (.b false)
   ++ kz 4++[.b false,.i (.k 1),.b true,.b mix,.i (.k 1),.i (.k m)]++List.replicate 4 (.b true)
def H8(op:Int)(a:List SI):List YV:=[.i (.k op),.l (a.map fun x=>[x])]
def Rr:List YV:=[.i (.k (-128)),.i (.k (-128)),.i (.k 256),.i (.k 256)]
def Rs(op:Bool)(mode:Int)(vs:List (List SI))(wd:SI)(soft:Bool)(sz kd:SI):List YV:=H7 9 8 Rr 1 op mode vs wd soft sz kd true 1
def ad6(p:SI×SI):List SI:=[p.1,p.2,.k 0,.k 32768,.k 1,.k 1,.k 1,.k 1]
def pt(i:Nat):SI×SI:=(un (2*i) 0 1,un (2*i+1) 0 1)
abbrev Kd(a:List YV)(op:Int)(xs:List SI)(b:List YV):oM:=(24,a++H8 op xs,b)
def sp0:List YV:=H7 0 0 (kz 4) 255 false 0 [] (.k 1) false (.k 1) (.k 0) false 0
def sp1:List YV:=H7 9 8 [.i (.k 0),.i (.k 0),.i (.k 9),.i (.k 8)] 255 false 0 [] (.k 1) false (.k 1) (.k 0) false 0
def sp2:List YV:=H7 9 8 Rr 255 false 0 [] (.k 1) false (.k 1) (.k 0) false 0
def sp3:List YV:=H7 9 8 Rr 255 false 0 [] (.k 1) false (.k 1) (.k 0) true 1
def sp4:List YV:=Rs false 0 [] (.k 1) false (.k 1) (.k 0)
def ad7:oM:=Kd sp0 1 [.k 9,.k 8] sp1
def ad8:oM:=Kd sp1 5 [.k (-128),.k (-128),.k 256,.k 256] sp2
def ad9:oM:=Kd sp2 27 [.k 1,.k 1,.k 1] sp3
def ad':oM:=Kd sp3 14 [.k 1,.k 1,.k 1,.k 1] sp4
def bxF:OL:=List.replicate 8 (-1048576,1048576)++List.replicate 5 (0,72)
def cxD:Cx:=⟨bxF,[],[],[]⟩
def Iw:Cx:=⟨bxF,[],[un 8 0 1,un 9 0 1,un 10 0 1,un 11 0 1,un 12 0 1],[(1,2,0),(0,3,4)]⟩
def Gq(b:Bool):List Nat:=match b with
 |true=>[3,0,1,2,0]
 |false=>[0,1,2]
def OM(b:Bool):Int:=match b with
 |true=>6
 |false=>4
def oZ(b:Bool)(i:Nat):List YV:=Rs true (OM b) (((Gq b).take i).map fun j=>ad6 (pt j)) (.k 1) false (.k 1) (.k 0)
def abw(b:Bool):oM:=Kd sp4 16 [.k (OM b)] (oZ b 0)
def Gr(b:Bool)(i:Nat):oM:=Kd (oZ b i) 17 [(pt ((Gq b).getD i 0)).1,(pt ((Gq b).getD i 0)).2,.k 0,.k 32768] (oZ b (i+1))
def Ky(P:Program)(x:oM):Bool:=jD (TT P) cxD [] 2000 40 x.1 x.2.1 x.2.2
def R4(p:SI×SI):List SI:=[p.1,p.2,.k 8388607,.k 1,.k 1,.k 1,.k 1]
def aeH:List YV:=[.i (.k 0),.i (.k 0),.i (.k 9),.i (.k 8)]
def abx:List YV:=[.i (.k 1),.b false,.b false,.i (.k 65535),.i (.k 1),.i (.k 0),.i (.k 1),.i (.k 0)]++kz 2++[.b true,.i (.k 0),.b false]++kz 2
def oP(a b c o:Nat):oM:=(74,[YV.l ([a,b,c].map fun i=>R4 (pt i)),YV.l [[.k 1],[.k 1],[.k 1]]]++abx++aeH,[.o o])
def R5(a b c o:Nat):oM:=(177,((R4 (pt a)).map YV.i++(R4 (pt b)).map YV.i++(R4 (pt c)).map YV.i)++[.i (.k 0)]++aeH,[.o o])
def frR(c:Bool):oM:=(121,[.l ([0,1,2].map fun i=>R4 (pt i)),.b true],[.b c])
def fcB(P:Program)(c:Bool):Bool:=jD (TT P) Iw [R5 0 1 2 0,frR c] 2000 40 74 (oP 0 1 2 0).2.1 [.o 0]
def emF(P:Program)(b:Bool):Bool:=match b with
 |true=>jD (TT P) Iw [oP 3 0 1 1,oP 3 1 2 2,oP 3 2 0 3] 2000 40 18 (oZ true 5) [.o 4,.b true]
 |false=>jD (TT P) Iw [oP 0 1 2 0] 2000 40 18 (oZ false 3) [.o 0,.b true]
def uD:List YV:=(Rs false 0 [] (.k 1) false (.k 1) (.k 0)).set 3 (.o 0)
def aby(b:Bool):oM:=Kd (oZ b (Gq b).length) 18 [] uD
def abz(b:Bool):List oM:=[ad7,ad8,ad9,ad',abw b]++(List.range (Gq b).length).map (Gr b)++[aby b]
def Gs:List (List SI):=[[.k 1,.k 2,.k 9,.k 8],[.k 5,.k 4,.k (-128),.k (-128),.k 256,.k 256],[.k 27,.k 3,.k 1,.k 1,.k 1],[.k 14,.k 4,.k 1,.k 1,.k 1,.k 1]]
def abA(b:Bool):List (List SI):=(Gq b).map fun j=>[(pt j).1,(pt j).2]
def DI(b:Bool):List (List SI):=[[.k 16,.k 1,.k (OM b)]]++((Gq b).map fun j=>[.k 17,.k 4,(pt j).1,(pt j).2,.k 0,.k 32768])++[[.k 18,.k 0]]
def plB(P:Program):Bool:=jD (TT P) cxD [] 2000 40 13 [.i (.k 9),.i (.k 8)] [.l Gs]
def shB(P:Program)(b:Bool):Bool:=jD (TT P) cxD [] 2000 40 14 [.i (.k (OM b)),.l (abA b)] [.l (DI b)]
def ruB(P:Program)(b:Bool):Bool:=jD (TT P) cxD (abz b) 2000 40 12 [.l (Gs++DI b)] uD
end Go.Proofs.YtohebioanhliiaaGreatDoor.av

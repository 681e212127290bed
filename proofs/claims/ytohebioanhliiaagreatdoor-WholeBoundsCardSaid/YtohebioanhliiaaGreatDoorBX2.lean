/- Pipes behind a few commands some of whose numbers are not known. -/
import Derived.Test.YtohebioanhliiaaGreatDoorBX1
import Derived.Test.YtohebioanhliiaaGreatDoorBB2
import Derived.Test.YtohebioanhliiaaGreatDoorChecked
import Derived.KernelRfl
set_option maxRecDepth 100000
set_option linter.unusedVariables false
namespace Go.Proofs.YtohebioanhliiaaGreatDoor.aw
open Go.Sx Go
def un(k:Nat)(c m:Int):SI:=.s c (List.replicate k 0++[m])
def kz(n:Nat):List YV:=List.replicate n (.i (.k 0))
def EU(w h:Int)(port:List YV)(c:Int)(op:Bool)(mode:Int)(vs:List (List SI))(wd:SI)(soft:Bool)(sz kd:SI)(mix:Bool)(m:Int):List YV:=
 let un1:YV:=.l [(List.range 16).map fun i=>.k (if Nat.beq (i%5) 0 then 65536 else 0)]
 let px (n:Int):YV:=.l (List.replicate (w*h).toNat [.k n])
 [.i (.k 0),.i (.k w),.i (.k h),px 0,px 16777215]++kz 4++[.i (.k 16777215)]++port++[.i (.k 0),un1,un1]++(List.replicate 6 (.i (.k 3)::kz 4)).flatten++List.replicate 6 (.b false)
   ++ List.replicate 4 (.i (.k c))++[.b true,.b op,.i (.k mode),.l vs,.l (vs.map fun _=>[.k 1]),.i wd,.b soft,.b false,.i (.k 65535),.i (.k 1),.i (.k 0),.i sz,.i kd]++kz 2++[.b true,.i (.k 0),.b false]++kz 2++List.replicate 3 (.b false)
   ++ kz 4++[.b false,.i (.k 1),.b true,.b mix,.i (.k 1),.i (.k m)]++List.replicate 4 (.b true)
def agN(op:Int)(a:List SI):List YV:=[.i (.k op),.l (a.map fun x=>[x])]
def NC:List YV:=[.i (.k (-128)),.i (.k (-128)),.i (.k 256),.i (.k 256)]
def Is(op:Bool)(mode:Int)(vs:List (List SI))(wd:SI)(soft:Bool)(sz kd:SI):List YV:=EU 9 8 NC 1 op mode vs wd soft sz kd true 1
def abG(p:SI×SI):List SI:=[p.1,p.2,.k 0,.k 32768,.k 1,.k 1,.k 1,.k 1]
def ND:C7:=List.replicate 6 (-1048576,1048576)++[(0,3),(0,63),(0,3),(0,63),(0,85),(0,2),(0,5000),(0,512000000000),(0,100000)]
def dc:Cx:=⟨ND,[],[]⟩
def SX:SI:=un 7 1 1
def UF:SI:=un 9 1 1
def ZZ:SI:=un 11 0 1
def pt(i:Nat):SI×SI:=(un (2*i) 0 1,un (2*i+1) 0 1)
def ptN(n:Nat):List (SI×SI):=(List.range n).map pt
abbrev C8(a:List YV)(op:Int)(xs:List SI)(b:List YV):kx:=(24,a++agN op xs,b)
def Rn(P:Program)(x:kx):Bool:=ir (TT P) dc [] 2000 40 x.1 x.2.1 x.2.2
def sp0:List YV:=EU 0 0 (kz 4) 255 false 0 [] (.k 1) false (.k 1) (.k 0) false 0
def sp1:List YV:=EU 9 8 [.i (.k 0),.i (.k 0),.i (.k 9),.i (.k 8)] 255 false 0 [] (.k 1) false (.k 1) (.k 0) false 0
def sp2:List YV:=EU 9 8 NC 255 false 0 [] (.k 1) false (.k 1) (.k 0) false 0
def sp3:List YV:=EU 9 8 NC 255 false 0 [] (.k 1) false (.k 1) (.k 0) true 1
def sp4:List YV:=Is false 0 [] (.k 1) false (.k 1) (.k 0)
def sp5:List YV:=Is false 0 [] SX false (.k 1) (.k 0)
def sp6(b:Bool):List YV:=Is false 0 [] SX b UF ZZ
def NF(n:Nat):Int:=match n with
 |1=>0
 |2=>1
 |_=>4
def SY(n:Nat)(b:Bool)(i:Nat):List YV:=Is true (NF n) ((ptN i).map abG) SX b UF ZZ
def W6:kx:=C8 sp0 1 [.k 9,.k 8] sp1
def W7:kx:=C8 sp1 5 [.k (-128),.k (-128),.k 256,.k 256] sp2
def W8:kx:=C8 sp2 27 [.k 1,.k 1,.k 1] sp3
def W9:kx:=C8 sp3 14 [.k 1,.k 1,.k 1,.k 1] sp4
def Xa:kx:=C8 sp4 19 [SX] sp5
def Xb:kx:=C8 sp5 21 [UF,ZZ] (sp6 false)
def Xc:kx:=C8 (sp6 false) 22 [.k 1] (sp6 true)
def EV(n:Nat)(b:Bool):kx:=C8 (sp6 b) 16 [.k (NF n)] (SY n b 0)
def tG(n:Nat)(b:Bool)(i:Nat):kx:=C8 (SY n b i) 17 [(pt i).1,(pt i).2,.k 0,.k 32768] (SY n b (i+1))
def zx(p:SI×SI):List YV:=([p.1,p.2,.k 8388607,.k 1,.k 1,.k 1,.k 1]:List SI).map YV.i
def zy:List YV:=[.i (.k 0),.i (.k 0),.i (.k 9),.i (.k 8)]
def lenOf(n:Nat)(b:Bool):SI:=match n,b with
 |1,_=>(un 12 0 1).sub (un 13 0 1)
 |2,false=>(un 7 9 9).sub (un 13 0 1)
 |_,_=>(SI.k 72).sub (un 13 0 1)
def sO(n:Nat)(b:Bool):Cx:=⟨ND,[(0,un 9 3 1,un 9 3 1,un 12 0 1),(0,un 7 72 4,un 7 3 1,(un 7 9 9).add (un 14 207 1))],[lenOf n b]⟩
def NM:List YV:=[.i (.k 65535),.i (.k 1),.i (.k 0)]
def fb(n:Nat)(b:Bool):kx:=match n,b with
 |1,_=>(69,zx (pt 0)++[.i UF,.i ZZ]++zy,[.o 0])
 |2,true=>(112,zx (pt 0)++zx (pt 1)++[.i SX]++zy,[.o 0])
 |2,false=>(113,zx (pt 0)++zx (pt 1)++[.i SX,.b false]++NM++zy,.o 0::NM)
 |_,_=>(177,zx (pt 0)++zx (pt 1)++zx (pt 2)++[.i (.k 0)]++zy,[.o 0])
def tH(c:Bool):kx:=(121,[.l ((ptN 3).map fun p=>[p.1,p.2,.k 8388607,.k 1,.k 1,.k 1,.k 1]),.b true],[.b c])
def NN(n:Nat)(b:Bool):kx:=(18,SY n b n,[.o 0,.b true])
def UH(P:Program)(n:Nat)(b:Bool)(c:Bool):Bool:=ir (TT P) (sO n b) (match n with
 |3=>[fb n b,tH c]
 |_=>[fb n b]) 2000 40 18 (SY n b n) [.o 0,.b true]
def doT(n:Nat)(b:Bool):List kx:=[W6,W7,W8,W9,Xa,Xb]++(if b then [Xc]else [])++EV n b::(List.range n).map (tG n b)
def jb(k:Nat)(m:Int):YV:=.i (.s 0 (List.replicate k 0++[m,1]))
def wY(n:Nat)(b:Bool):List YV:=[.l ((ptN n).map fun p=>[p.1,p.2]),jb 6 64,jb 8 64,jb 10 3,.b b]
def vT:kx:=(10,[],[.b true])
def Xk(P:Program)(n:Nat)(b:Bool):Bool:=ir (TT P) (sO n b) (NN n b::vT::doT n b) 2000 60 8 (wY n b) [.b true]
def abN(P:Program)(b:Bool):Bool:=ir (TT P) ⟨ND,[],[]⟩ [(9,[.o 0,.i (.k 3)],[.b false]),vT] 2000 60 8 [.o 0,jb 6 64,jb 8 64,jb 10 3,.b b] [.b true]
def abO(P:Program)(b:Bool):Bool:=ir (TT P) ⟨ND,[],[]⟩ [vT] 2000 60 8 [.l [],jb 6 64,jb 8 64,jb 10 3,.b b] [.b true]
end Go.Proofs.YtohebioanhliiaaGreatDoor.aw

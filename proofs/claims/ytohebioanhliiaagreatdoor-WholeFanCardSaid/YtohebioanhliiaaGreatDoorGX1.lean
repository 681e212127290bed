/- What a function gives of data some of whose numbers are not known but for bounds, reckoned by the kernel. -/
import Derived.Test.YtohebioanhliiaaGreatDoorGAK
set_option linter.unusedVariables false
set_option linter.unusedSimpArgs false
namespace Go.Sx
section
variable{α:Type}
inductive SI where
 |k (n:Int)
 |s (c:Int) (cs:List Int)
 deriving Inhabited
def kg:List Int->List Int->Int
 |a::as,x::xs=>a*x+kg as xs
 |_,_=>0
def SI.af(σ:List Int):SI->Int
 |.k n=>n
 |.s c cs=>c+kg cs σ
def SI.c0:SI->Int
 |.k n=>n
 |.s c _=>c
def SI.cs0:SI->List Int
 |.k _=>[]
 |.s _ cs=>cs
def GH:List Int->Bool
 | []=>true
 | a::as=>match LZ a 0 with
   |true=>GH as
   |false=>false
def mkS(c:Int)(cs:List Int):SI:=match GH cs with
 |true=>.k c
 |false=>.s c cs
def OV:List Int->List Int->List Int
 | [],bs=>bs
 |as,[]=>as
 |a::as,b::bs=>(a+b)::OV as bs
def SI.add:SI->SI->SI
 |.k a,.k b=>.k (a+b)
 |a,b=>mkS (a.c0+b.c0) (OV a.cs0 b.cs0)
def SI.scale(n:Int):SI->SI
 |.k a=>.k (n*a)
 |.s c cs=>mkS (n*c) (cs.map (n * ·))
def SI.sub(a b:SI):SI:=match a,b with
 |.k a,.k b=>.k (a-b)
 |a,b=>a.add (b.scale (-1))
abbrev OL:=List (Int×Int)
def InB:List Int->OL->Prop
 | [],[]=>True
 |x::xs,b::bs=>(b.1<=x/\x<=b.2)/\InB xs bs
 |_,_=>False
def IL(a b:Int):Bool:=match b-a with
 |.ofNat _=>true
 |.negSucc _=>false
def loD:List Int->OL->Int
 | a::as,b::bs=>(match IL 0 a with
   |true=>a*b.1
   |false=>a*b.2)+loD as bs
 |_,_=>0
def hiD:List Int->OL->Int
 | a::as,b::bs=>(match IL 0 a with
   |true=>a*b.2
   |false=>a*b.1)+hiD as bs
 |_,_=>0
def SI.lo(B:OL):SI->Int
 |.k n=>n
 |.s c cs=>c+loD cs B
def SI.hi(B:OL):SI->Int
 |.k n=>n
 |.s c cs=>c+hiD cs B
def SI.nn(B:OL)(a:SI):Option Bool:=match IL 0 (a.lo B)with
 |true=>some true
 | false=>match IL 0 (a.hi B)with
   |false=>some false
   |true=>none
def SI.nz(B:OL)(a:SI):Option Bool:=match a with
 |.k n=>some (LZ n 0)
 | a=>match IL 1 (a.lo B)with
   |true=>some false
   | false=>match IL (a.hi B) (-1)with
     |true=>some false
     |false=>none
def OW:SI->SI->Bool
 |.k a,.k b=>LZ a b
 | .s a as,.s b bs=>match LZ a b with
   |true=>L0 LZ as bs
   |false=>false
 |_,_=>false
structure Cx where
 box:OL
 fx:List (Nat×SI×SI×SI)
 ol:List SI
 oa:List (Nat×Nat×Nat)
def CB(i j:Nat):List (Nat×Nat×Nat)->Option Nat
 | []=>none
 | x::r=>match Nat.beq x.1 i with
   | true=>match Nat.beq x.2.1 j with
     |true=>some x.2.2
     |false=>CB i j r
   |false=>CB i j r
def abX:Nat->Int->Int->Int
 |0,a,b=>a*b
 |1,a,b=>a.tdiv b
 |2,a,b=>a.tmod b
 |3,a,b=>max a b
 |_,a,b=>min a b
def pQ(o:Nat)(a b:SI):List (Nat×SI×SI×SI)->Option SI
 | []=>none
 | x::r=>match Nat.beq x.1 o with
   | true=>match OW x.2.1 a with
     | true=>match OW x.2.2.1 b with
       |true=>some x.2.2.2
       |false=>pQ o a b r
     |false=>pQ o a b r
   |false=>pQ o a b r
def SI.qr(B:OL)(d:Int)(a:SI):Option (SI×SI):=
 let q:=mkS (a.c0/d) (a.cs0.map (· / d))
 let r:=mkS (a.c0%d) (a.cs0.map (· % d))
 match IL 1 d with
 | true=>match IL 0 (r.lo B)with
   | true=>match IL (r.hi B+1) d with
     |true=>some (q,r)
     |false=>none
   |false=>none
 |false=>none
def SI.mul(X:Cx)(a b:SI):Option SI:=match a,b with
 |.k a,b=>some (b.scale a)
 |a,.k b=>some (a.scale b)
 |a,b=>pQ 0 a b X.fx
def SI.tq(X:Cx)(a b:SI):Option SI:=match a,b with
 |.k a,.k b=>some (.k (a.tdiv b))
 | a,.k d=>match a.qr X.box d with
   |some (q,.k (.ofNat .zero))=>some q
   | some (q,_)=>match IL 0 (a.lo X.box)with
     |true=>some q
     |false=>pQ 1 a (.k d) X.fx
   |none=>pQ 1 a (.k d) X.fx
 |a,b=>pQ 1 a b X.fx
def SI.tr(X:Cx)(a b:SI):Option SI:=match a,b with
 |.k a,.k b=>some (.k (a.tmod b))
 | a,.k d=>match a.qr X.box d with
   |some (_,.k (.ofNat .zero))=>some (.k 0)
   | some (_,r)=>match IL 0 (a.lo X.box)with
     |true=>some r
     |false=>pQ 2 a (.k d) X.fx
   |none=>pQ 2 a (.k d) X.fx
 |a,b=>pQ 2 a b X.fx
def SI.eq(X:Cx)(d:Int)(a:SI):Option SI:=match a with
 |.k a=>some (.k (a/d))
 |a=>(a.qr X.box d).map (·.1)
def SI.er(X:Cx)(d:Int)(a:SI):Option SI:=match a with
 |.k a=>some (.k (a%d))
 |a=>(a.qr X.box d).map (·.2)
def SI.max(X:Cx)(a b:SI):Option SI:=match(b.sub a).nn X.box with
 |some true=>some b
 |some false=>some a
 |none=>pQ 3 a b X.fx
def SI.min(X:Cx)(a b:SI):Option SI:=match(b.sub a).nn X.box with
 |some true=>some a
 |some false=>some b
 |none=>pQ 4 a b X.fx
def SI.wrap(X:Cx)(k:IntKind)(a:SI):Option SI:=match a with
 |.k n=>some (.k (k.wrap n))
 | a=>match IL k.min (a.lo X.box)with
   | true=>match IL (a.hi X.box) k.max with
     |true=>some a
     |false=>none
   |false=>none
inductive YV where
 |i (a:SI)
 |b (x:Bool)
 |l (xs:List (List SI))
 |o (k:Nat)
 deriving Inhabited
structure xg where
 σ:List Int
 τ:Nat->List (List Int)
def dQ(σ:List Int)(xs:List (List SI)):List (List Int):=xs.map fun r=>r.map (SI.af σ)
def YV.af(V:xg):YV->DV
 |.i a=>.i (a.af V.σ)
 |.b x=>.b x
 |.l xs=>.l (dQ V.σ xs)
 |.o k=>.l (V.τ k)
abbrev SE:=List (Nat×YV)
def SE.at(k:Nat):SE->Option YV
 | []=>none
 | (j,d)::r=>match Nat.beq j k with
   |true=>some d
   |false=>SE.at k r
def SE.af(V:xg):SE->aH
 | [],k=>bj k
 |(j,d)::r,k=>if j=k then d.af V else SE.af V r k
def SE.aB(E:SE)(k:Nat):List YV->SE
 | []=>E
 |d::ds=>SE.aB ((k,d)::E) (k+1) ds
section
variable (X:Cx)(E:SE)
def XQ(f:SI->SI->Option SI)(a b:Option SI):Option SI:=match a with
 | some a=>match b with
   |some b=>f a b
   |none=>none
 |none=>none
def IE.sy:IE->Option SI
 | .v k=>match E.at k with
   |some (.i a)=>some a
   |_=>none
 |.c n=>some (.k n)
 |.add a b=>XQ (fun a b=>some (a.add b)) (a.sy) (b.sy)
 |.sub a b=>XQ (fun a b=>some (a.sub b)) (a.sy) (b.sy)
 |.mul a b=>XQ (SI.mul X) (a.sy) (b.sy)
 |.tdiv a b=>XQ (SI.tq X) (a.sy) (b.sy)
 |.tmod a b=>XQ (SI.tr X) (a.sy) (b.sy)
 | .ediv a n=>match a.sy with
   |some a=>a.eq X n
   |none=>none
 | .emod a n=>match a.sy with
   |some a=>a.er X n
   |none=>none
 | .shl a b=>match b.sy with
   | some (.k n)=>match a.sy with
     |some a=>some (a.scale (2 ^ n.toNat))
     |none=>none
   |_=>none
 | .shr a b=>match b.sy with
   | some (.k n)=>match a.sy with
     |some a=>a.eq X (2 ^ n.toNat)
     |none=>none
   |_=>none
 | .wrap k a=>match a.sy with
   |some a=>a.wrap X k
   |none=>none
 |.max a b=>XQ (SI.max X) (a.sy) (b.sy)
 |.min a b=>XQ (SI.min X) (a.sy) (b.sy)
 | .bits op k a b=>match a.sy with
   | some (.k a)=>match b.sy with
     |some (.k b)=>some (.k (Go.bits op k a b))
     |_=>none
   |_=>none
 | .len k=>match E.at k with
   |some (.l xs)=>some (.k (xs.length:Nat))
   |some (.o j)=>X.ol[j]?
   |_=>none
 | .get k i j=>match E.at k with
   | some (.l xs)=>match i.sy with
     |some (.k n)=>some ((xs.getD n.toNat []).getD j (.k 0))
     |_=>none
   |_=>none
 | .jZ i n a b=>match i.sy with
   | some (.k m)=>match LZ m n with
     |true=>a.sy
     |false=>b.sy
   |_=>none
def SP:Option Bool->Option Bool
 |some x=>some (not x)
 |none=>none
def SQ(B:OL)(f:IE->Option SI)(b:SI)(e:IE):Option Bool:=match e with
 | .max p q=>match f p with
   | some p=>match f q with
     | some q=>match(b.sub p).nn B with
       |some true=>(b.sub q).nn B
       |some false=>some false
       |none=>none
     |none=>none
   |none=>none
 |_=>none
def BE.sy:BE->Option Bool
 | .v k=>match E.at k with
   |some (.b x)=>some x
   |_=>none
 |.c x=>some x
 | .lt a b=>match IE.sy X E a with
   | some a=>match IE.sy X E b with
     |some b=>SP ((a.sub b).nn X.box)
     |none=>none
   |none=>none
 | .le a b=>match IE.sy X E b with
   | some b=>match IE.sy X E a with
     |some a=>(b.sub a).nn X.box
     |none=>SQ X.box (IE.sy X E) b a
   |none=>none
 | .eq a b=>match IE.sy X E a with
   | some a=>match IE.sy X E b with
     |some b=>(b.sub a).nz X.box
     |none=>none
   |none=>none
 |.not a=>SP (a.sy)
 | .and a b=>match a.sy with
   |some true=>b.sy
   |some false=>some false
   | none=>match b.sy with
     |some false=>some false
     |_=>none
 | .or a b=>match a.sy with
   |some true=>some true
   |some false=>b.sy
   | none=>match b.sy with
     |some true=>some true
     |_=>none
 | .iff a b=>match a.sy with
   |some true=>b.sy
   |some false=>SP (b.sy)
   |none=>none
 | .sP a=>match IE.sy X E a with
   |some a=>SP (a.nz X.box)
   |none=>none
def rh{α β:Type}(f:α->Option β):List α->Option (List β)
 | []=>some []
 | a::as=>match f a with
   | some b=>match rh f as with
     |some bs=>some (b::bs)
     |none=>none
   |none=>none
def Af:Sum IE BE->Option SI
 |.inl e=>IE.sy X E e
 | .inr b=>match BE.sy X E b with
   |some true=>some (.k 1)
   |some false=>some (.k 0)
   |none=>none
def DE.sy:DE->Option YV
 | .i e=>match IE.sy X E e with
   |some a=>some (.i a)
   |none=>none
 | .b e=>match BE.sy X E e with
   |some a=>some (.b a)
   |none=>none
 | .l k=>match E.at k with
   |some (.l xs)=>some (.l xs)
   |some (.o k)=>some (.o k)
   |_=>none
 |.nil=>some (.l [])
 | .rows es=>match rh (IE.sy X E) es with
   |some xs=>some (.l (xs.map fun x=>[x]))
   |none=>none
 | .vu xs=>match rh (Af X E) xs with
   |some xs=>some (.l [xs])
   |none=>none
def yn(r:List SI)(j:Nat)(x:SI):List SI:=if j<r.length then r.set j x else r++(List.replicate (j-r.length) (.k 0)++[x])
def uI(r:List SI)(j:Nat):List SI->List SI
 | []=>r
 |x::xs=>uI (yn r j x) (j+1) xs
def EJ:List NK->List SI->List SI->Nat->Option (List SI)
 | [],_,_,_=>some []
 |.c _::_,_,_,0=>some []
 |.c _::aO,hs,rest,j+1=>EJ aO hs.tail rest j
 | .s _ _::_,hs,rest,0=>match hs.headD (.k 0)with
   |.k n=>some (rest.take n.toNat)
   |_=>none
 | .s _ _::aO,hs,rest,j+1=>match hs.headD (.k 0)with
   |.k n=>EJ aO hs.tail (rest.drop n.toNat) j
   |_=>none
def SE.rows(k:Nat):Option (List (List SI)):=match E.at k with
 |some (.l xs)=>some xs
 |_=>none
def IE.Zw(i:IE):Option Int:=match IE.sy X E i with
 |some (.k n)=>some n
 |_=>none
def bU.SR:bU->Option SI
 |.c x=>Af X E x
 | .s k=>match E.rows k with
   |some xs=>some (.k (xs.length:Nat))
   |none=>none
 |.nil=>some (.k 0)
def bU.SS:bU->Option (List SI)
 | .s k=>match E.rows k with
   |some xs=>some (xs.map fun r=>r.getD 0 (.k 0))
   |none=>none
 |_=>some []
def dw.sy:dw->Option (List (List SI))
 |.lit rows=>rh (rh (Af X E)) rows
 | .app a b=>match E.rows a with
   | some a=>match E.rows b with
     |some b=>some (a++b)
     |none=>none
   |none=>none
 | .set a i j x=>match E.rows a with
   | some a=>match IE.Zw X E i with
     | some n=>match Af X E x with
       |some x=>some (a.modify n.toNat fun r=>yn r j x)
       |none=>none
     |none=>none
   |none=>none
 | .C8 a i xs=>match E.rows a with
   | some a=>match IE.Zw X E i with
     | some n=>match rh (Af X E) xs with
       |some x=>some (a.modify n.toNat fun _=>x)
       |none=>none
     |none=>none
   |none=>none
 | .Da a i j xs=>match E.rows a with
   | some a=>match IE.Zw X E i with
     | some n=>match rh (Af X E) xs with
       |some x=>some (a.modify n.toNat fun r=>uI r j x)
       |none=>none
     |none=>none
   |none=>none
 | .take a n=>match E.rows a with
   | some a=>match IE.Zw X E n with
     |some n=>some (a.take n.toNat)
     |none=>none
   |none=>none
 | .rep n row=>match IE.Zw X E n with
   |some n=>some (List.replicate n.toNat (row.map .k))
   |none=>none
 |.cp a=>E.rows a
 | .sub a i aO j=>match E.rows a with
   | some a=>match IE.Zw X E i with
     | some n=>match EJ aO ((a.getD n.toNat []).take aO.length) ((a.getD n.toNat []).drop aO.length) j with
       |some l=>some (l.map fun x=>[x])
       |none=>none
     |none=>none
   |none=>none
 | .P2 a b=>match E.rows a with
   | some a=>match E.rows b with
     |some b=>some (b.take a.length++a.drop b.length)
     |none=>none
   |none=>none
 | .Bi rows=>rh (fun r=>match rh (bU.SR X E) r with
   | some h=>match rh (bU.SS E) r with
     |some t=>some (h++t.flatten)
     |none=>none
   |none=>none) rows
def dw.syV(op:dw):Option YV:=match op with
 | .app a b=>match E.at a with
   | some (.l xs)=>match E.at b with
     |some (.l ys)=>some (.l (xs++ys))
     | some (.o k)=>match xs with
       | []=>some (.o k)
       |_=>none
     |_=>none
   | some (.o k)=>match E.at b with
     |some (.l [])=>some (.o k)
     | some (.o j)=>match CB k j X.oa with
       |some m=>some (.o m)
       |none=>none
     |_=>none
   |_=>none
 | .cp a=>match E.at a with
   |some (.l xs)=>some (.l xs)
   |some (.o k)=>some (.o k)
   |_=>none
 | op=>match dw.sy X E op with
   |some xs=>some (.l xs)
   |none=>none
end
def fSI{α:Type}(a:SI)(k:SI->α):α:=match a with
 |.k n=>fI n fun n=>k (.k n)
 |.s c cs=>fI c fun c=>fL fI cs fun cs=>k (.s c cs)
theorem KJ(a:SI)(k:SI->α):fSI a k=k a:=by
 cases a with
 |k n=>simp only[fSI,Es]
 | s c cs=>
   simp only[fSI,Es];exact Cb (f:=fI) (fun x k=>Es x k) cs (fun cs=>k (.s c cs))
def fSV{α:Type}(d:YV)(k:YV->α):α:=match d with
 |.i a=>fSI a fun a=>k (.i a)
 | .b x=>match x with
   |true=>k (.b true)
   |false=>k (.b false)
 |.l xs=>fL (fL fSI) xs fun xs=>k (.l xs)
 |.o n=>fN n fun n=>k (.o n)
theorem SU(d:YV)(k:YV->α):fSV d k=k d:=by
 cases d with
 |i a=>simp only[fSV,KJ]
 |b x=>cases x<;>rfl
 | l xs=>
   simp only[fSV];exact Cb (f:=fL fSI) (fun x k=>Cb (fun x k=>KJ x k) x k) xs (fun xs=>k (.l xs))
 |o n=>simp only[fSV,YX]
def KK{α:Type}(ds:List YV)(k:List YV->α):α:=fL fSV ds k
theorem vk(ds:List YV)(k:List YV->α):KK ds k=k ds:=Cb (fun x k=>SU x k) _ _
abbrev CC:=Nat->List YV->Option (List YV)
def EK:List CT->List YV
 | []=>[]
 |.c .b::cs=>.b false::EK cs
 |.c _::cs=>.i (.k 0)::EK cs
 |.s _ _::cs=>.l []::EK cs
 |.n _ _::cs=>.l []::EK cs
def SW(step:(List YV->Option (List YV))->List YV->Option (List YV)):Nat->List YV->Option (List YV)
 |0,_=>none
 |.succ n,ds=>step (SW step n) ds
def upS(F:CC)(id:Nat)(G:List YV->Option (List YV)):CC:=fun j vs=>match Nat.beq j id with
 |true=>G vs
 |false=>F j vs
def SX:YV->YV->Bool
 |.i a,.i b=>OW a b
 | .b a,.b b=>match a,b with
   |true,true=>true
   |false,false=>true
   |_,_=>false
 |.l a,.l b=>L0 (L0 OW) a b
 |.o a,.o b=>Nat.beq a b
 |_,_=>false
def au.jD(X:Cx)(C:CC)(N:Nat):au->List (SI->Option (List YV))->SE->CC->Option (List YV)
 | .ret bP,_,E,_=>match rh (DE.sy X E) bP with
   |some vs=>KK vs some
   |none=>none
 |.stuck _,_,_,_=>none
 | .ev (.aL p) t,Ps,E,F=>match BE.sy X E p with
   |some true=>t.jD X C N Ps E F
   |_=>none
 | .ev (.call f g args res base) t,Ps,E,F=>match BE.sy X E g with
   | some true=>match rh (DE.sy X E) args with
     | some as=>KK as fun as=>match C f as with
       |some rs=>KK rs fun rs=>t.jD X C N Ps (E.aB base rs) F
       |none=>none
     |none=>none
   |some false=>t.jD X C N Ps (E.aB base (EK (bL res))) F
   |none=>none
 | .ev (.cH id op) t,Ps,E,F=>match dw.syV X E op with
   |some x=>fSV x fun d=>t.jD X C N Ps ((id,d)::E) F
   |none=>none
 |.ev (.dB _ _) _,_,_,_=>none
 | .ite c a b,Ps,E,F=>match BE.sy X E c with
   |some true=>a.jD X C N Ps E F
   |some false=>b.jD X C N Ps E F
   | none=>match a.jD X C N Ps E F with
     | some x=>match b.jD X C N Ps E F with
       | some y=>match L0 SX x y with
         |true=>some x
         |false=>none
       |none=>none
     |none=>none
 | .loop id entry _ base body,Ps,E,F=>match rh (DE.sy X E) entry with
   |some ds=>KK ds fun ds=>SW (fun rec ds=>KK ds fun ds=>body.jD X C N Ps (E.aB base ds) (upS F id rec)) N ds
   |none=>none
 | .again id bP,_,E,F=>match rh (DE.sy X E) bP with
   |some ds=>KK ds fun ds=>F id ds
   |none=>none
 | .fail e,Ps,E,_=>match Ps with
   | p::_=>match IE.sy X E e with
     |some a=>fSI a fun a=>p a
     |none=>none
   | []=>none
 |.fO x tp t,Ps,E,F=>t.jD X C N ((fun n=>tp.jD X C N Ps ((x,.i n)::E) F)::Ps) E F
 | .pop t,Ps,E,F=>match Ps with
   |_::z7=>t.jD X C N z7 E F
   | []=>none
abbrev oM:=Nat×List YV×List YV
def IM(k:Nat)(ds:List YV):List oM->Option (List YV)
 | []=>none
 | x::r=>match Nat.beq x.1 k with
   | true=>match L0 SX x.2.1 ds with
     |true=>some x.2.2
     |false=>IM k ds r
   |false=>IM k ds r
def evY(T:Nat->Option ir)(X:Cx)(tb:List oM)(N:Nat):Nat->CC
 |0,_,_=>none
 | .succ d,k,ds=>match IM k ds tb with
   |some rs=>some rs
   | none=>match T k with
     |some e=>e.tree.jD X (fun g as=>evY T X tb N d (e.key g) as) N [] (SE.aB [] 0 ds) (fun _ _=>none)
     |none=>none
end
section
theorem jY{a b:Int}:IL a b=true↔a<=b:=by
 unfold IL;split;rename_i n h;simp only[true_iff];have:b-a=(n:Int):=h;omega
 rename_i n h;simp only[jG,false_iff];omega
theorem MD{a b:Int}:IL a b=false↔b<a:=by
 cases h:IL a b with
 |true=>have:=jY.1 h;simp only[Bool.true_eq_false,false_iff];omega
 | false=>
   simp only[true_iff];by_cases h2:a<=b;rw[jY.2 h2]at h;cases h;omega
section
variable {σ:List Int}{X:Cx}{V:xg}{B:OL}
variable{c:SI}{d n:Int}{x:Bool}
theorem IN:∀ {cs σ:List Int},GH cs=true->kg cs σ=0
 | [],σ,_=>by cases σ<;>rfl
 | a::as,σ,h=>by
   unfold GH at h;split at h;rename_i e;have e:=ur e;subst e;cases σ with
   |nil=>rfl
   |cons x xs=>simp only[kg,Int.zero_mul,IN h,Int.add_zero]
   cases h
theorem AW{c:Int}{cs:List Int}:(mkS c cs).af σ=c+kg cs σ:=by
 unfold mkS;split;rename_i h;simp only[SI.af,IN h,Int.add_zero];rfl
theorem sB{σ:List Int}:kg [] σ=0:=by cases σ<;>rfl
theorem SI.KL(a:SI):a.af σ=a.c0+kg a.cs0 σ:=by
 cases a with
 |k n=>simp only[SI.af,SI.c0,SI.cs0,sB,Int.add_zero]
 |s c cs=>rfl
theorem IP:∀ {as bs σ:List Int},kg (OV as bs) σ=kg as σ+kg bs σ
 | [],bs,σ=>by simp only[OV,sB,Int.zero_add]
 |a::as,[],σ=>by simp only[OV,sB,Int.add_zero]
 |a::as,b::bs,[]=>rfl
 |a::as,b::bs,x::xs=>by simp only[OV,kg,IP (as:=as)];grind
theorem ME:∀ {cs σ:List Int},kg (cs.map (n * ·)) σ=n*kg cs σ
 | [],σ=>by simp only[rM,sB,Int.mul_zero]
 |a::as,[]=>by simp only[kD,kg,Int.mul_zero]
 |a::as,x::xs=>by simp only[kD,kg,ME (cs:=as)];grind
theorem SY{d:Int}:∀ {cs σ:List Int},kg cs σ=d*kg (cs.map (· / d)) σ+kg (cs.map (· % d)) σ
 | [],σ=>by simp only[rM,sB,Int.mul_zero,Int.add_zero]
 |a::as,[]=>by simp only[kD,kg,Int.mul_zero,Int.add_zero]
 | a::as,x::xs=>by
   simp only[kD,kg];have h1:=SY (d:=d) (cs:=as) (σ:=xs);have h2:=Int.mul_ediv_add_emod a d;obtain⟨q,hq⟩:∃q,q=a/d:=⟨_,rfl⟩;obtain⟨r,hr⟩:∃r,r=a%d:=⟨_,rfl⟩;rw[<- hq,<- hr]at h2 ⊢;rw[h1,<- h2];grind
theorem SI.MF(a b:SI):(a.add b).af σ=a.af σ+b.af σ:=by
 unfold SI.add;split;rfl;rw[AW,IP,SI.KL a,SI.KL b];omega
theorem SI.vm(n:Int)(a:SI):(a.scale n).af σ=n*a.af σ:=by
 cases a with
 |k m=>rfl
 | s c cs=>
   show(mkS (n*c) (cs.map (n * ·))).af σ=n*(c+kg cs σ);rw[AW,ME,Int.mul_add]
theorem SI.mg(a b:SI):(a.sub b).af σ=a.af σ-b.af σ:=by
 unfold SI.sub;split;rfl;rw[SI.MF,SI.vm];omega
theorem SZ:∀ {cs σ:List Int} {B:OL},InB σ B->loD cs B<=kg cs σ/\kg cs σ<=hiD cs B
 | [],σ,B,h=>by simp only[sB];cases B<;>simp[loD,hiD]
 |a::as,[],[],h=>by simp[loD,hiD,kg]
 | a::as,x::xs,b::bs,h=>by
   obtain⟨⟨h1,h2⟩,h3⟩:=h;obtain⟨h4,h5⟩:=SZ (cs:=as) h3;simp only[loD,hiD,kg];split;rename_i e;have e:=jY.1 e;have g1:=rR h1 e;have g2:=rR h2 e;omega;rename_i e;have e:=MD.1 e;have g1:=rR h1 (show 0<=-a by omega);have g2:=rR h2 (show 0<=-a by omega);simp only[Int.neg_mul]at g1 g2;omega
 |_::_,[],_::_,h=>h.elim
 |_::_,_::_,[],h=>h.elim
theorem SI.in{a:SI}(h:InB σ B):a.lo B<=a.af σ/\a.af σ<=a.hi B:=by
 cases a with
 |k n=>exact⟨Int.le_refl _,Int.le_refl _⟩
 |s c cs=>have:=SZ (cs:=cs) h;simp only[SI.lo,SI.hi,SI.af];omega
theorem SI.yp{a:SI}(h:InB σ B)(e:a.nn B=some x):decide (0<=a.af σ)=x:=by
 obtain⟨h1,h2⟩:=SI.in (a:=a) h
 unfold SI.nn at e;split at e;rename_i l;have l:=jY.1 l;cases e;exact kR (by omega)
 split at e;rename_i l;have l:=MD.1 l;cases e;exact decide_eq_false (by omega)
 cases e
theorem IQ(n:Int):LZ n n=true:=by cases n<;>simp[LZ,Nat.beq_refl]
theorem SI.Zx{a:SI}(h:InB σ B)(e:a.nz B=some x):decide (a.af σ=0)=x:=by
 obtain⟨h1,h2⟩:=SI.in (a:=a) h
 unfold SI.nz at e;split at e;rename_i n;cases e;show decide (n=0)=LZ n 0;cases h:LZ n 0 with
 |true=>exact kR (ur h)
 |false=>exact decide_eq_false (fun e=>by subst e;rw[IQ]at h;cases h)
 split at e;rename_i l;have l:=jY.1 l;cases e;exact decide_eq_false (by omega)
 split at e;rename_i l;have l:=jY.1 l;cases e;exact decide_eq_false (by omega)
 cases e
theorem AX{a b:SI}(h:OW a b=true):a=b:=by
 cases a<;>cases b<;>simp only[OW]at h<;>first|cases h|skip
 rw[ur h];split at h;rename_i e;rw[ur e,qn (fun a b h=>ur h) h];cases h
structure Cx.Ok(X:Cx)(σ:List Int):Prop where
 box:InB σ X.box
 fx:∀x∈X.fx,abX x.1 (x.2.1.af σ) (x.2.2.1.af σ)=x.2.2.2.af σ
theorem ly{o:Nat}{a b:SI}:∀ {l:List (Nat×SI×SI×SI)},(∀x∈l,abX x.1 (x.2.1.af σ) (x.2.2.1.af σ)=x.2.2.2.af σ)->pQ o a b l=some c->abX o (a.af σ) (b.af σ)=c.af σ:=by
 intro l;induction l with
 |nil=>intro _ h;cases h
 | cons x l ih=>
   intro hl h;have ih:=ih fun y hy=>hl y (bn _ hy);unfold pQ at h;split at h;rename_i e0;split at h;rename_i e1;split at h;rename_i e2;cases h;rw[<- mq e0,<- AX e1,<- AX e2];exact hl x (aU ..);exact ih h;exact ih h;exact ih h
theorem SI.EL{a q r:SI}(h:InB σ B)(e:a.qr B d=some (q,r)):a.af σ=d*q.af σ+r.af σ/\0<=r.af σ/\r.af σ<d:=by
 unfold SI.qr at e;simp only at e;split at e;split at e;rename_i l;split at e;rename_i l2;injection e with e;injection e with e1 e2;subst e1;obtain⟨h1,h2⟩:=SI.in (a:=r) h
 rw[e2]at l l2;have l:=jY.1 l;have l2:=jY.1 l2;refine⟨?_,by omega,by omega⟩;rw[<- e2,AW,AW,SI.KL a,SY (d:=d) (cs:=a.cs0)];have:=Int.mul_ediv_add_emod a.c0 d;grind;cases e;cases e;cases e
theorem MG{q r:Int}(h:n=d*q+r)(h0:0<=r)(h1:r<d):n/d=q/\n%d=r:=by
 have hd:0<d:=by omega
 exact(Int.ediv_emod_unique hd).2 ⟨by omega,h0,h1⟩
theorem SI.Kk(hX:X.Ok σ){a b:SI}(e:a.mul X b=some c):a.af σ*b.af σ=c.af σ:=by
 unfold SI.mul at e;split at e;cases e;rw[SI.vm];rfl;cases e;rw[SI.vm,l6];rfl;exact ly (o:=0) hX.fx e
theorem SI.afI(hX:X.Ok σ){a b:SI}(e:a.tq X b=some c):(a.af σ).tdiv (b.af σ)=c.af σ:=by
 unfold SI.tq at e;split at e;cases e;rfl;rename_i d hh;show(a.af σ).tdiv d=_;split at e;rename_i q hq;cases e;obtain⟨h1,h2,h3⟩:=SI.EL hX.box hq;have h1:a.af σ=d*c.af σ:=by rw[h1];exact Int.add_zero _
 rw[h1,Int.mul_tdiv_cancel_left _ (by omega)];rename_i q r _ hq;split at e;rename_i l;cases e;have l:=jY.1 l;have h:=(SI.in (a:=a) hX.box).1;obtain⟨h1,h2,h3⟩:=SI.EL hX.box hq;rw[As (by omega),(MG h1 h2 h3).1];exact ly (o:=1) (b:=.k d) hX.fx e;exact ly (o:=1) (b:=.k d) hX.fx e;exact ly (o:=1) hX.fx e
theorem SI.afJ(hX:X.Ok σ){a b:SI}(e:a.tr X b=some c):(a.af σ).tmod (b.af σ)=c.af σ:=by
 unfold SI.tr at e;split at e;cases e;rfl;rename_i d hh;show(a.af σ).tmod d=_;split at e;rename_i q hq;cases e;obtain⟨h1,h2,h3⟩:=SI.EL hX.box hq;have h1:a.af σ=d*q.af σ:=by rw[h1];exact Int.add_zero _
 rw[h1,Int.mul_tmod_right];rfl;rename_i q r _ hq;split at e;rename_i l;cases e;have l:=jY.1 l;have h:=(SI.in (a:=a) hX.box).1;obtain⟨h1,h2,h3⟩:=SI.EL hX.box hq;rw[Int.tmod_eq_emod_of_nonneg (by omega),(MG h1 h2 h3).2];exact ly (o:=2) (b:=.k d) hX.fx e;exact ly (o:=2) (b:=.k d) hX.fx e;exact ly (o:=2) hX.fx e
theorem SI.Zy(hX:X.Ok σ){a:SI}(e:a.eq X d=some c):a.af σ/d=c.af σ:=by
 unfold SI.eq at e;split at e;cases e;rfl;obtain⟨⟨q,r⟩,hq,rfl⟩:=bH.1 e;obtain⟨h1,h2,h3⟩:=SI.EL hX.box hq;exact(MG h1 h2 h3).1
theorem SI.afK(hX:X.Ok σ){a:SI}(e:a.er X d=some c):a.af σ%d=c.af σ:=by
 unfold SI.er at e;split at e;cases e;rfl;obtain⟨⟨q,r⟩,hq,rfl⟩:=bH.1 e;obtain⟨h1,h2,h3⟩:=SI.EL hX.box hq;exact(MG h1 h2 h3).2
theorem SI.abY(hX:X.Ok σ){a b:SI}(e:a.max X b=some c):Max.max (a.af σ) (b.af σ)=c.af σ:=by
 unfold SI.max at e;split at e;rename_i h;cases e;have:=mW (SI.yp hX.box h);rw[SI.mg]at this;omega;rename_i h;cases e;have:=Jq (SI.yp hX.box h);rw[SI.mg]at this;omega;exact ly (o:=3) hX.fx e
theorem SI.abZ(hX:X.Ok σ){a b:SI}(e:a.min X b=some c):Min.min (a.af σ) (b.af σ)=c.af σ:=by
 unfold SI.min at e;split at e;rename_i h;cases e;have:=mW (SI.yp hX.box h);rw[SI.mg]at this;omega;rename_i h;cases e;have:=Jq (SI.yp hX.box h);rw[SI.mg]at this;omega;exact ly (o:=4) hX.fx e
theorem SI.XR(hX:X.Ok σ){k:IntKind}{a c:SI}(e:a.wrap X k=some c):k.wrap (a.af σ)=c.af σ:=by
 unfold SI.wrap at e;split at e;cases e;rfl;split at e;rename_i l;split at e;rename_i l2;cases e;have h:=SI.in (a:=a) hX.box
 have l:=jY.1 l;have l2:=jY.1 l2;exact rC ⟨by omega,by omega⟩;cases e;cases e
end
end
section
structure xg.Ok(X:Cx)(V:xg):Prop where
 num:X.Ok V.σ
 ol:∀j n,X.ol[j]?=some n->((V.τ j).length:Int)=n.af V.σ
 oa:∀x∈X.oa,V.τ x.1++V.τ x.2.1=V.τ x.2.2
theorem zn{τ:Nat->List (List Int)}{i j m:Nat}:∀ {l:List (Nat×Nat×Nat)},(∀x∈l,τ x.1++τ x.2.1=τ x.2.2)->CB i j l=some m->τ i++τ j=τ m
 | [],_,h=>by cases h
 | x::r,hl,h=>by
   unfold CB at h;split at h;rename_i e1;split at h;rename_i e2;cases h;rw[<- mq e1,<- mq e2];exact hl x (aU ..);exact zn (fun y hy=>hl y (bn _ hy)) h;exact zn (fun y hy=>hl y (bn _ hy)) h
section
variable {X:Cx}{V:xg}{E:SE}
variable{σ:List Int}{hs:List SI}{j k n:Nat}
theorem SE.gd{d:YV}:∀ {E:SE},E.at k=some d->SE.af V E k=d.af V
 | [],h=>by cases h
 | (j,x)::E,h=>by
   unfold SE.at at h;unfold SE.af;split at h;rename_i e;cases h;rw[if_pos (mq e)];rename_i e;rw[if_neg (fun e'=>by rw[e',Nat.beq_refl]at e;cases e)];exact SE.gd h
theorem SE.cons(k:Nat)(d:YV)(E:SE):SE.af V ((k,d)::E)=(SE.af V E).set k (d.af V):=by
 funext j;unfold aH.set;show(if k=j then _ else _)=_;by_cases h:k=j;rw[if_pos h,if_pos h.symm];rw[if_neg h,if_neg (Ne.symm h)]
theorem SE.rf:∀ {ds:List YV} {E:SE} {k:Nat},SE.af V (E.aB k ds)=(SE.af V E).aB k (ds.map (YV.af V))
 | [],E,k=>rfl
 | d::ds,E,k=>by
   show SE.af V (SE.aB ((k,d)::E) (k+1) ds)=_;rw[SE.rf,SE.cons];rfl
theorem be2{f:SI->SI->Option SI}{a b:Option SI}{c:SI}(h:XQ f a b=some c):∃x y,a=some x/\b=some y/\f x y=some c:=by
 unfold XQ at h;split at h;split at h;exact⟨_,_,rfl,rfl,h⟩;cases h;cases h
theorem getD_map{r:List SI}:(r.map (SI.af σ)).getD j 0=(r.getD j (.k 0)).af σ:=by
 simp only[cT,gL];cases r[j]? <;>rfl
theorem EM{xs:List (List SI)}:(dQ σ xs).getD n []=(xs.getD n []).map (SI.af σ):=by
 simp only[dQ,cT,gL];cases xs[n]? <;>rfl
theorem IE.fW(hV:V.Ok X):∀ {e:IE} {a:SI},IE.sy X E e=some a->e.af (SE.af V E)=a.af V.σ:=by
 have hX:=hV.num;intro e;induction e with
 | v k=>
   intro a h;unfold IE.sy at h;split at h;rename_i e;cases h;show(SE.af V E k).int=_;rw[SE.gd e];rfl;cases h
 |c n=>intro a h;cases h;rfl
 |add x y pV qu=>intro a h;obtain⟨p,q,h1,h2,h3⟩:=be2 h;cases h3;rw[SI.MF,<- pV h1,<- qu h2];rfl
 |sub x y pV qu=>intro a h;obtain⟨p,q,h1,h2,h3⟩:=be2 h;cases h3;rw[SI.mg,<- pV h1,<- qu h2];rfl
 |mul x y pV qu=>intro a h;obtain⟨p,q,h1,h2,h3⟩:=be2 h;rw[<- SI.Kk hX h3,<- pV h1,<- qu h2];rfl
 |tdiv x y pV qu=>intro a h;obtain⟨p,q,h1,h2,h3⟩:=be2 h;rw[<- SI.afI hX h3,<- pV h1,<- qu h2];rfl
 |tmod x y pV qu=>intro a h;obtain⟨p,q,h1,h2,h3⟩:=be2 h;rw[<- SI.afJ hX h3,<- pV h1,<- qu h2];rfl
 |max x y pV qu=>intro a h;obtain⟨p,q,h1,h2,h3⟩:=be2 h;rw[<- SI.abY hX h3,<- pV h1,<- qu h2];rfl
 |min x y pV qu=>intro a h;obtain⟨p,q,h1,h2,h3⟩:=be2 h;rw[<- SI.abZ hX h3,<- pV h1,<- qu h2];rfl
 | ediv x n ih=>
   intro a h;unfold IE.sy at h;split at h;rename_i e;rw[<- SI.Zy hX h,<- ih e];rfl;cases h
 | emod x n ih=>
   intro a h;unfold IE.sy at h;split at h;rename_i e;rw[<- SI.afK hX h,<- ih e];rfl;cases h
 | shl x y pV qu=>
   intro a h;unfold IE.sy at h;split at h;rename_i n e;split at h;rename_i e';cases h;rw[SI.vm,<- pV e'];show x.af _*2 ^ (y.af _).toNat=_;rw[qu e,l6];rfl;cases h;cases h
 | shr x y pV qu=>
   intro a h;unfold IE.sy at h;split at h;rename_i n e;split at h;rename_i e';rw[<- SI.Zy hX h,<- pV e'];show x.af _/2 ^ (y.af _).toNat=_;rw[qu e];rfl;cases h;cases h
 | wrap k x ih=>
   intro a h;unfold IE.sy at h;split at h;rename_i e;rw[<- SI.XR hX h,<- ih e];rfl;cases h
 | bits op k x y pV qu=>
   intro a h;unfold IE.sy at h;split at h;rename_i n e;split at h;rename_i m e';cases h;show Go.bits op k (x.af _) (y.af _)=_;rw[pV e,qu e'];rfl;cases h;cases h
 | len k=>
   intro a h;unfold IE.sy at h;show((SE.af V E k).list.length:Int)=_;split at h;rename_i xs e;cases h;rw[SE.gd e];show((dQ V.σ xs).length:Int)=_;rw[dQ,lS];rfl;rename_i j e;rw[SE.gd e];exact hV.ol _ _ h;cases h
 | get k i j ih=>
   intro a h;unfold IE.sy at h;show cellAt (SE.af V E k).list (i.af _) j=_;split at h;rename_i xs e;split at h;rename_i n e';cases h;rw[SE.gd e,ih e'];show((dQ V.σ xs).getD n.toNat []).getD j 0=_;rw[EM,getD_map];cases h;cases h
 | jZ i n x y ihi pV qu=>
   intro a h;unfold IE.sy at h;show(if i.af _=(n:Int)then x.af _ else y.af _)=_;split at h;rename_i m e;have e:=ihi e;split at h;rename_i q;rw[if_pos (by rw[e];exact ur q),pV h];rename_i q;rw[if_neg (fun q'=>by rw[show m=(n:Int)from e.symm.trans q',IQ]at q;cases q),qu h];cases h
theorem AY{a:Option Bool}{x:Bool}(h:SP a=some x):a=some (!x):=by
 cases a with
 |none=>cases h
 |some y=>cases h;simp
theorem S0(hV:V.Ok X){b:SI}{e:IE}{a:Bool}(h:SQ X.box (IE.sy X E) b e=some a):decide (e.af (SE.af V E)<=b.af V.σ)=a:=by
 have hX:=hV.num;unfold SQ at h;split at h;rename_i p q;split at h;rename_i p' e1;split at h;rename_i q' e2;have h1:=IE.fW hV e1;have h2:=IE.fW hV e2;show decide (Max.max (p.af _) (q.af _)<=_)=a;split at h;rename_i l;have l:=mW (SI.yp hX.box l);have h:=SI.yp hX.box h;rw[SI.mg]at l h;cases a<;>simp at h ⊢ <;>omega;rename_i l;cases h;have l:=Jq (SI.yp hX.box l);rw[SI.mg]at l;simp;omega;cases h;cases h;cases h;cases h
theorem BE.fW(hV:V.Ok X):∀ {e:BE} {a:Bool},BE.sy X E e=some a->e.af (SE.af V E)=a:=by
 have hX:=hV.num;intro e;induction e with
 | v k=>
   intro a h;unfold BE.sy at h;split at h;rename_i e;cases h;show(SE.af V E k).bool=_;rw[SE.gd e];rfl;cases h
 |c n=>intro a h;cases h;rfl
 | lt x y=>
   intro a h;unfold BE.sy at h;split at h;rename_i p e;split at h;rename_i q e';have h:=SI.yp hX.box (AY h);rw[SI.mg,<- IE.fW hV e,<- IE.fW hV e']at h;show decide (x.af _<y.af _)=a;cases a<;>simp at h ⊢ <;>omega;cases h;cases h
 | le x y=>
   intro a h;unfold BE.sy at h;show decide (x.af _<=y.af _)=a;split at h;rename_i q e';split at h;rename_i p e;have h:=SI.yp hX.box h;rw[SI.mg,<- IE.fW hV e,<- IE.fW hV e']at h;cases a<;>simp at h ⊢ <;>omega;rw[IE.fW hV e'];exact S0 hV h;cases h
 | eq x y=>
   intro a h;unfold BE.sy at h;split at h;rename_i p e;split at h;rename_i q e';have h:=SI.Zx hX.box h;rw[SI.mg,<- IE.fW hV e,<- IE.fW hV e']at h;show decide (x.af _=y.af _)=a;cases a<;>simp at h ⊢ <;>omega;cases h;cases h
 |not x ih=>intro a h;show(!(x.af _))=a;rw[ih (AY h),Bool.not_not]
 | and x y pV qu=>
   intro a h;unfold BE.sy at h;show(x.af _&&y.af _)=a;split at h;rename_i e;rw[pV e,qu h];rfl;rename_i e;cases h;rw[pV e];rfl;split at h;rename_i e;cases h;rw[qu e,Bool.and_false];cases h
 | or x y pV qu=>
   intro a h;unfold BE.sy at h;show(x.af _||y.af _)=a;split at h;rename_i e;cases h;rw[pV e];rfl;rename_i e;rw[pV e,qu h];rfl;split at h;rename_i e;cases h;rw[qu e,Bool.or_true];cases h
 | iff x y pV qu=>
   intro a h;unfold BE.sy at h;show(x.af _==y.af _)=a;split at h;rename_i e;rw[pV e,qu h];cases a<;>rfl;rename_i e;rw[pV e,qu (AY h)];cases a<;>rfl;cases h
 | sP x=>
   intro a h;unfold BE.sy at h;split at h;rename_i p e;have h:=SI.Zx hX.box (AY h);rw[<- IE.fW hV e]at h;show decide (x.af _≠0)=a;cases a<;>simp at h ⊢ <;>omega;cases h
theorem iT{α β γ:Type}{f:α->Option β}{g:α->γ}{d:β->γ}(hf:∀a b,f a=some b->g a=d b):∀ {l:List α} {r:List β},rh f l=some r->l.map g=r.map d
 | [],r,h=>by cases h;rfl
 | a::as,r,h=>by
   unfold rh at h;split at h;rename_i b e;split at h;rename_i bs e';cases h;rw[kD,kD,hf a b e,iT hf e'];cases h;cases h
theorem rk(hV:V.Ok X)(x:Sum IE BE)(a:SI)(h:Af X E x=some a):b7 (SE.af V E) x=a.af V.σ:=by
 cases x with
 |inl e=>exact IE.fW hV h
 | inr b=>
   simp only[Af]at h;show(if b.af _ then(1:Int)else 0)=_;split at h;rename_i e;cases h;rw[BE.fW hV e];rfl;rename_i e;cases h;rw[BE.fW hV e];rfl;cases h
theorem DE.fW(hV:V.Ok X)(x:DE)(a:YV)(h:DE.sy X E x=some a):x.af (SE.af V E)=a.af V:=by
 cases x with
 | i e=>
   simp only[DE.sy]at h;split at h;rename_i e';cases h;exact congrArg DV.i (IE.fW hV e');cases h
 | b e=>
   simp only[DE.sy]at h;split at h;rename_i e';cases h;exact congrArg DV.b (BE.fW hV e');cases h
 | l k=>
   simp only[DE.sy]at h;show DV.l (SE.af V E k).list=_;split at h;rename_i e;cases h;rw[SE.gd e];rfl;rename_i e;cases h;rw[SE.gd e];rfl;cases h
 |nil=>cases h;rfl
 | rows es=>
   simp only[DE.sy]at h;split at h;rename_i xs e;cases h;have:=iT (g:=fun e=>[e.af (SE.af V E)]) (d:=fun a=>[a.af V.σ]) (fun a b h=>by rw[IE.fW hV h]) e;show DV.l _=DV.l (dQ V.σ (xs.map fun x=>[x]));rw[this,dQ,List.map_map];rfl;cases h
 | vu xs=>
   simp only[DE.sy]at h;split at h;rename_i ys e;cases h;have:=iT (g:=b7 (SE.af V E)) (d:=SI.af V.σ) (fun a b h=>rk hV a b h) e;show DV.l [xs.map _]=DV.l _;rw[this];rfl;cases h
theorem iF{xs:List (List SI)}(h:E.rows k=some xs):(SE.af V E k).list=dQ V.σ xs:=by
 unfold SE.rows at h;split at h;rename_i e;cases h;rw[SE.gd e];rfl;cases h
theorem zo(hV:V.Ok X){i:IE}{n:Int}(h:IE.Zw X E i=some n):i.af (SE.af V E)=n:=by
 unfold IE.Zw at h;split at h;rename_i e;cases h;exact IE.fW hV e;cases h
theorem CD{r:List SI}{x:SI}:(yn r j x).map (SI.af σ)=lV (r.map (SI.af σ)) j (x.af σ):=by
 unfold yn lV;rw[lS];split;rw[List.map_set];rw[n8,n8,List.map_replicate];rfl
theorem Ag:∀ {xs r:List SI} {j:Nat},(uI r j xs).map (SI.af σ)=iR (r.map (SI.af σ)) j (xs.map (SI.af σ))
 | [],r,j=>rfl
 | x::xs,r,j=>by
   show(uI (yn r j x) (j+1) xs).map _=_;rw[Ag,CD];rfl
theorem head_map:(hs.map (SI.af σ)).headD 0=(hs.headD (.k 0)).af σ:=by cases hs<;>rfl
theorem IS:(hs.map (SI.af σ)).tail=hs.tail.map (SI.af σ):=by cases hs<;>rfl
theorem CE:∀ {aO:List NK} {hs rest:List SI} {j:Nat} {r:List SI},EJ aO hs rest j=some r->oV aO (hs.map (SI.af σ)) (rest.map (SI.af σ)) j=r.map (SI.af σ)
 | [],hs,rest,j,r,h=>by cases h;rfl
 |.c _::aO,hs,rest,0,r,h=>by cases h;rfl
 | .c _::aO,hs,rest,j+1,r,h=>by
   show oV aO (hs.map (SI.af σ)).tail (rest.map (SI.af σ)) j=_;rw[IS];exact CE (aO:=aO) h
 | .s _ _::aO,hs,rest,0,r,h=>by
   unfold EJ at h;show(rest.map (SI.af σ)).take ((hs.map (SI.af σ)).headD 0).toNat=_;split at h;rename_i n e;cases h;rw[head_map,e,List.map_take];rfl;cases h
 | .s _ _::aO,hs,rest,j+1,r,h=>by
   unfold EJ at h;show oV aO (hs.map (SI.af σ)).tail ((rest.map (SI.af σ)).drop ((hs.map (SI.af σ)).headD 0).toNat) j=_;split at h;rename_i n e;rw[head_map,e,IS,<- List.map_drop];exact CE (aO:=aO) h;cases h
theorem xb{f:List SI->List SI}{g:List Int->List Int}(h:∀r,(f r).map (SI.af σ)=g (r.map (SI.af σ))):∀ {xs:List (List SI)},dQ σ (xs.modify n f)=(dQ σ xs).modify n g:=by
 intro xs;apply List.ext_getElem?;intro i;simp only[dQ,gL,List.getElem?_modify];cases xs[i]? with
 |none=>rfl
 |some r=>simp only[tn];split<;>simp[h]
theorem XS(hV:V.Ok X)(x:bU)(a:SI)(h:bU.SR X E x=some a):bU.head (SE.af V E) x=a.af V.σ:=by
 cases x with
 |c x=>exact rk hV x a h
 | s k=>
   simp only[bU.SR]at h;show((SE.af V E k).list.length:Int)=_;split at h;rename_i e;cases h;rw[iF e,dQ,lS];rfl;cases h
 |nil=>cases h;rfl
theorem S1(x:bU)(a:List SI)(h:bU.SS E x=some a):bU.tail (SE.af V E) x=a.map (SI.af V.σ):=by
 cases x with
 |c x=>cases h;rfl
 | s k=>
   simp only[bU.SS]at h;show(SE.af V E k).list.map (fun r=>r.getD 0 0)=_;split at h;rename_i e;cases h;rw[iF e,dQ,List.map_map,List.map_map];exact xh fun r _=>getD_map;cases h
 |nil=>cases h;rfl
theorem dw.fW(hV:V.Ok X){op:dw}{xs:List (List SI)}(h:dw.sy X E op=some xs):op.af (SE.af V E)=dQ V.σ xs:=by
 cases op with
 |lit rows=>exact iT (fun r s h=>iT (fun a b h=>rk hV a b h) h) h
 | app a b=>
   simp only[dw.sy]at h;split at h;rename_i e;split at h;rename_i e';cases h;show(SE.af V E a).list++(SE.af V E b).list=_;rw[iF e,iF e',dQ,dQ,dQ,n8];cases h;cases h
 | set a i j x=>
   simp only[dw.sy]at h;split at h;rename_i e;split at h;rename_i n e1;split at h;rename_i y e2;cases h;show setAt (SE.af V E a).list (i.af _) j (b7 _ x)=_;rw[iF e,zo hV e1,rk hV _ _ e2,setAt];exact(xb fun r=>CD).symm;cases h;cases h;cases h
 | C8 a i ys=>
   simp only[dw.sy]at h;split at h;rename_i e;split at h;rename_i n e1;split at h;rename_i y e2;cases h;show(SE.af V E a).list.modify (i.af _).toNat (fun _=>ys.map (b7 _))=_;rw[iF e,zo hV e1,iT (fun a b h=>rk hV a b h) e2];exact(xb fun r=>rfl).symm;cases h;cases h;cases h
 | Da a i j ys=>
   simp only[dw.sy]at h;split at h;rename_i e;split at h;rename_i n e1;split at h;rename_i y e2;cases h;show(SE.af V E a).list.modify (i.af _).toNat (fun r=>iR r j (ys.map (b7 _)))=_;rw[iF e,zo hV e1,iT (fun a b h=>rk hV a b h) e2];exact(xb (f:=fun r=>uI r j y) (g:=fun r=>iR r j (y.map (SI.af V.σ))) fun r=>Ag).symm;cases h;cases h;cases h
 | take a n=>
   simp only[dw.sy]at h;split at h;rename_i e;split at h;rename_i m e1;cases h;show(SE.af V E a).list.take (n.af _).toNat=_;rw[iF e,zo hV e1,dQ,dQ,List.map_take];cases h;cases h
 | rep n row=>
   simp only[dw.sy]at h;split at h;rename_i m e1;cases h;show List.replicate (n.af _).toNat row=_;rw[zo hV e1,dQ,List.map_replicate,List.map_map];congr 1;exact(List.map_id _).symm;cases h
 |cp a=>exact iF h
 | sub a i aO j=>
   simp only[dw.sy]at h;split at h;rename_i xs e;split at h;rename_i n e1;split at h;rename_i l e2;cases h;show(ij aO ((SE.af V E a).list.getD (i.af _).toNat []) j).map (fun x=>[x])=_;rw[iF e,zo hV e1,EM,ij,<- List.map_take,<- List.map_drop,CE e2,dQ,List.map_map,List.map_map];rfl;cases h;cases h;cases h
 | P2 a b=>
   simp only[dw.sy]at h;split at h;rename_i e;split at h;rename_i e';cases h;show(SE.af V E b).list.take (SE.af V E a).list.length++(SE.af V E a).list.drop (SE.af V E b).list.length=_;rw[iF e,iF e'];simp only[dQ,n8,List.map_take,List.map_drop,lS];cases h;cases h
 | Bi rows=>
   refine iT (g:=fun r=>r.map (bU.head (SE.af V E))++r.flatMap (bU.tail (SE.af V E))) (d:=fun r=>r.map (SI.af V.σ)) (fun r s h=>?_) h;split at h;rename_i a e;split at h;rename_i t e';cases h;have h1:=iT (fun a b h=>XS hV a b h) e;have h2:=iT (d:=fun l:List SI=>l.map (SI.af V.σ)) (fun a b h=>S1 (V:=V) a b h) e';rw[List.flatMap_def,h1,h2,n8,List.map_flatten];cases h;cases h
theorem dw.ab0(hV:V.Ok X){op:dw}{v:YV}(h:dw.syV X E op=some v):DV.l (op.af (SE.af V E))=v.af V:=by
 unfold dw.syV at h;split at h;rename_i a b;show DV.l ((SE.af V E a).list++(SE.af V E b).list)=_;split at h;rename_i xs e;split at h;rename_i ys e';cases h;rw[SE.gd e,SE.gd e'];show DV.l (dQ V.σ xs++dQ V.σ ys)=DV.l (dQ V.σ (xs++ys));rw[dQ,dQ,dQ,n8];rename_i k e';split at h;cases h;rw[SE.gd e,SE.gd e'];rfl;cases h;cases h;rename_i k e;split at h;rename_i e';cases h;rw[SE.gd e,SE.gd e'];show DV.l (V.τ k++[])=_;rw[qH];rfl;rename_i j e';split at h;rename_i m e2;cases h;rw[SE.gd e,SE.gd e'];show DV.l (V.τ k++V.τ j)=DV.l (V.τ m);rw[zn hV.oa e2];cases h;cases h;cases h;rename_i a;show DV.l (SE.af V E a).list=_;split at h;rename_i e;cases h;rw[SE.gd e];rfl;rename_i e;cases h;rw[SE.gd e];rfl;cases h;split at h;rename_i e;cases h;rw[dw.fW hV e];rfl;cases h
end
end
section
section
variable {X:Cx}{V:xg}
variable{N:Nat}{T:Nat->Option ir}{ds:List YV}{k:Nat}{rs:List YV}{d:Nat}
abbrev ez(V:xg)(ds:List YV):List DV:=ds.map (YV.af V)
def LeY(V:xg)(f:List YV->Option (List YV))(g:List DV->Option (List DV)):Prop:=∀ds rs,f ds=some rs->g (ez V ds)=some (ez V rs)
def PsY(V:xg):List (SI->Option (List YV))->List (Int->Option (List DV))->Prop
 | [],[]=>True
 |p::ps,q::qs=>(∀a rs,p a=some rs->q (a.af V.σ)=some (ez V rs))/\PsY V ps qs
 |_,_=>False
theorem S2{s:(List YV->Option (List YV))->List YV->Option (List YV)}{t:(List DV->Option (List DV))->List DV->Option (List DV)}(h:∀f g,LeY V f g->LeY V (s f) (t g)):∀n,LeY V (SW s n) (iter t n):=by
 intro n;induction n with
 |zero=>intro ds rs e;cases e
 |succ n ih=>intro ds rs e;exact h _ _ ih ds rs e
theorem rl:∀cs:List CT,ez V (EK cs)=defs cs
 | []=>rfl
 |.c .b::cs=>congrArg (DV.b false :: ·) (rl cs)
 |.c (.i _)::cs=>congrArg (DV.i 0 :: ·) (rl cs)
 |.c .f::cs=>congrArg (DV.i 0 :: ·) (rl cs)
 |.s _ _::cs=>congrArg (DV.l [] :: ·) (rl cs)
 |.n _ _::cs=>congrArg (DV.l [] :: ·) (rl cs)
theorem GI(hV:V.Ok X){E:SE}{l:List DE}{r:List YV}(h:rh (DE.sy X E) l=some r):l.map (DE.af (SE.af V E))=ez V r:=iT (fun a b h=>DE.fW hV a b h) h
theorem GJ{a b:YV}(h:SX a b=true):a=b:=by
 cases a<;>cases b<;>simp only[SX]at h<;>first|cases h|skip
 rw[AX h]
 . rename_i x y;cases x<;>cases y<;>simp_all
 rw[qn (fun a b h=>qn (fun a b h=>AX h) h) h];rw[mq h]
theorem XT(hV:V.Ok X){C:CC}{C':bY}(hC:∀f,LeY V (C f) (C' f)):∀(t:au) {Ps:List (SI->Option (List YV))} {Qs:List (Int->Option (List DV))} {E:SE} {F:CC} {G:sM},PsY V Ps Qs->(∀j,LeY V (F j) (G j))->∀ {rs:List YV},t.jD X C N Ps E F=some rs->t.run C' N Qs (SE.af V E) G=some (ez V rs):=by
 intro t;induction t with
 | ret bP=>
   intro Ps Qs E F G hP hF rs h;simp only[au.jD]at h;split at h;rename_i vs e;rw[vk]at h;cases h;show some (bP.map _)=_;rw[GI hV e];cases h
 |stuck s=>intro Ps Qs E F G _ _ rs h;cases h
 | ev e t ih=>
   intro Ps Qs E F G hP hF rs h;cases e with
   | aL p=>
     simp only[au.jD]at h;show(if p.af _=true then _ else none)=_;split at h;rename_i e;rw[if_pos (BE.fW hV e)];exact ih hP hF h;cases h
   | call f g args res base=>
     simp only[au.jD]at h;show(if g.af _=true then(match C' f (args.map (DE.af _))with
       |some rs=>t.run C' N Qs ((SE.af V E).aB base rs) G
       |none=>none)else t.run C' N Qs ((SE.af V E).aB base (defs (bL res))) G)=_
     split at h;rename_i eg;rw[if_pos (BE.fW hV eg)];split at h;rename_i as ea;rw[vk]at h;split at h;rename_i r er;rw[vk]at h;rw[GI hV ea,hC f _ _ er];show t.run C' N Qs ((SE.af V E).aB base (ez V r)) G=_;rw[<- SE.rf];exact ih hP hF h;cases h;cases h;rename_i eg;rw[if_neg (by rw[BE.fW hV eg];exact Bool.false_ne_true),<- rl (V:=V),<- SE.rf];exact ih hP hF h;cases h
   | cH id op=>
     simp only[au.jD]at h;show t.run C' N Qs ((SE.af V E).set id (.l (op.af _))) G=_;split at h;rename_i xs e;rw[SU]at h;rw[dw.ab0 hV e,<- ih hP hF h,SE.cons];cases h
   |dB p e=>cases h
 | ite c a b fb fB=>
   intro Ps Qs E F G hP hF rs h;simp only[au.jD]at h;show(if c.af _=true then _ else _)=_;split at h;rename_i e;rw[if_pos (BE.fW hV e)];exact fb hP hF h;rename_i e;rw[if_neg (by rw[BE.fW hV e];exact Bool.false_ne_true)];exact fB hP hF h;split at h;rename_i x ex;split at h;rename_i y ey;split at h;rename_i q;cases h;have q:=qn (fun a b h=>GJ h) q;subst q;split;exact fb hP hF ex;exact fB hP hF ey;cases h;cases h;cases h
 | loop id entry ks base body ih=>
   intro Ps Qs E F G hP hF rs h;simp only[au.jD]at h;split at h;rename_i ds e;rw[vk]at h;show iter _ N (entry.map _)=_;rw[GI hV e];refine S2 (V:=V) (fun f g hfg ds rs h=>?_) N ds rs h;rw[vk]at h;rw[<- SE.rf];refine ih hP (fun j ds rs h=>?_) h;unfold upS at h;unfold BT;split at h;rename_i e;rw[if_pos (mq e)];exact hfg _ _ h;rename_i e;rw[if_neg (fun e'=>by rw[e',Nat.beq_refl]at e;cases e)];exact hF j _ _ h;cases h
 | again id bP=>
   intro Ps Qs E F G hP hF rs h;simp only[au.jD]at h;split at h;rename_i ds e;rw[vk]at h;show G id (bP.map _)=_;rw[GI hV e];exact hF id _ _ h;cases h
 | fail e=>
   intro Ps Qs E F G hP hF rs h;cases Ps with
   |nil=>cases h
   | cons p ps=>
     cases Qs with
     |nil=>exact hP.elim
     | cons q qs=>
       simp only[au.jD]at h;split at h;rename_i a e';rw[KJ]at h;show q (e.af _)=_;rw[IE.fW hV e'];exact hP.1 _ _ h;cases h
 | fO x tp t DB ih=>
   intro Ps Qs E F G hP hF rs h;refine ih (Ps:=(fun n=>tp.jD X C N Ps ((x,.i n)::E) F)::Ps) (Qs:=(fun n=>tp.run C' N Qs ((SE.af V E).set x (.i n)) G)::Qs) ⟨fun a rs h=>?_,hP⟩ hF h;have:=DB hP hF h;rw[SE.cons]at this;exact this
 | pop t ih=>
   intro Ps Qs E F G hP hF rs h;cases Ps with
   |nil=>cases h
   | cons p ps=>
     cases Qs with
     |nil=>exact hP.elim
     |cons q qs=>exact ih hP.2 hF h
def KM(T:Nat->Option ir)(Y:bY)(V:xg):List oM->Prop
 | []=>True
 |x::r=>eR T Y x.1 (ez V x.2.1) (ez V x.2.2)/\KM T Y V r
theorem KM.fuel{Y:bY}:∀ {tb:List oM},KM T Y V tb->∃n,∀x∈tb,ev T Y n x.1 (ez V x.2.1)=some (ez V x.2.2)
 | [],_=>⟨0,fun x h=>by cases h⟩
 | x::tb,h=>by
   obtain⟨⟨n,hn⟩,hr⟩:=h;obtain⟨m,hm⟩:=KM.fuel hr;refine⟨max n m,fun y hy=>?_⟩;rcases bF.1 hy with rfl|hy;exact gT n _ _ _ (Nat.le_max_left ..) _ hn;exact gT m _ _ _ (Nat.le_max_right ..) _ (hm y hy)
theorem zp:∀ {tb:List oM},IM k ds tb=some rs->(k,ds,rs)∈tb
 | [],h=>by cases h
 | (j,as,r)::tb,h=>by
   unfold IM at h;split at h;rename_i e;split at h;rename_i e';cases h;rw[<- mq e,<- qn (fun a b h=>GJ h) e'];exact aU ..;exact bn _ (zp h);exact bn _ (zp h)
theorem ab1(hV:V.Ok X){Y:bY}{tb:List oM}(QN:KM T Y V tb):∀d,∃n,∀k,LeY V (evY T X tb N d k) (ev T Y n k):=by
 obtain⟨m,hm⟩:=QN.fuel;intro d;induction d with
 |zero=>exact⟨0,fun k ds rs h=>by cases h⟩
 | succ d ih=>
   obtain⟨n,hn⟩:=ih;refine⟨max m (max n N)+1,fun k ds rs h=>?_⟩;unfold evY at h;split at h;rename_i r hr;cases h;exact gT m _ _ _ (by omega) _ (hm _ (zp hr));split at h;rename_i e hk;have h:=XT hV (C':=fun g=>ev T Y n (e.key g)) (fun g=>hn (e.key g)) e.tree (Ps:=[]) (Qs:=[]) (G:=fun _ _=>none) trivial (fun j ds rs h=>by cases h) h;rw[SE.rf]at h;simp only[ev,hk];exact ou (C:=fun g=>ev T Y n (e.key g)) (fun f as r hr=>gT n _ _ _ (by omega) _ hr) (by omega) vN.refl (fun _ _ _ h=>h) _ h;cases h
theorem OX(hV:V.Ok X){Y:bY}{tb:List oM}(QN:KM T Y V tb)(h:evY T X tb N d k ds=some rs):eR T Y k (ez V ds) (ez V rs):=by
 obtain⟨n,hn⟩:=ab1 hV QN (N:=N) d;exact⟨n,hn _ _ _ h⟩
def jD(T:Nat->Option ir)(X:Cx)(tb:List oM)(N d k:Nat)(ds rs:List YV):Bool:=match evY T X tb N d k ds with
 |some r=>L0 SX r rs
 |none=>false
theorem fV(hV:V.Ok X){Y:bY}{tb:List oM}(QN:KM T Y V tb)(h:jD T X tb N d k ds rs=true):eR T Y k (ez V ds) (ez V rs):=by
 unfold jD at h;split at h;rename_i r e;rw[<- qn (fun a b h=>GJ h) h];exact OX hV QN e;cases h
end
end
end Go.Sx

/- The range analysis of trees: its soundness. -/
import Derived.Test.YtohebioanhliiaaGreatDoorGA4
set_option linter.unusedVariables false
set_option linter.unusedSimpArgs false
namespace Go.Sx
def CKb:IntKind->IntKind->Bool:=fun a b=>decide (a=b)
def IE.beq:IE->IE->Bool
 |.v a,.v b=>Nat.beq a b
 |.c a,.c b=>decide (a=b)
 |.add x y,.add z w=>x.beq z&&y.beq w
 |.sub x y,.sub z w=>x.beq z&&y.beq w
 |.mul x y,.mul z w=>x.beq z&&y.beq w
 |.tdiv x y,.tdiv z w=>x.beq z&&y.beq w
 |.tmod x y,.tmod z w=>x.beq z&&y.beq w
 |.ediv a n,.ediv b m=>Nat.beq n m&&a.beq b
 |.emod a n,.emod b m=>Nat.beq n m&&a.beq b
 |.shl x y,.shl z w=>x.beq z&&y.beq w
 |.shr x y,.shr z w=>x.beq z&&y.beq w
 |.wrap k a,.wrap j b=>CKb k j&&a.beq b
 |.max x y,.max z w=>x.beq z&&y.beq w
 |.min x y,.min z w=>x.beq z&&y.beq w
 |.bits o k x y,.bits p j z w=>decide (o=p)&&(CKb k j&&(x.beq z&&y.beq w))
 |.len a,.len b=>Nat.beq a b
 |.get k i j,.get l m n=>Nat.beq k l&&(Nat.beq j n&&i.beq m)
 |.jZ i n x y,.jZ j m z w=>Nat.beq n m&&(i.beq j&&(x.beq z&&y.beq w))
 |_,_=>false
def BE.beq:BE->BE->Bool
 |.v a,.v b=>Nat.beq a b
 |.c a,.c b=>a==b
 |.lt x y,.lt z w=>x.beq z&&y.beq w
 |.le x y,.le z w=>x.beq z&&y.beq w
 |.eq x y,.eq z w=>x.beq z&&y.beq w
 |.not a,.not b=>a.beq b
 |.and x y,.and z w=>x.beq z&&y.beq w
 |.or x y,.or z w=>x.beq z&&y.beq w
 |.iff x y,.iff z w=>x.beq z&&y.beq w
 |.sP a,.sP b=>a.beq b
 |_,_=>false
inductive A where
 |i (lo hi:Int)
 |b
 |l (n0:Int) (n1:Option Int) (cs:List (Int×Int))
 |t
 deriving Inhabited
def cN:List (Int×Int)->Nat->List Int->Prop
 | [],_,_=>True
 |c::cs,j,r=>(c.1<=r.getD j 0/\r.getD j 0<=c.2)/\cN cs (j+1) r
def A.has:A->DV->Prop
 |.i lo hi,.i n=>lo<=n/\n<=hi
 |.b,.b _=>True
 |.l n0 n1 cs,.l xs=>n0<=(xs.length:Int)/\(∀y,n1=some y->(xs.length:Int)<=y)/\∀r∈xs,cN cs 0 r
 |.t,_=>True
 |_,_=>False
def qV:List A->List DV->Prop
 | [],[]=>True
 |a::as,d::ds=>a.has d/\qV as ds
 |_,_=>False
def mn:Int:=-9223372036854775808
def mx:Int:=9223372036854775807
abbrev Lf:=List (Int×IE)×Int
structure Sk where
 g:List (Nat×A)
 q:List Lf
 f:List BE
 deriving Inhabited
def look(k:Nat):List (Nat×A)->Option A
 | []=>none
 |(j,a)::r=>if Nat.beq j k then some a else look k r
def Sk.find(s:Sk)(k:Nat):Option A:=look k s.g
abbrev Rg:=Option Int×Option Int
def o2(f:Int->Int->Int):Option Int->Option Int->Option Int
 |some a,some b=>some (f a b)
 |_,_=>none
def QR(x y z w:Int):Int×Int:=(min (min x y) (min z w),max (max x y) (max z w))
def mulR(a b:Rg):Rg:=match a,b with
 |(some x,some y),(some z,some w)=>(some (QR (x*z) (x*w) (y*z) (y*w)).1,some (QR (x*z) (x*w) (y*z) (y*w)).2)
 |(some x,_),(some z,_)=>if 0<=x/\0<=z then(some (x*z),none)else(none,none)
 |_,_=>(none,none)
def sqR(a:Rg):Rg:=match a with
 |(some x,some y)=>(some (if 0<=x then x*x else if y<=0 then y*y else 0),some (max (x*x) (y*y)))
 |_=>(some 0,none)
def Of(a:Rg):Rg:=match a with
 |(some x,some y)=>(some (-(max (-x) y)),some (max (-x) y))
 |_=>(none,none)
def QS(a b:Rg):Rg:=match a,b with
 |(some x,some y),(some z,_)=>if 1<=z then(some (if 0<=x then 0 else -((-x)/z)),some (if y<=0 then 0 else y/z))else Of a
 |_,_=>Of a
def QT(a b:Rg):Rg:=match a,b with
 |(some x,some y),(some z,some w)=>if 1<=z then(some (if 0<=x then 0 else max x (1-w)),some (if y<=0 then 0 else min y (w-1)))else Of a
 |_,_=>Of a
def aar(a b:Rg):Rg:=match b with
 |(some z,some w)=>if 0<=z/\w<=128 then mulR a (some (2 ^ z.toNat),some (2 ^ w.toNat))else(none,none)
 |_=>(none,none)
def aas(a b:Rg):Rg:=match a,b with
 |(some x,some y),(some z,some w)=>if 0<=z/\w<=128 then(some (min (x/2 ^ z.toNat) (x/2 ^ w.toNat)),some (max (y/2 ^ z.toNat) (y/2 ^ w.toNat)))else(some (min x 0),some (max y 0))
 |(some x,some y),_=>(some (min x 0),some (max y 0))
 |_,_=>(none,none)
def QU(k:IntKind)(a:Rg):Rg:=match a with
 |(some x,some y)=>if k.min<=x/\y<=k.max then(some x,some y)else(some k.min,some k.max)
 |_=>(some k.min,some k.max)
def YO(a b:Rg):Rg:=(o2 min a.1 b.1,o2 max a.2 b.2)
def Sk.adK(s:Sk)(i:IE)(k:Nat)(r:Rg)(n0:Int):Bool:=(match r.1 with
 |some x=>decide (0<=x)
 |none=>false)&&((match r.2 with
 |some y=>decide (y<n0)
 |none=>false)||(match i with
 |.sub (.len j) (.c m)=>Nat.beq j k&&decide (1<=m)
 |_=>false)||s.f.any fun p=>p.beq (.lt i (.len k)))
def Wt(a b:Rg):Rg:=(o2 min a.1 b.1,match a.2,b.2 with
 |some x,some y=>some (min x y)
 |some x,none=>some x
 |none,y=>y)
def QV(a b:Rg):Rg:=((match a.1,b.1 with
 |some x,some y=>some (max x y)
 |some x,none=>some x
 |none,y=>y),o2 max a.2 b.2)
def IE.isC:IE->Option Int
 |.c n=>some n
 |_=>none
def Sk.iv(s:Sk):IE->Rg
 | .v k=>match s.find k with
   |some (.i lo hi)=>(some lo,some hi)
   |_=>(none,none)
 |.c n=>(some n,some n)
 |.add a b=>(o2 (· + ·) (s.iv a).1 (s.iv b).1,o2 (· + ·) (s.iv a).2 (s.iv b).2)
 |.sub a b=>(o2 (· - ·) (s.iv a).1 (s.iv b).2,o2 (· - ·) (s.iv a).2 (s.iv b).1)
 |.mul a b=>if a.beq b then sqR (s.iv a)else mulR (s.iv a) (s.iv b)
 |.tdiv a b=>QS (s.iv a) (s.iv b)
 |.tmod a b=>QT (s.iv a) (s.iv b)
 |.ediv a n=>if Nat.beq n 0 then(none,none)else((s.iv a).1.map (· / (n:Int)),(s.iv a).2.map (· / (n:Int)))
 | .emod a n=>if Nat.beq n 0 then(none,none)else match s.iv a with
   |(some x,some y)=>if 0<=x/\y<(n:Int)then(some x,some y)else(some 0,some ((n:Int)-1))
   |_=>(some 0,some ((n:Int)-1))
 |.shl a b=>aar (s.iv a) (s.iv b)
 |.shr a b=>aas (s.iv a) (s.iv b)
 |.wrap k a=>QU k (s.iv a)
 |.max a b=>QV (s.iv a) (s.iv b)
 |.min a b=>Wt (s.iv a) (s.iv b)
 |.bits _ k _ _=>(some k.min,some k.max)
 | .len k=>match s.find k with
   |some (.l n0 n1 _)=>(some (max n0 0),n1)
   |_=>(some 0,none)
 | .get k i j=>match s.find k with
   | some (.l n0 _ cs)=>match cs[j]? with
     |some (x,y)=>if s.adK i k (s.iv i) n0 then(some x,some y)else(some (min x 0),some (max y 0))
     |none=>(none,none)
   |_=>(none,none)
 |.jZ i n a b=>YO (s.iv a) (s.iv b)
def Og(c:Int)(e:IE):List (Int×IE)->List (Int×IE)
 | []=>[(c,e)]
 |(d,x)::r=>if e.beq x then(if d+c=0 then r else(d+c,x)::r)else(d,x)::Og c e r
def QW(c:Int)(a b:List (Int×IE)):List (Int×IE):=a.foldr (fun t r=>Og (c*t.1) t.2 r) b
def Lf.plus(c:Int)(a b:Lf):Lf:=(QW c a.1 b.1,c*a.2+b.2)
def within(k:IntKind)(a:Rg):Bool:=match a with
 |(some x,some y)=>decide (k.min<=x/\y<=k.max)
 |_=>false
def Sk.u5(s:Sk):IE->Lf
 |.c n=>([],n)
 |.add a b=>Lf.plus 1 (s.u5 a) (s.u5 b)
 |.sub a b=>Lf.plus (-1) (s.u5 b) (s.u5 a)
 | .mul a b=>match a.isC,b.isC with
   |some n,_=>Lf.plus n (s.u5 b) ([],0)
   |_,some n=>Lf.plus n (s.u5 a) ([],0)
   |_,_=>([(1,.mul a b)],0)
 |.wrap k a=>if within k (s.iv a)then s.u5 a else([(1,.wrap k a)],0)
 |e=>([(1,e)],0)
def Sk.low(s:Sk):List (Int×IE)->Option Int
 | []=>some 0
 | (c,e)::r=>match s.low r,(if 0<=c then(s.iv e).1 else(s.iv e).2)with
   |some x,some y=>some (x+c*y)
   |_,_=>none
def Sk.wU(s:Sk)(l:Lf):Bool:=match s.low l.1 with
 |some x=>decide (0<=x+l.2)
 |none=>false
def shares(a b:List (Int×IE)):Option Int:=a.findSome? fun x=>b.findSome? fun y=>if decide (0<x.1*y.1)&&x.2.beq y.2 then some ((if 1<=y.1/x.1 then y.1/x.1 else 1))else none
def Sk.fork(s:Sk)(l:Lf):List (Int×IE)->Option (Nat×Lf×Lf)
 | []=>none
 |(c,.max a b)::r=>some (if c<0 then 1 else 0,Lf.plus c (s.u5 a) (Lf.plus (-c) ([(1,.max a b)],0) l),Lf.plus c (s.u5 b) (Lf.plus (-c) ([(1,.max a b)],0) l))
 |(c,.min a b)::r=>some (if 0<c then 1 else 0,Lf.plus c (s.u5 a) (Lf.plus (-c) ([(1,.min a b)],0) l),Lf.plus c (s.u5 b) (Lf.plus (-c) ([(1,.min a b)],0) l))
 |(c,.jZ i n a b)::r=>some (2,Lf.plus c (s.u5 a) (Lf.plus (-c) ([(1,.jZ i n a b)],0) l),Lf.plus c (s.u5 b) (Lf.plus (-c) ([(1,.jZ i n a b)],0) l))
 |_::r=>s.fork l r
def Sk.by(s:Sk):Nat->Lf->Bool
 |0,l=>s.wU l
 | d+1,l=>s.wU l||(s.q.any fun h=>match shares h.1 l.1 with
   |some m=>s.by d (Lf.plus (-m) h l)
   |none=>false)||match s.fork l l.1 with
   |some (0,x,y)=>s.by d x||s.by d y
   |some (_,x,y)=>s.by d x&&s.by d y
   |none=>false
def Sk.diff(s:Sk)(a b:IE):Lf:=Lf.plus (-1) (s.u5 a) (s.u5 b)
def Sk.eQ(s:Sk)(p:BE):Bool:=s.f.any fun x=>x.beq p
mutual
def Sk.pv(s:Sk)(d:Nat):BE->Bool
 |.c x=>x||s.by d ([],-1)
 |.v k=>s.eQ (.v k)
 |.lt a b=>s.by d (Lf.plus 1 (s.diff a b) ([],-1))
 |.le a b=>s.by d (s.diff a b)
 |.eq a b=>a.beq b||(s.by d (s.diff a b)&&s.by d (s.diff b a))||s.eQ (.eq a b)
 |.not a=>s.nv d a
 |.and a b=>s.pv d a&&s.pv d b
 |.or a b=>s.pv d a||s.pv d b||s.eQ (.or a b)
 |.iff a b=>a.beq b||(s.pv d a&&s.pv d b)||(s.nv d a&&s.nv d b)||s.eQ (.iff a b)
 |.sP a=>s.by d (Lf.plus 1 (s.u5 a) ([],-1))||s.by d (Lf.plus (-1) (s.u5 a) ([],-1))||s.eQ (.sP a)
def Sk.nv(s:Sk)(d:Nat):BE->Bool
 |.c x=>!x||s.by d ([],-1)
 |.v k=>s.eQ (.not (.v k))
 |.lt a b=>s.by d (s.diff b a)
 |.le a b=>s.by d (Lf.plus 1 (s.diff b a) ([],-1))
 |.eq a b=>s.by d (Lf.plus 1 (s.diff a b) ([],-1))||s.by d (Lf.plus 1 (s.diff b a) ([],-1))||s.eQ (.not (.eq a b))
 |.not a=>s.pv d a
 |.and a b=>s.nv d a||s.nv d b||s.eQ (.not (.and a b))
 |.or a b=>s.nv d a&&s.nv d b
 |.iff a b=>(s.pv d a&&s.nv d b)||(s.nv d a&&s.pv d b)
 |.sP a=>s.by d (s.u5 a)&&s.by d (Lf.plus (-1) (s.u5 a) ([],0))
end
def FQ(k:Nat)(a:A):List (Nat×A)->List (Nat×A)
 | []=>[]
 |(j,x)::r=>if Nat.beq j k then(j,a)::r else(j,x)::FQ k a r
def cdiv(a b:Int):Int:=-((-a)/b)
def Sk.bound(s:Sk)(l:Lf)(c:Int)(e:IE):List (Nat×A):=
 match s.low ((Lf.plus (-1) l ([(c,e)],0)).1)with
 |none=>s.g
 | some nr=>
   let m:=nr+((-1)*l.2+0)
   match e with
   | .v k=>match s.find k with
     |some (.i lo hi)=>if 0<c then FQ k (.i (max lo (cdiv m c)) hi) s.g else if c<0 then FQ k (.i lo (min hi ((-m)/(-c)))) s.g else s.g
     |_=>s.g
   | .len k=>match s.find k with
     | some (.l n0 n1 cs)=>if 0<c then FQ k (.l (max n0 (cdiv m c)) n1 cs) s.g else if c<0 then FQ k (.l n0 (some (match n1 with
       |some y=>min y ((-m)/(-c))
       |none=>(-m)/(-c))) cs) s.g else s.g
     |_=>s.g
   |_=>s.g
def YP:List (Int×IE)->List (Int×IE)->Bool
 | [],[]=>true
 |x::xs,y::ys=>decide (x.1=y.1)&&(x.2.beq y.2&&YP xs ys)
 |_,_=>false
def Sk.uf(s:Sk)(l:Lf):Sk:=
 if s.wU l||s.q.any (fun h=>decide (h.2<=l.2)&&YP h.1 l.1)then s else
 let s':=l.1.foldr (fun t s=>{s with g:=s.bound l t.1 t.2}) s
 {s' with q:=l::s'.q}
def Sk.ug(s:Sk):Nat->Lf->Sk
 |0,l=>s.uf l
 | n+1,l=>match s.fork l l.1 with
   |some (1,x,y)=>Sk.ug (Sk.ug (s.uf l) n x) n y
   |_=>s.uf l
def Sk.fk(s:Sk)(l:Lf):Sk:=s.ug 2 l
def YQ(a:Rg):Bool:=match a with
 |(some x,some y)=>decide (mn<=x/\y<=mx)
 |_=>false
def leI(a:Rg)(n:Int):Bool:=match a.2 with
 |some y=>decide (y<=n)
 |none=>false
def Sk.ow(s:Sk)(a b:IE)(st:Int):Sk:=match a with
 |.wrap .u64 x=>if YQ (s.iv x)&&leI (s.iv b) (mx+st)then(s.fk (s.u5 x)).fk (Lf.plus 1 (s.diff x b) ([],-st))else s
 |_=>s
def Sk.fact(s:Sk)(p:BE):Sk:=if s.eQ p then s else {s with f:=p::s.f}
mutual
def Sk.add(s:Sk):BE->Sk
 |.c true=>s
 | .lt a b=>(match b with
   |.len k=>Sk.fact (Sk.ow (s.fk (Lf.plus 1 (s.diff a b) ([],-1))) a b 1) (.lt a b)
   |_=>Sk.ow (s.fk (Lf.plus 1 (s.diff a b) ([],-1))) a b 1)
 |.le a b=>Sk.ow (s.fk (s.diff a b)) a b 0
 |.eq a b=>(s.fk (s.diff a b)).fk (s.diff b a)
 |.not a=>s.sub a
 |.and a b=>Sk.add (Sk.add s a) b
 |.or a b=>if s.nv 1 a then s.add b else if s.nv 1 b then s.add a else s.fact (.or a b)
 |.iff a b=>if s.pv 1 a then s.add b else if s.pv 1 b then s.add a else if s.nv 1 a then s.sub b else if s.nv 1 b then s.sub a else s.fact (.iff a b)
 |p=>s.fact p
def Sk.sub(s:Sk):BE->Sk
 |.c false=>s
 |.lt a b=>Sk.ow (s.fk (s.diff b a)) b a 0
 |.le a b=>Sk.ow (s.fk (Lf.plus 1 (s.diff b a) ([],-1))) b a 1
 |.eq a b=>if s.by 1 (s.diff a b)then s.fk (Lf.plus 1 (s.diff a b) ([],-1))else if s.by 1 (s.diff b a)then s.fk (Lf.plus 1 (s.diff b a) ([],-1))else s.fact (.not (.eq a b))
 |.not a=>s.add a
 |.and a b=>if s.pv 1 a then s.sub b else if s.pv 1 b then s.sub a else s.fact (.not (.and a b))
 |.or a b=>Sk.sub (Sk.sub s a) b
 |.iff a b=>if s.pv 1 a then s.sub b else if s.pv 1 b then s.sub a else if s.nv 1 a then s.add b else if s.nv 1 b then s.add a else s.fact (.not (.iff a b))
 |.sP a=>(s.fk (s.u5 a)).fk (Lf.plus (-1) (s.u5 a) ([],0))
 |p=>s.fact (.not p)
end
def Sk.uh(s:Sk):List BE->Sk
 | []=>s
 |.or a b::r=>Sk.uh (if s.nv 1 a then s.add b else if s.nv 1 b then s.add a else s) r
 |.not (.and a b)::r=>Sk.uh (if s.pv 1 a then s.sub b else if s.pv 1 b then s.sub a else s) r
 |.iff a b::r=>Sk.uh (if s.pv 1 a then s.add b else if s.nv 1 a then s.sub b else if s.pv 1 b then s.add a else if s.nv 1 b then s.sub a else s) r
 |.not (.eq a b)::r=>Sk.uh (s.sub (.eq a b)) r
 |_::r=>Sk.uh s r
def Sk.again(s:Sk):List Lf->Sk
 | []=>s
 |l::r=>Sk.again (l.1.foldr (fun t s=>{s with g:=s.bound l t.1 t.2}) s) r
def Sk.agP(s:Sk):BE->Bool
 |.or a b=>s.pv 0 a||s.pv 0 b
 |.not (.and a b)=>s.nv 0 a||s.nv 0 b
 |.not (.eq a b)=>s.wU (Lf.plus 1 (s.diff a b) ([],-1))||s.wU (Lf.plus 1 (s.diff b a) ([],-1))
 |_=>false
def Sk.tidy(s:Sk):Sk:={s with f:=s.f.filter fun p=>!s.agP p}
def Sk.close(s:Sk):Sk:=let s':=s.uh s.f;(s'.again (s'.q.take 24)).tidy
def Sk.xP(s:Sk)(p:BE):Sk:=(s.add p).close
def Sk.pG(s:Sk)(p:BE):Sk:=(s.sub p).close
def Lf.all(p:Nat->Bool)(l:Lf):Bool:=l.1.all fun t=>t.2.all p
def Sk.fi(s:Sk)(p:Nat->Bool):Sk:=⟨s.g.filter fun x=>p x.1,s.q.filter (Lf.all p),s.f.filter (BE.all p)⟩
def jz(base n:Nat):Nat->Bool:=fun k=>Nat.blt k base||Nat.ble (base+n) k
def iD:List (Int×Int)->List (Int×Int)->List (Int×Int)
 |c::cs,d::ds=>(min c.1 d.1,max c.2 d.2)::iD cs ds
 |_,_=>[]
def QX:Option Int->Bool
 |some y=>decide (y<=0)
 |none=>false
def A.BW:A->A->A
 |.i x y,.i z w=>.i (min x z) (max y w)
 |.b,.b=>.b
 |.l x y u,.l z w v=>.l (min x z) (o2 max y w) (if QX y then v else if QX w then u else iD u v)
 |_,_=>.t
def FR:List Rg->List (Int×Int)
 |(some x,some y)::r=>(x,y)::FR r
 |_=>[]
def Sk.Ac(s:Sk):Sum IE BE->Rg
 |.inl e=>s.iv e
 |.inr _=>(some 0,some 1)
def LH:List (List (Int×Int))->List (Int×Int)
 | []=>[]
 | [c]=>c
 |c::cs=>iD c (LH cs)
def Sk.de(s:Sk):DE->A
 | .i e=>match s.iv e with
   |(some x,some y)=>.i x y
   |_=>.t
 |.b _=>.b
 | .l k=>match s.find k with
   |some (.l a b c)=>.l a b c
   |_=>.l 0 none []
 |.nil=>.l 0 (some 0) []
 |.rows es=>.l es.length (some es.length) (LH (es.map fun e=>FR [s.iv e]))
 |.vu xs=>.l 1 (some 1) (FR (xs.map s.Ac))
def BX:List (Int×Int)->List (Int×Int)->Bool
 |_,[]=>true
 |c::cs,d::ds=>decide (d.1<=c.1)&&(decide (c.2<=d.2)&&BX cs ds)
 | [],_::_=>false
def DE.QY:DE->Option IE
 |.l k=>some (.len k)
 |.nil=>some (.c 0)
 |.rows es=>some (.c es.length)
 |.vu _=>some (.c 1)
 |_=>none
def Sk.fits(s:Sk)(d:DE):A->Bool
 |.t=>true
 | .i lo hi=>match d with
   |.i e=>s.pv 2 (.le (.c lo) e)&&s.pv 2 (.le e (.c hi))
   |_=>false
 | .b=>match d with
   |.b _=>true
   |_=>false
 | .l n0 n1 cs=>match d.QY,s.de d with
   | some n,.l a b c=>(decide (n0<=a)||s.pv 3 (.le (.c n0) n))&&(match n1 with
     |none=>true
     |some y=>s.pv 3 (.le n (.c y)))&&(BX c cs||(match b with
     |some z=>decide (z<=0)
     |none=>false))
   |_,_=>false
def FT(cs:List (Int×Int))(j:Nat)(x:Rg):List (Int×Int):=match cs,j with
 | [],_=>[]
 | c::cs,0=>match x with
   |(some a,some b)=>(min c.1 a,max c.2 b)::cs
   |_=>[]
 |c::cs,j+1=>c::FT cs j x
def HT(cs:List (Int×Int))(j:Nat):List Rg->List (Int×Int)
 | []=>cs
 |x::xs=>HT (FT cs j x) (j+1) xs
def Sk.jJ(s:Sk)(k:Nat):Int×Option Int×List (Int×Int):=match s.find k with
 |some (.l a b c)=>(a,b,c)
 |_=>(0,none,[])
def yZ(x:Int×Option Int×List (Int×Int)):Bool:=match x.2.1 with
 |some y=>decide (y<=0)
 |none=>false
def y5(id:Nat):List (Sum IE BE)->Nat->List BE
 | [],_=>[]
 |.inl e::r,j=>.eq (.get id (.c 0) j) e::y5 id r (j+1)
 |.inr _::r,j=>y5 id r (j+1)
def Sk.P4(s:Sk)(id:Nat):dw->A×List BE
 | .lit rows=>(.l rows.length (some rows.length) (LH (rows.map fun r=>FR (r.map s.Ac))),match rows with
   |r::rs=>if rs.length<=1/\r.length<=2 then y5 id r 0 else []
   | []=>[])
 | .app a b=>let x:=s.jJ a;let y:=s.jJ b
   (.l (x.1+y.1) (o2 (· + ·) x.2.1 y.2.1) (if yZ x then y.2.2 else if yZ y then x.2.2 else iD x.2.2 y.2.2),.eq (.len id) (.add (.len a) (.len b))::if 1<=x.1/\x.2.2.length<=2 then(List.range x.2.2.length).map fun j=>.eq (.get id (.c 0) j) (.get a (.c 0) j)else [])
 | .set a i j x=>let y:=s.jJ a
   (.l y.1 y.2.1 (FT y.2.2 j (s.Ac x)),[.eq (.len id) (.len a)])
 | .C8 a i xs=>let y:=s.jJ a
   (.l y.1 y.2.1 (iD y.2.2 (FR (xs.map s.Ac))),[.eq (.len id) (.len a)])
 | .Da a i j xs=>let y:=s.jJ a
   (.l y.1 y.2.1 (HT y.2.2 j (xs.map s.Ac)),[.eq (.len id) (.len a)])
 | .take a n=>let y:=s.jJ a
   (.l 0 (Wt (none,y.2.1) (QV (s.iv n) (some 0,some 0))).2 y.2.2,if s.pv 2 (.le n (.len a))&&s.pv 2 (.le (.c 0) n)then [.eq (.len id) n]else [])
 |.rep n row=>(.l 0 (QV (s.iv n) (some 0,some 0)).2 (row.map fun x=>(x,x)),if s.pv 2 (.le (.c 0) n)then [.eq (.len id) n]else [])
 |.cp a=>let y:=s.jJ a;(.l y.1 y.2.1 y.2.2,[.eq (.len id) (.len a)])
 | .P2 a b=>let x:=s.jJ a;let y:=s.jJ b
   (.l x.1 x.2.1 (if yZ x then y.2.2 else if yZ y then x.2.2 else iD x.2.2 y.2.2),[.eq (.len id) (.len a)])
 | .sub a _ _ j=>(.l 0 (match(s.jJ a).2.2[j]? with
   |some c=>some (max c.2 0)
   |none=>none) [],[])
 |.Bi rows=>(.l rows.length (some rows.length) [],[])
def DE.asI:DE->Option IE
 |.i e=>some e
 |_=>none
def DE.asB:DE->Option BE
 |.b e=>some e
 |_=>none
def DE.asL:DE->Option Nat
 |.l k=>some k
 |_=>none
inductive Sb where
 |nm (k:Nat)
 |de (d:DE)
 |no
def Sb.int:Sb->Option IE
 |.nm k=>some (.v k)
 |.de d=>d.asI
 |.no=>none
def Sb.bool:Sb->Option BE
 |.nm k=>some (.v k)
 |.de d=>d.asB
 |.no=>none
def Sb.len:Sb->Option IE
 |.nm k=>some (.len k)
 |.de d=>d.QY
 |.no=>none
def Sb.list:Sb->Option Nat
 |.nm k=>some k
 |.de d=>d.asL
 |.no=>none
def Sb.cell:Sb->Option Int->Nat->Option IE
 |.de .nil,_,_=>some (.c 0)
 |.de (.rows es),some m,0=>if 0<=m then es[m.toNat]? else none
 | .de (.vu xs),some 0,j=>match xs[j]? with
   |some (.inl e)=>some e
   |_=>none
 |_,_,_=>none
def p2{α β γ:Type}(f:α->β->γ):Option α->Option β->Option γ
 |some a,some b=>some (f a b)
 |_,_=>none
def p1{α β:Type}(f:α->β):Option α->Option β
 |some a=>some (f a)
 |none=>none
def IE.put(σ:Nat->Sb):IE->Option IE
 |.v k=>(σ k).int
 |.c n=>some (.c n)
 |.add a b=>p2 .add (a.put σ) (b.put σ)
 |.sub a b=>p2 .sub (a.put σ) (b.put σ)
 |.mul a b=>p2 .mul (a.put σ) (b.put σ)
 |.tdiv a b=>p2 .tdiv (a.put σ) (b.put σ)
 |.tmod a b=>p2 .tmod (a.put σ) (b.put σ)
 |.ediv a n=>p1 (.ediv · n) (a.put σ)
 |.emod a n=>p1 (.emod · n) (a.put σ)
 |.shl a b=>p2 .shl (a.put σ) (b.put σ)
 |.shr a b=>p2 .shr (a.put σ) (b.put σ)
 |.wrap k a=>p1 (.wrap k) (a.put σ)
 |.max a b=>p2 .max (a.put σ) (b.put σ)
 |.min a b=>p2 .min (a.put σ) (b.put σ)
 |.bits o k a b=>p2 (.bits o k) (a.put σ) (b.put σ)
 |.len k=>(σ k).len
 | .get k i j=>match(σ k).cell i.isC j with
   |some e=>some e
   |none=>p2 (fun l i=>.get l i j) (σ k).list (i.put σ)
 |.jZ i n a b=>p2 (fun i x=>.jZ i n x.1 x.2) (i.put σ) (p2 Prod.mk (a.put σ) (b.put σ))
def BE.put(σ:Nat->Sb):BE->Option BE
 |.v k=>(σ k).bool
 |.c x=>some (.c x)
 |.lt a b=>p2 .lt (a.put σ) (b.put σ)
 |.le a b=>p2 .le (a.put σ) (b.put σ)
 |.eq a b=>p2 .eq (a.put σ) (b.put σ)
 |.not a=>p1 .not (a.put σ)
 |.and a b=>p2 .and (a.put σ) (b.put σ)
 |.or a b=>p2 .or (a.put σ) (b.put σ)
 |.iff a b=>p2 .iff (a.put σ) (b.put σ)
 |.sP a=>p1 .sP (a.put σ)
def R0:Nat:=1000000
structure Cn where
 args:List A
 pre:List BE
 res:List A
 post:List BE
 deriving Inhabited
structure Iv where
 as:List A
 ex:List BE
 me:IE
 deriving Inhabited
structure Lc where
 id:Nat
 base:Nat
 iv:Iv
structure An where
 loops:List (Nat×Nat×Iv)
 fC:List (List BE×BE)
 er:Int×Int:=(mn,mx)
def IE.names:IE->List Nat
 |.v k=>[k]
 |.c _=>[]
 |.add a b=>a.names++b.names
 |.sub a b=>a.names++b.names
 |.mul a b=>a.names++b.names
 |.tdiv a b=>a.names++b.names
 |.tmod a b=>a.names++b.names
 |.ediv a _=>a.names
 |.emod a _=>a.names
 |.shl a b=>a.names++b.names
 |.shr a b=>a.names++b.names
 |.wrap _ a=>a.names
 |.max a b=>a.names++b.names
 |.min a b=>a.names++b.names
 |.bits _ _ a b=>a.names++b.names
 |.len k=>[k]
 |.get k i _=>k::i.names
 |.jZ i _ a b=>i.names++a.names++b.names
def BE.names:BE->List Nat
 |.v k=>[k]
 |.c _=>[]
 |.lt a b=>a.names++b.names
 |.le a b=>a.names++b.names
 |.eq a b=>a.names++b.names
 |.not a=>a.names
 |.and a b=>a.names++b.names
 |.or a b=>a.names++b.names
 |.iff a b=>a.names++b.names
 |.sP a=>a.names
def Iv.names(v:Iv):List Nat:=v.me.names++v.ex.flatMap BE.names
abbrev Vc:=Sk×BE
def Sk.QZ(s:Sk)(d:Nat):Bool:=s.q.any fun h=>s.by d (Lf.plus (-1) h ([],-1))
def Sk.pw(s:Sk)(d:Nat):BE->Bool
 |.and a b=>s.pw d a&&s.pw d b
 |.or a b=>s.pv d (.or a b)||(s.pG a).close.pw d b
 |p=>s.pv d p||s.QZ 1
def Sk.so(s:Sk)(fC:List (List BE×BE))(p:BE):Bool:=s.pw 2 p||(fC.any fun l=>l.1.all (s.pv 3)&&(s.xP l.2).pw 3 p)||s.pw 3 p
def Sk.ask(s:Sk)(fC:List (List BE×BE))(p:BE):List Vc:=if s.so fC p then []else [(s,p)]
def bad(s:Sk):Vc:=(s,.c false)
def Sk.J0(s:Sk)(fC:List (List BE×BE))(d:DE):A->List Vc
 | .i lo hi=>match d with
   |.i e=>s.ask fC (.le (.c lo) e)++s.ask fC (.le e (.c hi))
   |_=>[bad s]
 |a=>if s.fits d a then []else [bad s]
def Sk.ui(s:Sk)(fC:List (List BE×BE)):List DE->List A->List Vc
 | [],[]=>[]
 |d::ds,a::as=>s.J0 fC d a++s.ui fC ds as
 |_,_=>[bad s]
def Sk.asks(s:Sk)(fC:List (List BE×BE))(σ:Nat->Sb)(ps:List BE):List Vc:=ps.flatMap fun p=>match p.put σ with
 |some p'=>s.ask fC p'
 |none=>[bad s]
def ql(base:Nat):List A->List (Nat×A)
 | []=>[]
 |a::as=>(base,a)::ql (base+1) as
def DC:A->A
 |.i _ _=>.i 0 0
 |.b=>.b
 |.l _ _ _=>.l 0 (some 0) []
 |.t=>.t
def sm:List CT->List A->Bool
 | [],[]=>true
 | c::cs,a::as=>(match c,a with
   |_,.t=>true
   |.c (.i _),.i _ _=>true
   |.c .f,.i _ _=>true
   |.c .b,.b=>true
   |.s _ _,.l _ _ _=>true
   |.n _ _,.l _ _ _=>true
   |_,_=>false)&&sm cs as
 |_,_=>false
def Oh(base n:Nat)(bP:List DE)(k:Nat):Sb:=if Nat.ble base k&&Nat.blt k (base+n)then(match bP[k-base]? with
 |some d=>.de d
 |none=>.no)else .nm k
def uj(args:List DE)(m base:Nat)(k:Nat):Sb:=if Nat.blt k args.length then(match args[k]? with
 |some d=>.de d
 |none=>.no)else if Nat.ble R0 k&&Nat.blt k (R0+m)then .nm (base+(k-R0))else .no
def Q0(n:Nat)(bP:List DE)(k:Nat):Sb:=if Nat.blt k n then .nm k else if Nat.ble R0 k then(match bP[k-R0]? with
 |some d=>.de d
 |none=>.no)else .no
def Sk.nC(s:Sk):List BE->Sk
 | []=>s
 |p::ps=>Sk.nC (s.xP p) ps
def free(agQ:List Nat)(base n:Nat):Bool:=agQ.all (jz base n)
def DE.off(base n:Nat):DE->Bool
 |.i e=>e.all (jz base n)
 |.b e=>e.all (jz base n)
 |.l k=>jz base n k
 |.nil=>true
 |.rows es=>es.all (IE.all (jz base n))
 |.vu xs=>xs.all (nh (jz base n))
def au.s7(K:Nat->Option Cn)(key:FuncId->Nat)(an:An)(out:Cn):au->Sk->List Lc->Nat->List Nat->List Vc
 |.ret bP,s,_,_,_=>s.ui an.fC bP out.res++s.asks an.fC (Q0 out.args.length bP) out.post
 |.stuck _,s,_,_,_=>s.ask an.fC (.c false)
 |.ev (.aL p) t,s,ls,d,pr=>if s.pv 0 p then t.s7 K key an out s ls d pr else s.ask an.fC p++t.s7 K key an out (s.xP p) ls d pr
 | .ev (.call f g args res base) t,s,ls,d,pr=>match K (key f)with
   |none=>[bad s]
   | some c=>
     let m:=c.res.length
     let s1:=s.xP g
     let vs:=s1.ui an.fC args c.args++s1.asks an.fC (uj args 0 base) c.pre
     let ok:=free pr base m&&(args.all (DE.off base m)&&(g.all (jz base m)&&(sm (bL res) c.res&&Nat.blt args.length R0)))
     let s2:=s.fi (jz base m)
     let σ:=uj args m base
     let s3:Sk:={s2 with g:=ql base (if g.beq (.c true)then c.res else c.res.map fun a=>a.BW (DC a))++s2.g}
     let s4:=s3.nC (c.post.filterMap fun p=>(p.put σ).map fun p'=>if g.beq (.c true)then p' else .or (.not g) p')
     vs++((if ok then []else [bad s])++t.s7 K key an out s4 ls d pr)
 |.ev (.cH id op) t,s,ls,d,pr=>
     let x:=s.P4 id op
     let s2:=s.fi (jz id 1)
     let s3:Sk:={s2 with g:=(id,x.1)::s2.g}
     (if free pr id 1&&op.all (jz id 1)then []else [bad s])++t.s7 K key an out (s3.nC x.2) ls d pr
 |.ev (.dB _ _) _,s,_,_,_=>[bad s]
 |.ite c a b,s,ls,d,pr=>if s.pv 1 c then a.s7 K key an out (s.xP c) ls d pr else if s.nv 1 c then b.s7 K key an out (s.pG c) ls d pr
     else a.s7 K key an out (s.xP c) ls d pr++b.s7 K key an out (s.pG c) ls d pr
 | .loop id entry _ base body,s,ls,d,pr=>match an.loops.find? fun x=>Nat.beq x.1 id&&Nat.beq x.2.1 base with
   |none=>[bad s]
   | some (_,_,v)=>
     let n:=v.as.length
     let s2:=s.fi (jz base n)
     let s3:Sk:={s2 with g:=ql base v.as++s2.g}
     s.ui an.fC entry v.as++(s.asks an.fC (Oh base n entry) v.ex++((if free pr base n then []else [bad s]) ++
       body.s7 K key an out (s3.nC v.ex) (⟨id,base,v⟩::ls) d (v.names++pr)))
 | .again id bP,s,ls,_,_=>match ls.find? fun l=>Nat.beq l.id id with
   |none=>[bad s]
   | some l=>
     let σ:=Oh l.base l.iv.as.length bP
     s.ui an.fC bP l.iv.as++(s.asks an.fC σ l.iv.ex++(s.ask an.fC (.lt (.c 0) l.iv.me)++match l.iv.me.put σ with
       |some me=>s.ask an.fC (.lt me l.iv.me)
       |none=>[bad s]))
 |.fail e,s,_,d,_=>if d=0 then [bad s]else s.ask an.fC (.le (.c an.er.1) e)++s.ask an.fC (.le e (.c an.er.2))
 |.fO x tp t,s,ls,d,pr=>
     let s2:=s.fi (jz x 1)
     (if free pr x 1 then []else [bad s])++((if an.er.2<an.er.1 then []else tp.s7 K key an out {s2 with g:=(x,.i an.er.1 an.er.2)::s2.g} ls d pr)++t.s7 K key an out s ls (d+1) pr)
 |.pop t,s,ls,d,pr=>if d=0 then [bad s]else t.s7 K key an out s ls (d-1) pr
def xQ(c:Cn):Sk:=Sk.nC {g:=ql 0 c.args,q:=[],f:=[] } c.pre
def Q1(K:Nat->Option Cn)(key:FuncId->Nat)(an:An)(out:Cn)(t:au):List Vc:=t.s7 K key an out (xQ out) [] 0 (List.range out.args.length)
end Go.Sx
namespace Go.Sx
variable{m n x y:Int}{k:Nat}{cs:List (Int×Int)}{d:DV}{z:Int}
def ckA:CK->Int×Int
 |.i k=>(k.min,k.max)
 |.b=>(0,1)
 |.f=>(0,18446744073709551615)
def ctA:CT->A
 |.c (.i k)=>.i k.min k.max
 |.c .b=>.b
 |.c .f=>.i 0 18446744073709551615
 |.s _ ks=>.l 0 none (ks.map ckA)
 |.n _ _=>.l 0 none []
def adL(s:bW):Cn:=⟨(bL s.args).map ctA,[],(bL s.res).map ctA,[]⟩
theorem y7{a b:Nat}(h:Nat.beq a b=true):a=b:=mq h
theorem IE.beq_eq:∀ {a b:IE},a.beq b=true->a=b:=by
 intro a;induction a with
 |v k=>intro b h;cases b<;>simp_all[IE.beq]<;>exact y7 h
 |c n=>intro b h;cases b<;>simp_all[IE.beq]
 |ediv a n ih=>intro b h;cases b<;>simp[IE.beq]at h;obtain⟨h1,h2⟩:=h;rw[h1,ih h2]
 |emod a n ih=>intro b h;cases b<;>simp[IE.beq]at h;obtain⟨h1,h2⟩:=h;rw[h1,ih h2]
 |wrap k a ih=>intro b h;cases b<;>simp[IE.beq,CKb]at h;obtain⟨h1,h2⟩:=h;rw[h1,ih h2]
 |bits o k x y pV qu=>intro b h;cases b<;>simp[IE.beq,CKb]at h;obtain⟨h1,h2,h3,h4⟩:=h;rw[h1,h2,pV h3,qu h4]
 |len k=>intro b h;cases b<;>simp_all[IE.beq]<;>exact y7 h
 |get k i j ih=>intro b h;cases b<;>simp[IE.beq]at h;obtain⟨h1,h2,h3⟩:=h;rw[h1,h2,ih h3]
 |jZ i n x y vp vq ZG=>intro b h;cases b<;>simp[IE.beq]at h;obtain⟨h1,h2,h3,h4⟩:=h;rw[h1,vp h2,vq h3,ZG h4]
 |_ x y pV qu=>intro b h;cases b<;>simp[IE.beq]at h;rw[pV h.1,qu h.2]
theorem BE.beq_eq:∀ {a b:BE},a.beq b=true->a=b:=by
 intro a;induction a with
 |v k=>intro b h;cases b<;>simp_all[BE.beq]<;>exact y7 h
 |c n=>intro b h;cases b<;>simp_all[BE.beq]
 |lt x y=>intro b h;cases b<;>simp[BE.beq]at h;rw[IE.beq_eq h.1,IE.beq_eq h.2]
 |le x y=>intro b h;cases b<;>simp[BE.beq]at h;rw[IE.beq_eq h.1,IE.beq_eq h.2]
 |eq x y=>intro b h;cases b<;>simp[BE.beq]at h;rw[IE.beq_eq h.1,IE.beq_eq h.2]
 |not x ih=>intro b h;cases b<;>simp[BE.beq]at h;rw[ih h]
 |sP x=>intro b h;cases b<;>simp[BE.beq]at h;rw[IE.beq_eq h]
 |_ x y pV qu=>intro b h;cases b<;>simp[BE.beq]at h;rw[pV h.1,qu h.2]
def In(r:Rg)(n:Int):Prop:=(∀x,r.1=some x->x<=n)/\(∀y,r.2=some y->n<=y)
theorem In.non:In (none,none) n:=⟨fun _ h=>(by cases h),fun _ h=>(by cases h)⟩
theorem ru:In (some x,some y) n↔x<=n/\n<=y:=⟨fun h=>⟨h.1 x rfl,h.2 y rfl⟩,fun h=>⟨fun _ e=>by cases e;exact h.1,fun _ e=>by cases e;exact h.2⟩⟩
theorem lg{f:Int->Int->Int}{a b:Option Int}(h:o2 f a b=some z):∃x y,a=some x/\b=some y/\z=f x y:=by
 cases a<;>cases b<;>simp_all[o2]
theorem aat{a b:Rg}(ha:In a m)(hb:In b n):In (o2 (· + ·) a.1 b.1,o2 (· + ·) a.2 b.2) (m+n):=by
 constructor;intro z h;obtain⟨x,y,h1,h2,rfl⟩:=lg h;have:=ha.1 x h1;have:=hb.1 y h2;show x+y<=_;omega
 intro z h;obtain⟨x,y,h1,h2,rfl⟩:=lg h;have:=ha.2 x h1;have:=hb.2 y h2;show _<=x+y;omega
theorem aau{a b:Rg}(ha:In a m)(hb:In b n):In (o2 (· - ·) a.1 b.2,o2 (· - ·) a.2 b.1) (m-n):=by
 constructor;intro z h;obtain⟨x,y,h1,h2,rfl⟩:=lg h;have:=ha.1 x h1;have:=hb.2 y h2;show x-y<=_;omega
 intro z h;obtain⟨x,y,h1,h2,rfl⟩:=lg h;have:=ha.2 x h1;have:=hb.1 y h2;show _<=x-y;omega
theorem aav{w:Int}(h1:x<=m)(h2:m<=y)(h3:z<=n)(h4:n<=w):(QR (x*z) (x*w) (y*z) (y*w)).1<=m*n/\m*n<=(QR (x*z) (x*w) (y*z) (y*w)).2:=by
 have key:∀(a b c d t:Int),a<=t->t<=b->∀k:Int,min (a*k) (b*k)<=t*k/\t*k<=max (a*k) (b*k):=by
   intro a b c d t ha hb k;rcases Int.le_total 0 k with hk|hk;have e1:=rS ha hk;have e2:=rS hb hk;omega;have e1:=Int.mul_le_mul_of_nonpos_right ha hk;have e2:=Int.mul_le_mul_of_nonpos_right hb hk;omega
 have a1:=key x y 0 0 m h1 h2 n;have a2:=key z w 0 0 n h3 h4 x;have a3:=key z w 0 0 n h3 h4 y;rw[l6 n x,l6 z x,l6 w x]at a2;rw[l6 n y,l6 z y,l6 w y]at a3;unfold QR;constructor;show min (min (x*z) (x*w)) (min (y*z) (y*w))<=_;omega;show _<=max (max (x*z) (x*w)) (max (y*z) (y*w));omega
theorem LJ{a b:Rg}(ha:In a m)(hb:In b n):In (mulR a b) (m*n):=by
 unfold mulR;split;rename_i x y z w;obtain⟨h1,h2⟩:=ru.1 ha;obtain⟨h3,h4⟩:=ru.1 hb;exact ru.2 (aav h1 h2 h3 h4);rename_i x _ z _ _;split;rename_i h;refine⟨fun t e=>?_,fun _ e=>(by cases e)⟩;cases e;have h1:=ha.1 x rfl;have h2:=hb.1 z rfl;exact De h1 h2 h.2 (by omega);exact In.non;exact In.non
theorem YR(m:Int):0<=m*m:=by
 rcases Int.le_total 0 m with h|h;exact j7 h h;exact Int.mul_nonneg_of_nonpos_of_nonpos h h
theorem aaw{a:Rg}(ha:In a m):In (sqR a) (m*m):=by
 unfold sqR;split;rename_i x y;obtain⟨h1,h2⟩:=ru.1 ha;have n0:0<=m*m:=by exact YR m
 refine ru.2 ⟨?_,?_⟩;split;rename_i h;exact De h1 h1 h (by omega);split;rename_i h' h;have:=De (show -y<=-m by omega) (show -y<=-m by omega) (by omega) (by omega);simpa[Int.neg_mul_neg]using this;exact n0;rcases Int.le_total 0 m with h|h;have:=De h2 h2 h (by omega);omega;have:=De (show -m<=-x by omega) (show -m<=-x by omega) (by omega) (by omega);simp only[Int.neg_mul_neg]at this;omega;refine⟨fun t e=>?_,fun _ e=>(by cases e)⟩;cases e;exact YR m
theorem AO{a:Rg}{t:Int}(ha:In a m)(h:t.natAbs<=m.natAbs):In (Of a) t:=by
 unfold Of;split;rename_i x y;obtain⟨h1,h2⟩:=ru.1 ha;exact ru.2 (by omega);exact In.non
theorem Q2{a b:Rg}(ha:In a m)(hb:In b n):In (QS a b) (m.tdiv n):=by
 have Q3:(m.tdiv n).natAbs<=m.natAbs:=by
   rw[Int.natAbs_tdiv];exact Nat.div_le_self _ _
 unfold QS;split;rename_i x y z _;split;rename_i hz;obtain⟨h1,h2⟩:=ru.1 ha;have h3:=hb.1 z rfl;have hn:0<n:=by omega
 have hs:n.sign=1:=Int.sign_eq_one_of_pos hn;refine ru.2 ⟨?_,?_⟩;split;rename_i hx;exact Int.tdiv_nonneg (by omega) (by omega);rcases Int.le_total 0 m with h|h;have e1:=Int.tdiv_nonneg h (show 0<=n by omega);have e2:=wo (show 0<=-x by omega) (show 0<=z by omega);omega;have e1:m.tdiv n = -((-m).tdiv n):=by rw[Int.neg_tdiv];omega
 have e2:(-m).tdiv n=(-m)/n:=As (by omega);have e3:(-m)/n<=(-x)/z:=by
   have a1:(-m)/n<=(-m)/z:=by
     refine Int.le_ediv_of_mul_le (by omega) ?_;have:=Int.ediv_mul_le (-m) (show n≠0 by omega);have q0:=wo (show 0<=-m by omega) (show 0<=n by omega);have:=rR h3 q0;omega
   have a2:=Int.ediv_le_ediv (show 0<z by omega) (show -m<=-x by omega);omega
 omega;split;rename_i hy;have e1:m.tdiv n = -((-m).tdiv n):=by rw[Int.neg_tdiv];omega
 have:=Int.tdiv_nonneg (show 0<=-m by omega) (show 0<=n by omega);omega;rcases Int.le_total 0 m with h|h;have e2:m.tdiv n=m/n:=As h;have a1:m/n<=m/z:=by
   refine Int.le_ediv_of_mul_le (by omega) ?_;have:=Int.ediv_mul_le m (show n≠0 by omega);have q0:=wo h (show 0<=n by omega);have:=rR h3 q0;omega
 have a2:=Int.ediv_le_ediv (show 0<z by omega) h2;omega;have e1:m.tdiv n = -((-m).tdiv n):=by rw[Int.neg_tdiv];omega
 have:=Int.tdiv_nonneg (show 0<=-m by omega) (show 0<=n by omega);have:=wo (show 0<=y by omega) (show 0<=z by omega);omega;exact AO ha Q3;exact AO ha Q3
theorem Q4{a b:Rg}(ha:In a m)(hb:In b n):In (QT a b) (m.tmod n):=by
 have Q3:(m.tmod n).natAbs<=m.natAbs:=by
   rw[Int.natAbs_tmod];exact Nat.mod_le _ _
 unfold QT;split;rename_i x y z w;split;rename_i hz;obtain⟨h1,h2⟩:=ru.1 ha;obtain⟨h3,h4⟩:=ru.1 hb;have cu:(m.tmod n).natAbs<n.natAbs:=by rw[Int.natAbs_tmod];exact Nat.mod_lt _ (by omega)
 have hp:0<=m->0<=m.tmod n:=fun h=>Int.tmod_nonneg n h;have hq:m<=0->m.tmod n<=0:=fun h=>by
   have:=Int.tmod_nonneg n (show 0<=-m by omega);rw[Int.neg_tmod]at this;omega
 refine ru.2 ⟨?_,?_⟩;split;exact hp (by omega);rcases Int.le_total 0 m with h|h;have:=hp h;omega;have:=hq h;omega;split;exact hq (by omega);rcases Int.le_total 0 m with h|h;have:=hp h;omega;have:=hq h;omega;exact AO ha Q3;exact AO ha Q3
theorem BY{a b:Nat}(h:a<=b):(2:Int) ^ a<=2 ^ b:=by
 have:=Nat.pow_le_pow_right (show 0<2 by omega) h;have e:∀n:Nat,(2:Int) ^ n=((2 ^ n:Nat):Int):=fun n=>by push_cast;rfl
 rw[e,e];exact_mod_cast this
theorem uk(a:Nat):(0:Int)<2 ^ a:=Int.pow_pos (by omega)
theorem Wu{a b:Rg}(ha:In a m)(hb:In b n):In (aar a b) (m*2 ^ n.toNat):=by
 unfold aar;split;rename_i z w;split;rename_i h;obtain⟨h3,h4⟩:=ru.1 hb;exact LJ ha (ru.2 ⟨BY (by omega),BY (by omega)⟩);exact In.non;exact In.non
theorem div_pow{a b:Nat}(h:a<=b):(0<=m->m/2 ^ b<=m/2 ^ a)/\(m<=0->m/2 ^ a<=m/2 ^ b):=by
 have pa:=uk a;have pb:=uk b;have pm:=BY h;constructor;intro h0;refine Int.le_ediv_of_mul_le pa ?_;have q0:=wo h0 (Int.le_of_lt pb);have:=rR pm q0;have:=Int.ediv_mul_le m (show(2:Int) ^ b≠0 by omega);omega;intro h0;refine Int.le_ediv_of_mul_le pb ?_;have q0:m/2 ^ a<=0:=Int.ediv_nonpos_of_nonpos_of_neg h0 pa;have e1:=j7 (show 0<=-(m/2 ^ a)by omega) (show 0<=(2:Int) ^ b-2 ^ a by omega);have:=Int.ediv_mul_le m (show(2:Int) ^ a≠0 by omega);have e2: -(m/2 ^ a)*((2:Int) ^ b-2 ^ a)=m/2 ^ a*2 ^ a-m/2 ^ a*2 ^ b:=by grind
 omega
theorem LK(h1:x<=m)(h2:m<=y):min x 0<=m/2 ^ k/\m/2 ^ k<=max y 0:=by
 have a:=div_pow (m:=m) (show 0<=k by omega);simp only[Int.pow_zero,Int.ediv_one]at a;have pk:=uk k;rcases Int.le_total 0 m with h|h;have:=a.1 h;have:=wo h (Int.le_of_lt pk);omega
 have:=a.2 h;have:=Int.ediv_nonpos_of_nonpos_of_neg h pk;omega
theorem Wv{a b:Rg}(ha:In a m)(hb:In b n):In (aas a b) (m/2 ^ n.toNat):=by
 unfold aas;split;rename_i x y z w;obtain⟨h1,h2⟩:=ru.1 ha;split;rename_i h;obtain⟨h3,h4⟩:=ru.1 hb;have c1:=div_pow (m:=x) (show z.toNat<=n.toNat by omega);have c2:=div_pow (m:=x) (show n.toNat<=w.toNat by omega);have c3:=div_pow (m:=y) (show z.toNat<=n.toNat by omega);have c4:=div_pow (m:=y) (show n.toNat<=w.toNat by omega);have d1:=Int.ediv_le_ediv (uk n.toNat) h1;have d2:=Int.ediv_le_ediv (uk n.toNat) h2;refine ru.2 ⟨?_,?_⟩;rcases Int.le_total 0 x with h|h;have:=c2.1 h;omega;have:=c1.2 h;omega;rcases Int.le_total 0 y with h|h;have:=c3.1 h;omega;have:=c4.2 h;omega;exact ru.2 (LK h1 h2);rename_i x y _ _ _;obtain⟨h1,h2⟩:=ru.1 ha;exact ru.2 (LK h1 h2);exact In.non
theorem fJ{k:IntKind}:k.min<=k.wrap n/\k.wrap n<=k.max:=Go.wrap_within k n
theorem FU{k:IntKind}(h:k.min<=n/\n<=k.max):k.wrap n=n:=by
 obtain⟨h1,h2⟩:=h;cases k<;>simp[IntKind.wrap,IntKind.min,IntKind.max,IntKind.signed,IntKind.bits]at * <;>omega
theorem Q5{a:Rg}{k:IntKind}(ha:In a m):In (QU k a) (k.wrap m):=by
 unfold QU;split;rename_i x y;obtain⟨h1,h2⟩:=ru.1 ha;split;rename_i h;rw[FU (by omega)];exact ru.2 ⟨h1,h2⟩;exact ru.2 fJ;exact ru.2 fJ
theorem HU{a b:Rg}(h:In a m\/In b m):In (YO a b) m:=by
 constructor;intro z e;obtain⟨x,y,h1,h2,rfl⟩:=lg e;rcases h with h|h;have:=h.1 x h1;show min x y<=_;omega;have:=h.1 y h2;show min x y<=_;omega;intro z e;obtain⟨x,y,h1,h2,rfl⟩:=lg e;rcases h with h|h;have:=h.2 x h1;show _<=max x y;omega;have:=h.2 y h2;show _<=max x y;omega
theorem LL{a b:Rg}(ha:In a m)(hb:In b n):In (Wt a b) (min m n):=by
 obtain⟨a1,a2⟩:=a;obtain⟨b1,b2⟩:=b;constructor;intro z e;obtain⟨x,y,h1,h2,rfl⟩:=lg e;have:=ha.1 x h1;have:=hb.1 y h2;show min x y<=_;omega
 intro z e;simp only[Wt]at e;split at e;cases e;have:=ha.2 _ rfl;have:=hb.2 _ rfl;omega
 cases e;have:=ha.2 _ rfl;omega
 have:=hb.2 _ e;omega
theorem FV{a b:Rg}(ha:In a m)(hb:In b n):In (QV a b) (max m n):=by
 obtain⟨a1,a2⟩:=a;obtain⟨b1,b2⟩:=b;constructor;intro z e;simp only[QV]at e;split at e;cases e;have:=ha.1 _ rfl;have:=hb.1 _ rfl;omega
 cases e;have:=ha.1 _ rfl;omega
 have:=hb.1 _ e;omega;intro z e;obtain⟨x,y,h1,h2,rfl⟩:=lg e;have:=ha.2 x h1;have:=hb.2 y h2;show _<=max x y;omega
def qm(ae:aH):List (Int×IE)->Int
 | []=>0
 |(c,e)::r=>c*e.af ae+qm ae r
def Lf.af(ae:aH)(l:Lf):Int:=qm ae l.1+l.2
structure Sk.ok(s:Sk)(ae:aH):Prop where
 g:∀p∈s.g,p.2.has (ae p.1)
 q:∀l∈s.q,0<=Lf.af ae l
 f:∀p∈s.f,p.af ae=true
theorem Q6{a:A}:∀ {g:List (Nat×A)},look k g=some a->(k,a)∈g:=by
 intro g;induction g with
 |nil=>intro h;cases h
 | cons x g ih=>
   intro h;obtain⟨j,y⟩:=x;unfold look at h;split at h;rename_i e;cases h;rw[y7 e];exact aU ..;exact bn _ (ih h)
variable {s:Sk}{ae:aH}
theorem Sk.ok.find(h:s.ok ae){a:A}(e:s.find k=some a):a.has (ae k):=h.g _ (Q6 e)
theorem LM{lo hi:Int}(h:(A.i lo hi).has d):∃n,d = .i n/\lo<=n/\n<=hi:=by
 cases d with
 |i n=>exact⟨n,rfl,h⟩
 |b x=>exact h.elim
 |l xs=>exact h.elim
theorem BZ{a:Int}{b:Option Int}(h:(A.l a b cs).has d):∃xs,d = .l xs/\a<=(xs.length:Int)/\(∀y,b=some y->(xs.length:Int)<=y)/\∀r∈xs,cN cs 0 r:=by
 cases d with
 |i n=>exact h.elim
 |b x=>exact h.elim
 |l xs=>exact⟨xs,rfl,h⟩
theorem J1:∀ {cs:List (Int×Int)} {m j:Nat} {r:List Int},cN cs m r->cs[j]?=some (x,y)->x<=r.getD (m+j) 0/\r.getD (m+j) 0<=y:=by
 intro cs;induction cs with
 |nil=>intro m j r _ h;simp at h
 | cons c cs ih=>
   intro m j r hr h;cases j with
   |zero=>simp only[kB,ah]at h;subst h;exact hr.1
   | succ j=>
     simp only[A1]at h;have:=ih hr.2 h;rwa[show m+1+j=m+(j+1)by omega]at this
theorem jd(h:s.ok ae){p:BE}(e:s.eQ p=true):p.af ae=true:=by
 simp only[Sk.eQ,mr]at e;obtain⟨x,hx,e⟩:=e;rw[<- BE.beq_eq e];exact h.f x hx
theorem LN{xs:List (List Int)}{j:Nat}{i:Int}(hr:∀r∈xs,cN cs 0 r)(hc:cs[j]?=some (x,y)):(0<=i/\i<(xs.length:Int)->x<=cellAt xs i j/\cellAt xs i j<=y)/\(min x 0<=cellAt xs i j/\cellAt xs i j<=max y 0):=by
 have key:i.toNat<xs.length->x<=cellAt xs i j/\cellAt xs i j<=y:=by
   intro h;have hm:xs.getD i.toNat []∈xs:=by
     rw[cT,eT h];exact List.getElem_mem h
   have:=J1 (hr _ hm) hc;rw[gK]at this;exact this
 refine⟨fun h=>key (by omega),?_⟩;by_cases h:i.toNat<xs.length;have:=key h;omega;have:cellAt xs i j=0:=by
   unfold cellAt;have e:xs.getD i.toNat []=[]:=by rw[cT,th (Nat.le_of_not_lt h)];rfl
   rw[e];simp
 omega
theorem xR(h:s.ok ae):∀e:IE,In (s.iv e) (e.af ae):=by
 intro e;induction e with
 | v k=>
   simp only[Sk.iv,IE.af];split;rename_i lo hi e;obtain⟨n,hn,h1,h2⟩:=LM (h.find e);rw[hn];exact ru.2 ⟨h1,h2⟩;exact In.non
 |c n=>exact ru.2 ⟨Int.le_refl _,Int.le_refl _⟩
 |add a b fb fB=>exact aat fb fB
 |sub a b fb fB=>exact aau fb fB
 | mul a b fb fB=>
   simp only[Sk.iv,IE.af];split;rename_i e;rw[<- IE.beq_eq e];exact aaw fb;exact LJ fb fB
 |tdiv a b fb fB=>exact Q2 fb fB
 |tmod a b fb fB=>exact Q4 fb fB
 | ediv a n fb=>
   simp only[Sk.iv,IE.af];split;exact In.non;rename_i hn;have po:n≠0:=fun e=>hn (by rw[e];rfl);have hp:(0:Int)<n:=by omega
   constructor;intro z e;simp only[bH]at e;obtain⟨x,hx,rfl⟩:=e;exact Int.ediv_le_ediv hp (fb.1 x hx);intro z e;simp only[bH]at e;obtain⟨x,hx,rfl⟩:=e;exact Int.ediv_le_ediv hp (fb.2 x hx)
 | emod a n fb=>
   simp only[Sk.iv,IE.af];split;exact In.non;rename_i hn;have po:n≠0:=fun e=>hn (by rw[e];rfl);have h1:=Aj (a.af ae) (show(n:Int)≠0 by omega);have h2:=yQ (a.af ae) (show(0:Int)<n by omega);split;rename_i x y e;rw[e]at fb;obtain⟨i1,i2⟩:=ru.1 fb;split;rename_i hc;rw[Int.emod_eq_of_lt (by omega) (by omega)];exact fb;exact ru.2 ⟨h1,by omega⟩;exact ru.2 ⟨h1,by omega⟩
 |shl a b fb fB=>exact Wu fb fB
 |shr a b fb fB=>exact Wv fb fB
 |wrap k a fb=>exact Q5 fb
 |max a b fb fB=>exact FV fb fB
 |min a b fb fB=>exact LL fb fB
 |bits op k a b fb fB=>exact ru.2 (Go.bits_within op k _ _)
 | len k=>
   simp only[Sk.iv,IE.af];split;rename_i n0 n1 cs e;obtain⟨xs,hx,h1,h2,_⟩:=BZ (h.find e);rw[hx];refine⟨fun z e=>?_,fun z e=>h2 z e⟩;cases e;show max n0 0<=(xs.length:Int);omega;refine⟨fun z e=>?_,fun _ e=>(by cases e)⟩;cases e;omega
 | get k i j ih=>
   simp only[Sk.iv,IE.af];split;rename_i n0 n1 cs e;obtain⟨xs,hx,h1,h2,h3⟩:=BZ (h.find e);rw[hx];split;rename_i x y hc;have key:=LN (i:=i.af ae) h3 hc;split;rename_i gR;refine ru.2 (key.1 ?_);simp only[Sk.adK,ao,ig]at gR;obtain⟨g1,g2⟩:=gR;have z0:0<=i.af ae:=by
     split at g1;rename_i x hx';have:=ih.1 x hx';simp only[aM]at g1;omega;cases g1
   refine⟨z0,?_⟩;rcases g2 with(g2|g2)|g2;split at g2;rename_i y hy;have:=ih.2 y hy;simp only[aM]at g2;omega;cases g2;split at g2;rename_i l m;simp only[ao,aM]at g2;have:=y7 g2.1;subst this;simp only[IE.af,hx,DV.list];omega;cases g2;simp only[mr]at g2;obtain⟨p,hp,e⟩:=g2;have:=h.f p hp;rw[BE.beq_eq e]at this;simpa[BE.af,IE.af,hx,DV.list]using this;exact ru.2 key.2;exact In.non;exact In.non
 | jZ i n a b ihi fb fB=>
   simp only[Sk.iv,IE.af];split;exact HU (.inl fb);exact HU (.inr fB)
end Go.Sx
namespace Go.Sx
section
variable {s:Sk}{ae:aH}
variable{d:Nat}{c:Int}{l:Lf}{n:Int}{e:IE}{m:Int}{k:Nat}
theorem Q7:∀ {l:List (Int×IE)},qm ae (Og c e l)=c*e.af ae+qm ae l:=by
 intro l;induction l with
 |nil=>simp[Og,qm]
 | cons x r ih=>
   obtain⟨d,x⟩:=x;unfold Og;split;rename_i h;have:=IE.beq_eq h;subst this;split;rename_i h0;have e1:d = -c:=by omega
   subst e1;simp only[qm];grind;simp only[qm];grind;simp only[qm,ih];omega
theorem Q8{b:List (Int×IE)}:∀ {a:List (Int×IE)},qm ae (QW c a b)=c*qm ae a+qm ae b:=by
 intro a;induction a with
 |nil=>simp[QW,qm]
 | cons x r ih=>
   have:QW c (x::r) b=Og (c*x.1) x.2 (QW c r b):=rfl;rw[this,Q7,ih];obtain⟨d,e⟩:=x;simp only[qm];grind
theorem Lf.dN{a b:Lf}:(Lf.plus c a b).af ae=c*a.af ae+b.af ae:=by
 simp only[Lf.af,Lf.plus,Q8];grind
theorem ox:Lf.af ae ([(c,e)],n)=c*e.af ae+n:=by simp[Lf.af,qm]
theorem fT:Lf.af ae ([],n)=n:=by simp[Lf.af,qm]
theorem FW(h:e.isC=some n):e.af ae=n:=by
 cases e<;>simp_all[IE.isC,IE.af]
theorem jW(h:s.ok ae):∀e:IE,(s.u5 e).af ae=e.af ae:=by
 intro e;induction e with
 |c n=>exact fT
 |add a b fb fB=>simp only[Sk.u5,Lf.dN,fb,fB,IE.af];omega
 |sub a b fb fB=>simp only[Sk.u5,Lf.dN,fb,fB,IE.af];omega
 | mul a b fb fB=>
   simp only[Sk.u5,IE.af];split;rename_i hn;rw[Lf.dN,fB,fT,FW hn];omega;rename_i hn _;rw[Lf.dN,fb,fT,FW hn,l6];omega;rw[ox];simp[IE.af]
 | wrap k a fb=>
   simp only[Sk.u5,IE.af];split;rename_i hw;rw[fb];have:=xR h a;unfold within at hw;split at hw;rename_i x y e;rw[e]at this;obtain⟨h1,h2⟩:=ru.1 this;simp only[aM]at hw;rw[FU (by omega)];cases hw;rw[ox];simp[IE.af]
 |_=>simp only[Sk.u5];rw[ox];simp
theorem Q9(h:s.ok ae):∀ {l:List (Int×IE)} {x:Int},s.low l=some x->x<=qm ae l:=by
 intro l;induction l with
 |nil=>intro x e;cases e;exact Int.le_refl _
 | cons t r ih=>
   intro x e;obtain⟨c,t⟩:=t;simp only[Sk.low]at e;split at e;rename_i a b ha hb;cases e;have h1:=ih ha;have h2:=xR h t;have:c*b<=c*t.af ae:=by
     split at hb;exact rR (h2.1 b hb) (by assumption);exact Int.mul_le_mul_of_nonpos_left (by omega) (h2.2 b hb)
   simp only[qm];omega;cases e
theorem B0(h:s.ok ae)(e:s.wU l=true):0<=l.af ae:=by
 unfold Sk.wU at e;split at e;rename_i x hx;have:=Q9 h hx;simp only[aM]at e;unfold Lf.af;omega;cases e
theorem B2(h:s.ok ae):∀ {ts:List (Int×IE)} {o:Nat} {x y:Lf},s.fork l ts=some (o,x,y)->
   (o=1->0<=l.af ae->0<=x.af ae/\0<=y.af ae)/\(0<=x.af ae/\0<=y.af ae->0<=l.af ae)/\(o=0->0<=x.af ae\/0<=y.af ae->0<=l.af ae):=by
 intro ts;induction ts with
 |nil=>intro o x y e;cases e
 | cons t r ih=>
   intro o x y e;obtain⟨c,t⟩:=t;cases t with
   | max a b=>
     simp only[Sk.fork,ah,aA]at e;obtain⟨rfl,rfl,rfl⟩:=e;simp only[Lf.dN,jW h,ox,IE.af];generalize a.af ae=A;generalize b.af ae=B;generalize l.af ae=L;have m1:A<=max A B:=by omega
     have m2:B<=max A B:=by omega
     have m3:max A B=A\/max A B=B:=by omega
     generalize max A B=M at *;simp only[Int.neg_mul,Int.one_mul,Int.add_zero];refine⟨fun hc=>?_,?_,fun hc=>?_⟩
     . have hc:c<0:=by revert hc;split<;>simp_all
       have e1:=Int.mul_le_mul_of_nonpos_left (show c<=0 by omega) m1;have e2:=Int.mul_le_mul_of_nonpos_left (show c<=0 by omega) m2;intro h0;constructor<;>omega
     rintro⟨h1,h2⟩;rcases m3 with rfl|rfl<;>omega
     . have hc:0<=c:=by revert hc;split<;>simp_all
       have e1:=rR m1 hc;have e2:=rR m2 hc;intro h1;rcases h1 with h1|h1<;>omega
   | min a b=>
     simp only[Sk.fork,ah,aA]at e;obtain⟨rfl,rfl,rfl⟩:=e;simp only[Lf.dN,jW h,ox,IE.af];generalize a.af ae=A;generalize b.af ae=B;generalize l.af ae=L;have m1:min A B<=A:=by omega
     have m2:min A B<=B:=by omega
     have m3:min A B=A\/min A B=B:=by omega
     generalize min A B=M at *;simp only[Int.neg_mul,Int.one_mul,Int.add_zero];refine⟨fun hc=>?_,?_,fun hc=>?_⟩
     . have hc:0<c:=by revert hc;split<;>simp_all
       have e1:=rR m1 (show 0<=c by omega);have e2:=rR m2 (show 0<=c by omega);intro h0;constructor<;>omega
     rintro⟨h1,h2⟩;rcases m3 with rfl|rfl<;>omega
     . have hc:c<=0:=by revert hc;split<;>simp_all
       have e1:=Int.mul_le_mul_of_nonpos_left hc m1;have e2:=Int.mul_le_mul_of_nonpos_left hc m2;intro h1;rcases h1 with h1|h1<;>omega
   | jZ i n a b=>
     simp only[Sk.fork,ah,aA]at e;obtain⟨rfl,rfl,rfl⟩:=e;simp only[Lf.dN,jW h,ox,IE.af,Int.neg_mul,Int.one_mul,Int.add_zero];refine⟨fun hc=>(by cases hc),?_,fun hc=>(by cases hc)⟩;rintro⟨h1,h2⟩;split at h1<;>split at h2<;>first|omega|contradiction
   |_=>exact ih (by simpa only[Sk.fork]using e)
theorem J2{a b:List (Int×IE)}(h:shares a b=some m):1<=m:=by
 unfold shares at h;obtain⟨x,_,h⟩:=List.exists_of_findSome?_eq_some h;obtain⟨y,_,h⟩:=List.exists_of_findSome?_eq_some h;split at h;simp only[ah]at h;subst h;split<;>omega;cases h
theorem um(h:s.ok ae):∀ {d:Nat} {l:Lf},s.by d l=true->0<=l.af ae:=by
 intro d;induction d with
 |zero=>intro l e;exact B0 h e
 | succ d ih=>
   intro l e;simp only[Sk.by,ig]at e;rcases e with(e|e)|e;exact B0 h e;simp only[mr]at e;obtain⟨f,hf,e⟩:=e;split at e;rename_i m hm;have h1:=ih e;have h2:=h.q f hf;have h3:=J2 hm;rw[Lf.dN]at h1;have:=j7 (show 0<=m by omega) h2;rw[Int.neg_mul]at h1;omega;cases e;split at e;rename_i x y hx;simp only[ig]at e;exact(B2 h hx).2.2 rfl (e.imp ih ih);rename_i x y _ hx;simp only[ao]at e;exact(B2 h hx).2.1 ⟨ih e.1,ih e.2⟩;cases e
theorem je(h:s.ok ae)(a b:IE):(s.diff a b).af ae=b.af ae-a.af ae:=by
 unfold Sk.diff;rw[Lf.dN,jW h,jW h];omega
theorem byD(h:s.ok ae){a b:IE}(e:s.by d (s.diff a b)=true):a.af ae<=b.af ae:=by
 have:=um h e;rw[je h]at this;omega
theorem Ww(h:s.ok ae){a b:IE}(e:s.by d (Lf.plus 1 (s.diff a b) ([],-1))=true):a.af ae<b.af ae:=by
 have:=um h e;rw[Lf.dN,je h,fT]at this;omega
theorem YS(h:s.ok ae)(e:s.by d ([],-1)=true):False:=by
 have:=um h e;rw[fT]at this;omega
theorem byP(h:s.ok ae){a:IE}(e:s.by d (Lf.plus 1 (s.u5 a) ([],-1))=true):0<a.af ae:=by
 have:=um h e;rw[Lf.dN,jW h,fT]at this;omega
theorem byN(h:s.ok ae){a:IE}(e:s.by d (Lf.plus (-1) (s.u5 a) ([],-1))=true):a.af ae<0:=by
 have:=um h e;rw[Lf.dN,jW h,fT]at this;omega
theorem by0(h:s.ok ae){a:IE}(e:s.by d (s.u5 a)=true):0<=a.af ae:=by
 have:=um h e;rwa[jW h]at this
theorem agR(h:s.ok ae){a:IE}(e:s.by d (Lf.plus (-1) (s.u5 a) ([],0))=true):a.af ae<=0:=by
 have:=um h e;rw[Lf.dN,jW h,fT]at this;omega
theorem pnv(h:s.ok ae):∀p:BE,(s.pv d p=true->p.af ae=true)/\(s.nv d p=true->p.af ae=false):=by
 intro p;induction p with
 | v k=>
   refine⟨fun e=>jd h (by simpa only[Sk.pv]using e),fun e=>?_⟩;have:=jd h (p:=.not (.v k)) (by simpa only[Sk.nv]using e);simpa[BE.af]using this
 | c x=>
   constructor;intro e;simp only[Sk.pv,ig]at e;rcases e with e|e;exact e;exact(YS h e).elim;intro e;simp only[Sk.nv,ig,nQ]at e;rcases e with e|e;exact e;exact(YS h e).elim
 | lt a b=>
   constructor;intro e;simp only[Sk.pv]at e;simpa[BE.af]using Ww h e;intro e;simp only[Sk.nv]at e;simpa[BE.af]using byD h e
 | le a b=>
   constructor;intro e;simp only[Sk.pv]at e;simpa[BE.af]using byD h e;intro e;simp only[Sk.nv]at e;simpa[BE.af]using Ww h e
 | eq a b=>
   constructor;intro e;simp only[Sk.pv,ig,ao]at e;rcases e with(e|e)|e;simp[BE.af,IE.beq_eq e];have h1:=byD h e.1;have h2:=byD h e.2
   simp only[BE.af,aM];omega;exact jd h e;intro e;simp only[Sk.nv,ig]at e;rcases e with(e|e)|e;have:=Ww h e;simp only[BE.af,Le];omega;have:=Ww h e;simp only[BE.af,Le];omega;have:=jd h e;simpa[BE.af]using this
 | not a ih=>
   constructor;intro e;simp only[Sk.pv]at e;simp[BE.af,ih.2 e];intro e;simp only[Sk.nv]at e;simp[BE.af,ih.1 e]
 | and a b fb fB=>
   constructor;intro e;simp only[Sk.pv,ao]at e;simp[BE.af,fb.1 e.1,fB.1 e.2];intro e;simp only[Sk.nv,ig]at e;rcases e with(e|e)|e;simp[BE.af,fb.2 e];simp[BE.af,fB.2 e];have:=jd h e;simpa only[BE.af,nQ]using this
 | or a b fb fB=>
   constructor;intro e;simp only[Sk.pv,ig]at e;rcases e with(e|e)|e;simp[BE.af,fb.1 e];simp[BE.af,fB.1 e];exact jd h e;intro e;simp only[Sk.nv,ao]at e;simp[BE.af,fb.2 e.1,fB.2 e.2]
 | iff a b fb fB=>
   constructor;intro e;simp only[Sk.pv,ig,ao]at e;rcases e with((e|e)|e)|e;simp[BE.af,BE.beq_eq e];simp[BE.af,fb.1 e.1,fB.1 e.2];simp[BE.af,fb.2 e.1,fB.2 e.2];exact jd h e;intro e;simp only[Sk.nv,ig,ao]at e;rcases e with e|e;simp[BE.af,fb.1 e.1,fB.2 e.2];simp[BE.af,fb.2 e.1,fB.1 e.2]
 | sP a=>
   constructor;intro e;simp only[Sk.pv,ig]at e;rcases e with(e|e)|e;have:=byP h e;simp only[BE.af,aM];omega;have:=byN h e;simp only[BE.af,aM];omega;exact jd h e;intro e;simp only[Sk.nv,ao]at e;have h1:=by0 h e.1;have h2:=agR h e.2
   simp only[BE.af,Le];omega
theorem gj(h:s.ok ae){p:BE}(e:s.pv d p=true):p.af ae=true:=(pnv h p).1 e
theorem oy(h:s.ok ae){p:BE}(e:s.nv d p=true):p.af ae=false:=(pnv h p).2 e
theorem Q'{a:A}{p:Nat×A}:∀ {g:List (Nat×A)},p∈FQ k a g->p∈g\/p=(k,a):=by
 intro g;induction g with
 |nil=>intro h;simp[FQ]at h
 | cons x g ih=>
   intro h;obtain⟨j,y⟩:=x;unfold FQ at h;split at h;rename_i e;rcases bF.1 h with rfl|h;right;rw[y7 e];left;exact bn _ h;rcases bF.1 h with rfl|h;left;exact aU ..;rcases ih h with h|h;left;exact bn _ h;right;exact h
theorem Sk.ok.put(h:s.ok ae){a:A}(ha:a.has (ae k)):∀p∈FQ k a s.g,p.2.has (ae p.1):=by
 intro p hp;rcases Q' hp with hp|rfl;exact h.g p hp;exact ha
theorem cdiv_le(hc:0<c)(h:m<=c*n):cdiv m c<=n:=by
 unfold cdiv;have: -n<=(-m)/c:=Int.le_ediv_of_mul_le hc (by rw[Int.neg_mul,l6];omega);omega
theorem LO(hc:c<0)(h:m<=c*n):n<=(-m)/(-c):=
 Int.le_ediv_of_mul_le (by omega) (by rw[Int.mul_neg,l6];omega)
theorem Ra(h:s.ok ae)(hl:0<=l.af ae):∀p∈s.bound l c e,p.2.has (ae p.1):=by
 unfold Sk.bound;split;exact h.g;rename_i nr hn;have h1:=Q9 h hn;have h2:Lf.af ae (Lf.plus (-1) l ([(c,e)],0))=(-1)*l.af ae+(c*e.af ae+0):=by rw[Lf.dN,ox]
 have h3:Lf.af ae (Lf.plus (-1) l ([(c,e)],0))=qm ae (Lf.plus (-1) l ([(c,e)],0)).1+((-1)*l.2+0):=rfl;have hm:nr+((-1)*l.2+0)<=c*e.af ae:=by omega
 generalize hmm:nr+((-1)*l.2+0)=m at hm;simp only[hmm];split;rename_i k;split;rename_i lo hi hf;obtain⟨n,hn,g1,g2⟩:=LM (h.find hf);simp only[IE.af,hn,DV.int]at hm;split;rename_i hc;refine h.put ?_;rw[hn];have:=cdiv_le hc hm;exact⟨by omega,g2⟩;split;rename_i hc;refine h.put ?_;rw[hn];have:=LO hc hm;exact⟨g1,by omega⟩;exact h.g;exact h.g;rename_i k;split;rename_i n0 n1 cs hf;obtain⟨xs,hx,g1,g2,g3⟩:=BZ (h.find hf);simp only[IE.af,hx,DV.list]at hm;split;rename_i hc;refine h.put ?_;rw[hx];have:=cdiv_le hc hm;exact⟨by omega,g2,g3⟩;split;rename_i hc;refine h.put ?_;rw[hx];have:=LO hc hm;refine⟨g1,fun y e=>?_,g3⟩;split at e;rename_i z;have:=g2 _ rfl;simp only[ah]at e;omega;simp only[ah]at e;omega;exact h.g;exact h.g;exact h.g
theorem u6(h:s.ok ae)(hl:0<=l.af ae):∀ts:List (Int×IE),(ts.foldr (fun t (s:Sk)=>{s with g:=s.bound l t.1 t.2}) s).ok ae:=by
 intro ts;induction ts with
 |nil=>exact h
 |cons t ts ih=>exact⟨Ra ih hl,ih.q,ih.f⟩
theorem uo(h:s.ok ae)(hl:0<=l.af ae):(s.uf l).ok ae:=by
 unfold Sk.uf;split;exact h;have k:=u6 h hl l.1;refine⟨k.g,fun x hx=>?_,k.f⟩;rcases bF.1 hx with rfl|hx;exact hl;exact k.q x hx
theorem HV:∀ {n:Nat} {s:Sk} {l:Lf},s.ok ae->0<=l.af ae->(s.ug n l).ok ae:=by
 intro n;induction n with
 |zero=>intro s l h hl;exact uo h hl
 | succ n ih=>
   intro s l h hl;simp only[Sk.ug];split;rename_i x y hx;obtain⟨h1,h2⟩:=(B2 h hx).1 rfl hl;exact ih (ih (uo h hl) h1) h2;exact uo h hl
theorem fy(h:s.ok ae)(hl:0<=l.af ae):(s.fk l).ok ae:=HV h hl
theorem nD(h:s.ok ae){p:BE}(hp:p.af ae=true):(s.fact p).ok ae:=by
 unfold Sk.fact;split;exact h;refine⟨h.g,h.q,fun x hx=>?_⟩;rcases bF.1 hx with rfl|hx;exact hp;exact h.f x hx
theorem pH(h:s.ok ae){a b:IE}{st:Int}(hs:a.af ae+st<=b.af ae)(h0:0<=st)(h1:st<=1):(Sk.ow s a b st).ok ae:=by
 unfold Sk.ow;split;rename_i x;split;rename_i hc;simp only[ao]at hc;have hx:=xR h x;have hb:=xR h b;have e1:mn<=x.af ae/\x.af ae<=mx:=by
   have:=hc.1;unfold YQ at this;split at this;rename_i u v e;rw[e]at hx;obtain⟨g1,g2⟩:=ru.1 hx;simp only[aM]at this;omega;cases this
 have e2:b.af ae<=mx+st:=by
   have:=hc.2;unfold leI at this;split at this;rename_i y e;have:=hb.2 y e;rename_i adM;simp only[aM]at adM;omega;cases this
 have e3:IntKind.u64.wrap (x.af ae)<=mx:=by simp only[IE.af]at hs;omega
 have e4:0<=x.af ae/\IntKind.u64.wrap (x.af ae)=x.af ae:=by
   have:IntKind.u64.wrap (x.af ae)=x.af ae%18446744073709551616:=by simp[IntKind.wrap,IntKind.signed,IntKind.bits]
   unfold mn mx at *;omega
 have k1:(s.fk (s.u5 x)).ok ae:=fy h (by rw[jW h];exact e4.1);refine fy k1 ?_;rw[Lf.dN,je h,fT];simp only[IE.af]at hs;omega;exact h;exact h
theorem LP:∀(p:BE) {s:Sk},s.ok ae->(p.af ae=true->(s.add p).ok ae)/\(p.af ae=false->(s.sub p).ok ae):=by
 intro p;induction p with
 |v k=>intro s h;exact⟨fun e=>by simpa only[Sk.add]using nD h e,fun e=>by simpa only[Sk.sub]using nD h (p:=.not (.v k)) (by simpa[BE.af]using e)⟩
 | c x=>
   intro s h;cases x;exact⟨fun e=>(by cases e),fun _=>(by simpa only[Sk.sub]using h)⟩;exact⟨fun _=>(by simpa only[Sk.add]using h),fun e=>(by cases e)⟩
 | lt a b=>
   intro s h;constructor;intro e;have e':a.af ae<b.af ae:=by simpa[BE.af]using e
   have k1:(s.fk (Lf.plus 1 (s.diff a b) ([],-1))).ok ae:=fy h (by rw[Lf.dN,je h,fT];omega);have k2:=pH k1 (a:=a) (b:=b) (st:=1) (by omega) (by omega) (by omega);simp only[Sk.add];split;exact nD k2 e;exact k2;intro e;have e':b.af ae<=a.af ae:=by simpa[BE.af]using e
   have k1:(s.fk (s.diff b a)).ok ae:=fy h (by rw[je h];omega);simpa only[Sk.sub]using pH k1 (a:=b) (b:=a) (st:=0) (by omega) (by omega) (by omega)
 | le a b=>
   intro s h;constructor;intro e;have e':a.af ae<=b.af ae:=by simpa[BE.af]using e
   have k1:(s.fk (s.diff a b)).ok ae:=fy h (by rw[je h];omega);simpa only[Sk.add]using pH k1 (a:=a) (b:=b) (st:=0) (by omega) (by omega) (by omega);intro e;have e':b.af ae<a.af ae:=by simpa[BE.af]using e
   have k1:(s.fk (Lf.plus 1 (s.diff b a) ([],-1))).ok ae:=fy h (by rw[Lf.dN,je h,fT];omega);simpa only[Sk.sub]using pH k1 (a:=b) (b:=a) (st:=1) (by omega) (by omega) (by omega)
 | eq a b=>
   intro s h;constructor;intro e;have e':a.af ae=b.af ae:=by simpa[BE.af]using e
   have k1:(s.fk (s.diff a b)).ok ae:=fy h (by rw[je h];omega);simp only[Sk.add];exact fy k1 (by rw[je h];omega);intro e;have e':a.af ae≠b.af ae:=by simpa[BE.af]using e
   simp only[Sk.sub];split;rename_i hb;have:=byD h hb;exact fy h (by rw[Lf.dN,je h,fT];omega);split;rename_i hb;have:=byD h hb;exact fy h (by rw[Lf.dN,je h,fT];omega);exact nD h (by simpa[BE.af]using e)
 | not a ih=>
   intro s h;constructor;intro e;simp only[Sk.add];exact(ih h).2 (by simpa[BE.af]using e);intro e;simp only[Sk.sub];exact(ih h).1 (by simpa[BE.af]using e)
 | and a b fb fB=>
   intro s h;constructor;intro e;simp only[BE.af,ao]at e;simp only[Sk.add];exact(fB ((fb h).1 e.1)).1 e.2;intro e;simp only[Sk.sub];have e':=e;simp only[BE.af]at e;split;rename_i hp;rw[gj h hp,Bool.true_and]at e;exact(fB h).2 e;split;rename_i hp;rw[gj h hp,Bool.and_true]at e;exact(fb h).2 e;exact nD h (by simp only[BE.af,e,Bool.not_false])
 | or a b fb fB=>
   intro s h;constructor;intro e;simp only[Sk.add];have e':=e;simp only[BE.af]at e;split;rename_i hp;rw[oy h hp,Bool.false_or]at e;exact(fB h).1 e;split;rename_i hp;rw[oy h hp,Bool.or_false]at e;exact(fb h).1 e;exact nD h e';intro e;simp only[BE.af,G0]at e;simp only[Sk.sub];exact(fB ((fb h).2 e.1)).2 e.2
 | iff a b fb fB=>
   intro s h;constructor;intro e;simp only[Sk.add];have e':=e;simp only[BE.af,beq_iff_eq]at e;split;rename_i hp;exact(fB h).1 (by rw[<- e];exact gj h hp);split;rename_i hp;exact(fb h).1 (by rw[e];exact gj h hp);split;rename_i hp;exact(fB h).2 (by rw[<- e];exact oy h hp);split;rename_i hp;exact(fb h).2 (by rw[e];exact oy h hp);exact nD h e';intro e;simp only[Sk.sub];have e':=e;simp only[BE.af]at e;split;rename_i hp;have:=gj h hp;exact(fB h).2 (by rw[this]at e;revert e;cases b.af ae<;>simp);split;rename_i hp;have:=gj h hp;exact(fb h).2 (by rw[this]at e;revert e;cases a.af ae<;>simp);split;rename_i hp;have:=oy h hp;exact(fB h).1 (by rw[this]at e;revert e;cases b.af ae<;>simp);split;rename_i hp;have:=oy h hp;exact(fb h).1 (by rw[this]at e;revert e;cases a.af ae<;>simp);exact nD h (by simp only[BE.af,e,Bool.not_false])
 | sP a=>
   intro s h;constructor;intro e;simp only[Sk.add];exact nD h e;intro e;have e':a.af ae=0:=by simpa[BE.af]using e
   simp only[Sk.sub];have k1:(s.fk (s.u5 a)).ok ae:=fy h (by rw[jW h];omega);exact fy k1 (by rw[Lf.dN,jW h,fT];omega)
theorem B3(h:s.ok ae){p:BE}(e:p.af ae=true):(s.add p).ok ae:=(LP p h).1 e
theorem y8(h:s.ok ae){p:BE}(e:p.af ae=false):(s.sub p).ok ae:=(LP p h).2 e
theorem Oi:∀ {l:List BE} {s:Sk},s.ok ae->(∀p∈l,p.af ae=true)->(s.uh l).ok ae:=by
 intro l;induction l with
 |nil=>intro s h _;exact h
 | cons p l ih=>
   intro s h hl;have hp:=hl p (aU ..);have hr:∀q∈l,q.af ae=true:=fun q hq=>hl q (bn _ hq);unfold Sk.uh;split;cases ‹_=_›;rename_i heq;injection heq with h1 h2;subst h1;subst h2;refine ih ?_ hr;simp only[BE.af]at hp;split;rename_i hn;rw[oy h hn,Bool.false_or]at hp;exact B3 h hp;split;rename_i hn;rw[oy h hn,Bool.or_false]at hp;exact B3 h hp;exact h;rename_i heq;injection heq with h1 h2;subst h1;subst h2;refine ih ?_ hr;simp only[BE.af,nQ]at hp;split;rename_i hn;rw[gj h hn,Bool.true_and]at hp;exact y8 h hp;split;rename_i hn;rw[gj h hn,Bool.and_true]at hp;exact y8 h hp;exact h;rename_i heq;injection heq with h1 h2;subst h1;subst h2;refine ih ?_ hr;simp only[BE.af,beq_iff_eq]at hp;split;rename_i hn;exact B3 h (by rw[<- hp];exact gj h hn);split;rename_i hn;exact y8 h (by rw[<- hp];exact oy h hn);split;rename_i hn;exact B3 h (by rw[hp];exact gj h hn);split;rename_i hn;exact y8 h (by rw[hp];exact oy h hn);exact h;rename_i heq;injection heq with h1 h2;subst h1;subst h2;exact ih (y8 h (by simpa[BE.af]using hp)) hr;rename_i heq;injection heq with h1 h2;subst h2;exact ih h hr
theorem Rb:∀ {ls:List Lf} {s:Sk},s.ok ae->(∀l∈ls,0<=l.af ae)->(s.again ls).ok ae:=by
 intro ls;induction ls with
 |nil=>intro s h _;exact h
 |cons l ls ih=>intro s h hl;exact ih (u6 h (hl l (aU ..)) _) fun x hx=>hl x (bn _ hx)
theorem Wx(h:s.ok ae):s.tidy.ok ae:=⟨h.g,h.q,fun p hp=>h.f p (jq.mp hp).1⟩
theorem B4(h:s.ok ae):s.close.ok ae:=by
 have h1:=Oi h h.f;exact Wx (Rb h1 fun l hl=>h1.q l (List.mem_of_mem_take hl))
theorem u7(h:s.ok ae){p:BE}(e:p.af ae=true):(s.xP p).ok ae:=by
 exact B4 (B3 h e)
theorem wV(h:s.ok ae){p:BE}(e:p.af ae=false):(s.pG p).ok ae:=by
 exact B4 (y8 h e)
theorem Rc(h:s.ok ae)(e:s.QZ d=true):False:=by
 simp only[Sk.QZ,mr]at e;obtain⟨f,hf,e⟩:=e;have h1:=um h e;have h2:=h.q f hf;rw[Lf.dN,fT]at h1;omega
theorem J3:∀(p:BE) {s:Sk},s.ok ae->s.pw d p=true->p.af ae=true:=by
 intro p;induction p with
 | and a b fb fB=>
   intro s h e;simp only[Sk.pw,ao]at e;simp[BE.af,fb h e.1,fB h e.2]
 | or a b fb fB=>
   intro s h e;simp only[Sk.pw,ig]at e;rcases e with e|e;exact gj h e;cases ha:a.af ae with
   |true=>simp[BE.af,ha]
   |false=>simp[BE.af,fB (B4 (wV h ha)) e]
 | _=>
   intro s h e;simp only[Sk.pw,ig]at e;rcases e with e|e;exact gj h e;exact(Rc h e).elim
def gJ(l:List BE×BE):Prop:=∀ae:aH,(∀p∈l.1,p.af ae=true)->l.2.af ae=true
theorem aax(h:s.ok ae){fC:List (List BE×BE)}(hl:∀l∈fC,gJ l){p:BE}(e:s.so fC p=true):p.af ae=true:=by
 simp only[Sk.so,ig,mr,ao,kG]at e;rcases e with(e|⟨l,hm,h1,h2⟩)|e;exact J3 p h e;exact J3 p (u7 h (hl l hm ae fun q hq=>gj h (h1 q hq))) h2;exact J3 p h e
theorem oK:∀ {l:List BE} {s:Sk},s.ok ae->(∀p∈l,p.af ae=true)->(s.nC l).ok ae:=by
 intro l;induction l with
 |nil=>intro s h _;exact h
 |cons p l ih=>intro s h hl;exact ih (u7 h (hl p (aU ..))) fun q hq=>hl q (bn _ hq)
end
section
variable {s:Sk}{ae ak:aH}
variable{d:DV}{j k base:Nat}{e:IE}{cs:List (Int×Int)}{ds:List DV}{n:Nat}{α β:Type}
theorem HW:jz base n k=true↔k<base\/base+n<=k:=by
 simp[jz,Nat.blt_eq,Nat.ble_eq]
theorem Lf.aq{p:Nat->Bool}(h:∀k,p k=true->ae k=ak k){l:Lf}(e:l.all p=true):l.af ae=l.af ak:=by
 obtain⟨ts,n⟩:=l;simp only[Lf.all]at e;have:qm ae ts=qm ak ts:=by
   induction ts with
   |nil=>rfl
   | cons t ts ih=>
     obtain⟨c,t⟩:=t;simp only[List.all_cons,ao]at e;simp only[qm,ih e.2,IE.aq h e.1]
 simp only[Lf.af,this]
theorem LQ(h:s.ok ae){p:Nat->Bool}(he:∀k,p k=true->ae k=ak k):(s.fi p).ok ak:=by
 refine⟨fun x hx=>?_,fun l hl=>?_,fun q hq=>?_⟩;obtain⟨h1,h2⟩:=jq.1 hx;rw[<- he _ h2];exact h.g x h1;obtain⟨h1,h2⟩:=jq.1 hl;rw[<- Lf.aq he h2];exact h.q l h1;obtain⟨h1,h2⟩:=jq.1 hq;rw[<- BE.aq he h2];exact h.f q h1
theorem uq(hn:ds.length=n)(h:jz base n k=true):ae k=ae.aB base ds k:=by
 rcases HW.1 h with h|h;exact(aH.cA h).symm;exact(aH.jr (by omega)).symm
theorem FX(h:jz j 1 k=true):ae k=ae.set j d k:=by
 have:=HW.1 h;simp only[aH.set];rw[if_neg (by omega)]
theorem qV.len:∀ {as:List A} {ds:List DV},qV as ds->as.length=ds.length:=by
 intro as;induction as with
 | nil=>intro ds h;cases ds with
   |nil=>rfl
   |cons d ds=>exact h.elim
 | cons a as ih=>intro ds h;cases ds with
   |nil=>exact h.elim
   |cons d ds=>simp[ih h.2]
theorem qV.at:∀ {as:List A} {ds:List DV} {i:Nat} {a:A},qV as ds->as[i]?=some a->∃d,ds[i]?=some d/\a.has d:=by
 intro as;induction as with
 |nil=>intro ds i a _ h;simp at h
 | cons x as ih=>
   intro ds i a h hi;cases ds with
   |nil=>exact h.elim
   | cons d ds=>
     cases i with
     |zero=>simp only[kB,ah]at hi;subst hi;exact⟨d,rfl,h.1⟩
     |succ i=>simp only[A1]at hi ⊢;exact ih h.2 hi
theorem J4:∀ {as:List A} {base:Nat} {p:Nat×A},p∈ql base as->∃i,p.1=base+i/\as[i]?=some p.2:=by
 intro as;induction as with
 |nil=>intro base p h;simp[ql]at h
 | cons a as ih=>
   intro base p h;rcases bF.1 h with rfl|h;exact⟨0,rfl,rfl⟩;obtain⟨i,h1,h2⟩:=ih h;exact⟨i+1,by omega,by simpa using h2⟩
theorem B5{as:List A}(h:qV as ds):∀p∈ql base as,p.2.has (ae.aB base ds p.1):=by
 intro p hp;obtain⟨i,h1,h2⟩:=J4 hp;obtain⟨d,h3,h4⟩:=h.at h2;rw[h1,aH.ei h3];exact h4
theorem B6:∀ {cs ds:List (Int×Int)} {j:Nat} {r:List Int},cN cs j r->cN (iD cs ds) j r:=by
 intro cs;induction cs with
 |nil=>intro ds j r h;simp[iD,cN]
 | cons c cs ih=>
   intro ds j r h;cases ds with
   |nil=>simp[iD,cN]
   | cons d ds=>
     have:=h.1;refine⟨?_,ih h.2⟩;show min c.1 d.1<=_/\_<=max c.2 d.2;omega
theorem B7:∀ {cs ds:List (Int×Int)} {j:Nat} {r:List Int},cN ds j r->cN (iD cs ds) j r:=by
 intro cs;induction cs with
 |nil=>intro ds j r h;simp[iD,cN]
 | cons c cs ih=>
   intro ds j r h;cases ds with
   |nil=>simp[iD,cN]
   | cons d ds=>
     have:=h.1;refine⟨?_,ih h.2⟩;show min c.1 d.1<=_/\_<=max c.2 d.2;omega
theorem HX:∀ {rs:List Rg} {xs:List Int} {j:Nat} {row:List Int},(∀i r,rs[i]?=some r->In r (row.getD (j+i) 0))->cN (FR rs) j row:=by
 intro rs;induction rs with
 |nil=>intro xs j row h;simp[FR,cN]
 | cons r rs ih=>
   intro xs j row h;unfold FR;split;rename_i x y r' e;injection e with e1 e2;subst e1;subst e2;have:=h 0 _ rfl;refine⟨ru.1 this,ih (xs:=[]) fun i r hi=>?_⟩;have:=h (i+1) r (by simpa using hi);rwa[show j+(i+1)=j+1+i by omega]at this;simp[cN]
theorem B9(h:s.ok ae)(x:Sum IE BE):In (s.Ac x) (b7 ae x):=by
 cases x with
 |inl e=>exact xR h e
 |inr b=>simp only[Sk.Ac,b7];split<;>exact ru.2 (by omega)
theorem y9(h:s.ok ae)(xs:List (Sum IE BE)):cN (FR (xs.map s.Ac)) 0 (xs.map (b7 ae)):=by
 refine HX (xs:=[]) fun i r hi=>?_;simp only[gL,bH]at hi;obtain⟨x,hx,rfl⟩:=hi;rw[gK,cT,gL,hx];exact B9 h x
theorem Em:∀ {cs:List (List (Int×Int))} {c:List (Int×Int)} {r:List Int},c∈cs->cN c 0 r->cN (LH cs) 0 r:=by
 intro cs;induction cs with
 |nil=>intro c r h;cases h
 | cons d cs ih=>
   intro c r hm h;cases cs with
   | nil => rcases bF.1 hm with rfl|hm
            exact h;cases hm
   | cons e cs=>
     rcases bF.1 hm with rfl|hm;exact B6 h;exact B7 (ih hm h)
theorem aay(h:s.ok ae)(d:DE):(s.de d).has (d.af ae):=by
 cases d with
 | i e=>
   simp only[Sk.de,DE.af];have:=xR h e;split;rename_i x y he;rw[he]at this;exact ru.1 this;trivial
 |b e=>trivial
 | l k=>
   simp only[Sk.de,DE.af];split;rename_i a b c e;obtain⟨xs,hx,h1⟩:=BZ (h.find e);rw[hx];exact h1;exact⟨by omega,fun _ e=>(by cases e),fun _ _=>trivial⟩
 |nil=>exact⟨by simp,fun y e=>(by cases e;simp),fun r hr=>(by cases hr)⟩
 | rows es=>
   refine⟨by simp,fun y e=>(by cases e;simp),fun r hr=>?_⟩;obtain⟨e,he,rfl⟩:=jO.1 hr;refine Em (jO.2 ⟨e,he,rfl⟩) (HX (xs:=[]) fun i r hi=>?_);cases i with
   |zero=>simp only[kB,ah]at hi;subst hi;exact xR h e
   |succ i=>simp at hi
 | vu xs=>
   refine⟨by simp,fun y e=>(by cases e;simp),fun r hr=>?_⟩;rcases kL.1 hr with rfl;exact y9 h xs
theorem HY{d:DE}{n:IE}(h:d.QY=some n):∃xs,d.af ae = .l xs/\n.af ae=(xs.length:Int):=by
 cases d<;>simp[DE.QY]at h<;>subst h;exact⟨_,rfl,rfl⟩;exact⟨_,rfl,rfl⟩;exact⟨_,rfl,by simp[IE.af]⟩;exact⟨_,rfl,by simp[IE.af]⟩
theorem J5:∀ {cs ds:List (Int×Int)} {j:Nat} {r:List Int},BX cs ds=true->cN cs j r->cN ds j r:=by
 intro cs;induction cs with
 | nil=>intro ds j r h _;cases ds with
   |nil=>trivial
   |cons d ds=>simp[BX]at h
 | cons c cs ih=>
   intro ds j r h hr;cases ds with
   |nil=>trivial
   | cons d ds=>
     simp only[BX,ao,aM]at h;have:=hr.1;exact⟨by omega,ih h.2.2 hr.2⟩
theorem Ca(h:s.ok ae){d:DE}{a:A}(e:s.fits d a=true):a.has (d.af ae):=by
 cases a with
 |t=>cases d<;>trivial
 | i lo hi=>
   cases d with
   | i x=>
     simp only[Sk.fits,ao]at e;exact⟨mW (gj h e.1),mW (gj h e.2)⟩
   |_=>simp[Sk.fits]at e
 | b=>cases d with
   |b x=>trivial
   |_=>simp[Sk.fits]at e
 | l n0 n1 cs=>
   simp only[Sk.fits]at e;split at e;rename_i n a b c hn hd;obtain⟨xs,hx,hl⟩:=HY (ae:=ae) hn;have hde:=aay h d;rw[hd,hx]at hde;obtain⟨g1,g2,g3⟩:=hde;simp only[ao,ig,aM]at e;rw[hx];refine⟨?_,fun y hy=>?_,fun r hr=>?_⟩;rcases e.1.1 with e|e;omega;have:n0<=n.af ae:=mW (gj h e);omega;have:=e.1.2;subst hy;have:n.af ae<=y:=mW (gj h this);omega;rcases e.2 with e|e;exact J5 e (g3 r hr);cases b with
   |none=>cases e
   | some z=>
     have:=g2 z rfl;have e:=mW e;have:xs.length=0:=by omega
     rw[List.length_eq_zero_iff]at this;subst this;cases hr
   cases e
theorem pJ{r:List Int}{x:Int}(k:Nat):(lV r j x).getD k 0=if k=j then x else r.getD k 0:=by
 unfold lV;split;rename_i h;simp only[cT,List.getElem?_set];split;rename_i e;subst e;simp[h];rename_i e;rw[if_neg (fun e'=>e e'.symm)];rename_i h;simp only[cT];by_cases h1:k<r.length;rw[qw h1,if_neg (by omega)];rw[s8 (by omega)];rw[th (l:=r) (by omega)];by_cases h2:k=j;rw[if_pos h2,s8 (by simp;omega)];simp only[List.length_replicate];rw[show k-r.length-(j-r.length)=0 by omega];rfl;rw[if_neg h2];by_cases h3:k<j;rw[qw (by simp;omega),Ha,if_pos (by omega)];rfl;rw[th (by simp;omega)]
theorem HZ:∀ {cs:List (Int×Int)} {j m:Nat} {x:Rg} {r r':List Int},cN cs m r->In x (r'.getD (m+j) 0)->(∀k,k≠m+j->r'.getD k 0=r.getD k 0)->cN (FT cs j x) m r':=by
 intro cs;induction cs with
 |nil=>intro j m x r r' _ _ _;cases j<;>simp[FT,cN]
 | cons c cs ih=>
   intro j m x r r' h hx hr;cases j with
   | zero=>
     simp only[FT];split;rename_i a b;obtain⟨g1,g2⟩:=ru.1 hx;rw[iM]at g1 g2;refine⟨⟨by show min c.1 a<=_;omega,by show _<=max c.2 b;omega⟩,?_⟩;have:∀ {cs:List (Int×Int)} {n:Nat},m<n->cN cs n r->cN cs n r':=by
       intro cs;induction cs with
       |nil=>intro n _ _;trivial
       | cons d ds ihd=>
         intro n hn h;refine⟨?_,ihd (by omega) h.2⟩;rw[hr n (by omega)];exact h.1
     exact this (by omega) h.2;trivial
   | succ j=>
     refine⟨?_,ih h.2 ?_ fun k hk=>hr k (by omega)⟩;rw[hr m (by omega)];exact h.1;rwa[show m+1+j=m+(j+1)by omega]
theorem Oj:∀ {xs:List Rg} {vs:List Int} {cs:List (Int×Int)} {j:Nat} {r:List Int},cN cs 0 r->(xs.length=vs.length/\∀(i:Nat) (x:Rg) (v:Int),xs[i]?=some x->vs[i]?=some v->In x v)->cN (HT cs j xs) 0 (iR r j vs):=by
 intro xs;induction xs with
 | nil=>intro vs cs j r h hx;cases vs with
   |nil=>exact h
   |cons v vs=>simp at hx
 | cons x xs ih=>
   intro vs cs j r h hx;cases vs with
   |nil=>simp at hx
   | cons v vs=>
     simp only[HT,iR];refine ih (HZ h ?_ fun k hk=>?_) ⟨by simpa using hx.1,fun i x v h1 h2=>hx.2 (i+1) x v (by simpa using h1) (by simpa using h2)⟩;rw[pJ,if_pos (by omega)];exact hx.2 0 x v rfl rfl;rw[pJ,if_neg (by omega)]
theorem wW{xs:List (List Int)}{ds:List (Int×Int)}{i:Nat}{f:List Int->List Int}(h:∀r∈xs,cN cs 0 r)(hw:∀r,cN cs 0 r->cN ds 0 r)(hf:∀r∈xs,cN ds 0 (f r)):∀r∈xs.modify i f,cN ds 0 r:=by
 intro r hr;obtain⟨n,hn,rfl⟩:=List.getElem_of_mem hr;rw[List.getElem_modify];rw[List.length_modify]at hn;split;exact hf _ (List.getElem_mem hn);exact hw _ (h _ (List.getElem_mem hn))
theorem gD(h:s.ok ae)(k:Nat):(s.jJ k).1<=((ae k).list.length:Int)/\(∀y,(s.jJ k).2.1=some y->((ae k).list.length:Int)<=y)/\∀r∈(ae k).list,cN (s.jJ k).2.2 0 r:=by
 unfold Sk.jJ;split;rename_i a b c e;obtain⟨xs,hx,h1⟩:=BZ (h.find e);rw[hx];exact h1;exact⟨by simp,fun _ e=>(by cases e),fun _ _=>trivial⟩
theorem En{m:Nat}{x:Rg}{r:List Int}(h:cN cs m r):cN (FT cs j x) m r:=by
 induction cs generalizing j m with
 |nil=>cases j<;>simp[FT,cN]
 | cons c cs ih=>
   cases j with
   | zero=>
     simp only[FT];split;rename_i a b;have:=h.1;exact⟨⟨by show min c.1 a<=_;omega,by show _<=max c.2 b;omega⟩,h.2⟩;trivial
   |succ j=>exact⟨h.1,ih h.2⟩
theorem J6:∀ {xs:List Rg} {cs:List (Int×Int)} {j:Nat} {r:List Int},cN cs 0 r->cN (HT cs j xs) 0 r:=by
 intro xs;induction xs with
 |nil=>intro cs j r h;exact h
 |cons x xs ih=>intro cs j r h;exact ih (En h)
theorem sn{x:Int×Option Int×List (Int×Int)}{n:List (List Int)}(e:yZ x=true)(h:∀y,x.2.1=some y->(n.length:Int)<=y):n=[]:=by
 unfold yZ at e;split at e;rename_i y hy;have:=h y hy;simp only[aM]at e;exact List.length_eq_zero_iff.1 (by omega);cases e
theorem Rd:∀ {aO:List NK} {hs rest:List Int} {j:Nat},(oV aO hs rest j).length<=(hs.getD j 0).toNat:=by
 intro aO;induction aO with
 |nil=>intro hs rest j;simp[oV]
 | cons k aO ih=>
   intro hs rest j;cases k with
   | c x=>
     cases j with
     |zero=>simp[oV]
     | succ j=>
       have:=ih (hs:=hs.tail) (rest:=rest) (j:=j);simp only[oV];cases hs with
       |nil=>simpa using this
       |cons h hs=>simpa using this
   | s e x=>
     cases j with
     | zero=>
       simp only[oV];cases hs with
       |nil=>simp
       |cons h hs=>simp;omega
     | succ j=>
       have:=ih (hs:=hs.tail) (rest:=rest.drop (hs.headD 0).toNat) (j:=j);simp only[oV];cases hs with
       |nil=>simpa using this
       |cons h hs=>simpa using this
theorem J7{aO:List NK}{r:List Int}:(ij aO r j).length<=(r.getD j 0).toNat:=by
 unfold ij;refine kI Rd ?_;simp only[cT,A9];split;exact fz _;simp
theorem Wy(h:s.ok ae){id:Nat}{op:dw}(ho:op.all (jz id 1)=true):(s.P4 id op).1.has (.l (op.af ae))/\∀p∈(s.P4 id op).2,p.af (ae.set id (.l (op.af ae)))=true:=by
 have lW:∀k,jz id 1 k=true->ae.set id (.l (op.af ae)) k=ae k:=fun k hk=>(FX hk).symm;have hi:(ae.set id (.l (op.af ae)) id) = .l (op.af ae):=by simp[aH.set]
 have key:∀ {n:IE} {m:Int},((op.af ae).length:Int)=m->n.af (ae.set id (.l (op.af ae)))=m->∀p∈[BE.eq (.len id) n],p.af (ae.set id (.l (op.af ae)))=true:=by
   intro n m h1 h2 p hp;rcases kL.1 hp with rfl;simp only[BE.af,IE.af,hi,DV.list,aM];omega
 have hlen:∀k,jz id 1 k=true->IE.af (ae.set id (.l (op.af ae))) (.len k)=((ae k).list.length:Int):=fun k hk=>by simp only[IE.af,lW k hk]
 have ien:∀ {e:IE},e.all (jz id 1)=true->e.af (ae.set id (.l (op.af ae)))=e.af ae:=fun {e} he=>IE.aq (fun k hk=>lW k hk) he;cases op with
 | lit rows=>
   refine⟨⟨by simp[dw.af],fun y e=>(by cases e;simp[dw.af]),fun r hr=>?_⟩,fun p hp=>?_⟩;obtain⟨x,hx,rfl⟩:=jO.1 hr;exact Em (jO.2 ⟨x,hx,rfl⟩) (y9 h x);simp only[Sk.P4]at hp;split at hp;rename_i r rs;split at hp;simp only[dw.all,List.all_cons,ao]at ho;have hc:∀(l:List (Sum IE BE)) (j:Nat),l.all (nh (jz id 1))=true->(∀i,(r.map (b7 ae)).getD (j+i) 0=(l.map (b7 ae)).getD i 0)->∀p∈y5 id l j,p.af (ae.set id (.l (dw.af ae (.lit (r::rs)))))=true:=by
     intro l;induction l with
     |nil=>intro j _ _ p hp;cases hp
     | cons x l ih=>
       intro j ha hg p hp;simp only[List.all_cons,ao]at ha;have Yq:=ih (j+1) ha.2 fun i=>by
         have:=hg (i+1);rw[show j+1+i=j+(i+1)by omega,this];simp
       cases x with
       |inr b=>exact Yq p (by simpa[y5]using hp)
       | inl e=>
         simp only[y5,bF]at hp;rcases hp with rfl|hp;have h0:=hg 0;simp only[iM,kD,List.getD_cons_zero,b7]at h0;refine kR ?_;have e1:IE.af (ae.set id (.l (dw.af ae (.lit (r::rs))))) e=e.af ae:=ien ha.1;rw[e1,<- h0];show cellAt ((ae.set id (.l (dw.af ae (.lit (r::rs))))) id).list 0 j=_;rw[hi];rfl;exact Yq p hp
   exact hc r 0 ho.1 (fun i=>by rw[gK]) p hp;cases hp;cases hp
 | app a b=>
   simp only[dw.all,ao]at ho;obtain⟨a1,a2,a3⟩:=gD h a;obtain⟨b1,b2,b3⟩:=gD h b;refine⟨⟨by simp only[dw.af,ff];omega,fun y e=>?_,fun r hr=>?_⟩,?_⟩;obtain⟨u,v,hu,hv,rfl⟩:=lg e;have:=a2 u hu;have:=b2 v hv
   simp only[dw.af,ff];show _<=u+v;omega;rcases mi.1 hr with hr|hr;split;rename_i he;rw[sn he a2]at hr;cases hr;split;exact a3 r hr;exact B6 (a3 r hr);split;exact b3 r hr;split;rename_i he;rw[sn he b2]at hr;cases hr;exact B7 (b3 r hr);intro p hp;rcases bF.1 hp with rfl|hp;refine key (m:=((ae a).list.length:Int)+((ae b).list.length:Int)) (by simp[dw.af]) ?_ _ (kL.2 rfl);have e1:=hlen a ho.1;have e2:=hlen b ho.2;simp only[IE.af]at e1 e2 ⊢;rw[e1,e2];split at hp;rename_i hc;obtain⟨j,_,rfl⟩:=jO.1 hp;refine kR ?_;show cellAt ((ae.set id (.l (dw.af ae (.app a b)))) id).list 0 j=cellAt ((ae.set id (.l (dw.af ae (.app a b)))) a).list 0 j;rw[hi,lW a ho.1];show cellAt ((ae a).list++(ae b).list) 0 j=_;unfold cellAt;have hl:0<(ae a).list.length:=by omega
   have e3:((ae a).list++(ae b).list).getD (0:Int).toNat []=(ae a).list.getD (0:Int).toNat []:=by
     rw[cT,cT,qw (by simpa using hl)]
   rw[e3];cases hp
 | set a i j x=>
   simp only[dw.all,ao]at ho;obtain⟨a1,a2,a3⟩:=gD h a;have hl:(dw.af ae (.set a i j x)).length=(ae a).list.length:=by simp[dw.af,setAt]
   refine⟨⟨by rw[hl];exact a1,fun y e=>(by rw[hl];exact a2 y e),?_⟩,key (m:=((ae a).list.length:Int)) (by rw[hl]) (hlen a ho.1)⟩;refine wW a3 (fun r hr=>En hr) fun r hr=>HZ (a3 r hr) ?_ fun k hk=>?_;rw[pJ,if_pos (by omega)];exact B9 h x;rw[pJ,if_neg (by omega)]
 | C8 a i xs=>
   simp only[dw.all,ao]at ho;obtain⟨a1,a2,a3⟩:=gD h a;have hl:(dw.af ae (.C8 a i xs)).length=(ae a).list.length:=by simp[dw.af]
   refine⟨⟨by rw[hl];exact a1,fun y e=>(by rw[hl];exact a2 y e),?_⟩,key (m:=((ae a).list.length:Int)) (by rw[hl]) (hlen a ho.1)⟩;exact wW a3 (fun r hr=>B6 hr) fun r hr=>B7 (y9 h xs)
 | Da a i j xs=>
   simp only[dw.all,ao]at ho;obtain⟨a1,a2,a3⟩:=gD h a;have hl:(dw.af ae (.Da a i j xs)).length=(ae a).list.length:=by simp[dw.af]
   refine⟨⟨by rw[hl];exact a1,fun y e=>(by rw[hl];exact a2 y e),?_⟩,key (m:=((ae a).list.length:Int)) (by rw[hl]) (hlen a ho.1)⟩;refine wW a3 (fun r hr=>J6 hr) fun r hr=>Oj (a3 r hr) ⟨by simp,fun k x v h1 h2=>?_⟩;simp only[gL,bH]at h1 h2;obtain⟨u,hu,rfl⟩:=h1;obtain⟨v,hv,rfl⟩:=h2;rw[hu]at hv;cases hv;exact B9 h u
 | take a n=>
   simp only[dw.all,ao]at ho;obtain⟨a1,a2,a3⟩:=gD h a;have hn:=FV (xR h n) (show In (some 0,some 0) 0 from ru.2 (by omega));have hl:((dw.af ae (.take a n)).length:Int)=min ((ae a).list.length:Int) (max (n.af ae) 0):=by simp only[dw.af,vr];omega
   refine⟨⟨Int.natCast_nonneg _,fun y e=>?_,fun r hr=>a3 r (List.mem_of_mem_take hr)⟩,?_⟩;rw[hl];exact(LL (a:=(none,(s.jJ a).2.1)) ⟨fun _ e=>(by cases e),a2⟩ hn).2 y e;simp only[Sk.P4];split;rename_i hc;simp only[ao]at hc;have h1:n.af ae<=((ae a).list.length:Int):=mW (gj h hc.1);have h2:0<=n.af ae:=mW (gj h hc.2);exact key (m:=n.af ae) (by rw[hl];omega) (ien ho.2);intro p hp;cases hp
 | rep n row=>
   simp only[dw.all]at ho;have hn:=FV (xR h n) (show In (some 0,some 0) 0 from ru.2 (by omega));have hl:((dw.af ae (.rep n row)).length:Int)=max (n.af ae) 0:=by simp only[dw.af,List.length_replicate];omega
   refine⟨⟨Int.natCast_nonneg _,fun y e=>(by rw[hl];exact hn.2 y e),fun r hr=>?_⟩,?_⟩;have:=List.eq_of_mem_replicate hr;subst this;have gen:∀ {l:List Int} {m:Nat},(∀i,r.getD (m+i) 0=l.getD i 0)->cN (l.map fun x=>(x,x)) m r:=by
     intro l;induction l with
     |nil=>intro m _;trivial
     | cons x l ih=>
       intro m hm;refine⟨?_,ih fun i=>?_⟩;have:=hm 0;simp only[iM]at this;rw[this];simp;have:=hm (i+1);rw[show m+1+i=m+(i+1)by omega,this];simp
   exact gen fun i=>by rw[gK]
   simp only[Sk.P4];split;rename_i hc;have h1:0<=n.af ae:=mW (gj h hc);exact key (m:=n.af ae) (by rw[hl];omega) (ien ho);intro p hp;cases hp
 | cp a=>
   simp only[dw.all]at ho;obtain⟨a1,a2,a3⟩:=gD h a;exact⟨⟨a1,a2,a3⟩,key (m:=((ae a).list.length:Int)) rfl (hlen a ho)⟩
 | sub a i aO j=>
   refine⟨⟨by omega,fun y e=>?_,fun _ _=>trivial⟩,fun p hp=>(by cases hp)⟩;obtain⟨a1,a2,a3⟩:=gD h a;split at e;rename_i c hc;cases e;have:=(LN (i:=i.af ae) a3 (show(s.jJ a).2.2[j]?=some (c.1,c.2)from hc)).2.2;have hl:=J7 (aO:=aO) (r:=(ae a).list.getD (i.af ae).toNat []) (j:=j);simp only[dw.af,lS];unfold cellAt at this;omega;cases e
 | P2 a b=>
   simp only[dw.all,ao]at ho;obtain⟨a1,a2,a3⟩:=gD h a;obtain⟨b1,b2,b3⟩:=gD h b;have hl:(dw.af ae (.P2 a b)).length=(ae a).list.length:=by simp only[dw.af,ff,vr,List.length_drop];omega
   refine⟨⟨by rw[hl];exact a1,fun y e=>(by rw[hl];exact a2 y e),fun r hr=>?_⟩,key (m:=((ae a).list.length:Int)) (by rw[hl]) (hlen a ho.1)⟩;rcases mi.1 hr with hr|hr;have cY:=List.mem_of_mem_take hr;split;exact b3 r cY;split;rename_i he;rw[sn he b2]at cY;cases cY;exact B7 (b3 r cY);have cY:=List.mem_of_mem_drop hr;split;rename_i he;rw[sn he a2]at cY;cases cY;split;exact a3 r cY;exact B6 (a3 r cY)
 |Bi rows=>exact⟨⟨by simp[dw.af],fun y e=>(by cases e;simp[dw.af]),fun _ _=>trivial⟩,fun p hp=>(by cases hp)⟩
def Sb.is(ae:aH):Sb->DV->Prop
 |.nm k,d=>ae k=d
 |.de x,d=>x.af ae=d
 |.no,_=>True
variable {σ:Nat->Sb}{jx:aH}
theorem nE{γ:Type}{f:α->β->γ}{a:Option α}{b:Option β}{z:γ}(h:p2 f a b=some z):∃x y,a=some x/\b=some y/\z=f x y:=by
 cases a<;>cases b<;>simp_all[p2]
theorem xS{f:α->β}{a:Option α}{z:β}(h:p1 f a=some z):∃x,a=some x/\z=f x:=by
 cases a<;>simp_all[p1]
theorem adN{b:Sb}(h:b.is ae d)(he:b.int=some e):e.af ae=d.int:=by
 cases b with
 |nm k=>simp only[Sb.int,ah]at he;subst he;simp only[IE.af];rw[show ae k=d from h]
 | de x=>
   cases x<;>simp[Sb.int,DE.asI]at he;subst he;rw[<- (show _=d from h)];rfl
 |no=>simp[Sb.int]at he
theorem aaz{b:Sb}{e:BE}(h:b.is ae d)(he:b.bool=some e):e.af ae=d.bool:=by
 cases b with
 |nm k=>simp only[Sb.bool,ah]at he;subst he;simp only[BE.af];rw[show ae k=d from h]
 | de x=>
   cases x<;>simp[Sb.bool,DE.asB]at he;subst he;rw[<- (show _=d from h)];rfl
 |no=>simp[Sb.bool]at he
theorem adO{b:Sb}(h:b.is ae d)(he:b.len=some e):e.af ae=(d.list.length:Int):=by
 cases b with
 |nm k=>simp only[Sb.len,ah]at he;subst he;simp only[IE.af];rw[show ae k=d from h]
 | de x=>
   obtain⟨xs,h1,h2⟩:=HY (ae:=ae) (show x.QY=some e from he);rw[h2,<- (show _=d from h),h1];rfl
 |no=>simp[Sb.len]at he
theorem aaA{b:Sb}(h:b.is ae d)(he:b.list=some k):(ae k).list=d.list:=by
 cases b with
 |nm j=>simp only[Sb.list,ah]at he;subst he;rw[show ae j=d from h]
 | de x=>
   cases x<;>simp[Sb.list,DE.asL]at he;subst he;rw[<- (show _=d from h)];rfl
 |no=>simp[Sb.list]at he
theorem aaB{b:Sb}{m:Option Int}{i:IE}(h:b.is ae d)(hm:i.isC=m)(he:b.cell m j=some e)(hi:i.af jx=i.af jx):e.af ae=cellAt d.list (i.af jx) j:=by
 unfold Sb.cell at he;split at he;cases he;rw[<- (show _=d from h)];simp[DE.af,DV.list,cellAt,IE.af];rename_i es m;split at he;rename_i h0;rw[FW hm,<- (show _=d from h)];have e2:(es.map fun e=>[e.af ae]).getD m.toNat []=[e.af ae]:=by
   rw[cT,gL,he];rfl
 show _=((es.map fun e=>[e.af ae]).getD m.toNat []).getD 0 0;rw[e2];rfl;cases he;rename_i xs;rw[FW hm,<- (show _=d from h)];split at he;rename_i e' hx;cases he;simp only[DE.af,DV.list,cellAt];show _=(List.map (b7 ae) xs).getD j 0;rw[cT,gL,hx];rfl;cases he;cases he
theorem H0(h:∀k,(σ k).is ae (jx k)):∀ {e e':IE},e.put σ=some e'->e'.af ae=e.af jx:=by
 intro e;induction e with
 |v k=>intro e' he;exact adN (h k) he
 |c n=>intro e' he;cases he;rfl
 |ediv a n ih=>intro e' he;obtain⟨x,hx,rfl⟩:=xS he;simp only[IE.af,ih hx]
 |emod a n ih=>intro e' he;obtain⟨x,hx,rfl⟩:=xS he;simp only[IE.af,ih hx]
 |wrap k a ih=>intro e' he;obtain⟨x,hx,rfl⟩:=xS he;simp only[IE.af,ih hx]
 |len k=>intro e' he;exact adO (h k) he
 | get k i j ih=>
   intro e' he;simp only[IE.put]at he;split at he;rename_i x hx;cases he;exact aaB (h k) rfl hx rfl;obtain⟨x,y,hx,hy,rfl⟩:=nE he;simp only[IE.af,ih hy,aaA (h k) hx]
 | jZ i n a b ihi fb fB=>
   intro e' he;obtain⟨x,y,hx,hy,rfl⟩:=nE he;obtain⟨u,v,hu,hv,rfl⟩:=nE hy;simp only[IE.af,ihi hx,fb hu,fB hv]
 |bits o k a b fb fB=>intro e' he;obtain⟨x,y,hx,hy,rfl⟩:=nE he;simp only[IE.af,fb hx,fB hy]
 |_ a b fb fB=>intro e' he;obtain⟨x,y,hx,hy,rfl⟩:=nE he;simp only[IE.af,fb hx,fB hy]
theorem adP(h:∀k,(σ k).is ae (jx k)):∀ {e e':BE},e.put σ=some e'->e'.af ae=e.af jx:=by
 intro e;induction e with
 |v k=>intro e' he;exact aaz (h k) he
 |c n=>intro e' he;cases he;rfl
 |not a ih=>intro e' he;obtain⟨x,hx,rfl⟩:=xS he;simp only[BE.af,ih hx]
 |sP a=>intro e' he;obtain⟨x,hx,rfl⟩:=xS he;simp only[BE.af,H0 h hx]
 |lt a b=>intro e' he;obtain⟨x,y,hx,hy,rfl⟩:=nE he;simp only[BE.af,H0 h hx,H0 h hy]
 |le a b=>intro e' he;obtain⟨x,y,hx,hy,rfl⟩:=nE he;simp only[BE.af,H0 h hx,H0 h hy]
 |eq a b=>intro e' he;obtain⟨x,y,hx,hy,rfl⟩:=nE he;simp only[BE.af,H0 h hx,H0 h hy]
 |_ a b fb fB=>intro e' he;obtain⟨x,y,hx,hy,rfl⟩:=nE he;simp only[BE.af,fb hx,fB hy]
theorem sq(e:IE):(∀k∈e.names,ae k=ak k)->e.af ae=e.af ak:=by
 induction e with
 |v k=>intro h;simp only[IE.af,h k (by simp[IE.names])]
 |c n=>intro _;rfl
 |len k=>intro h;simp only[IE.af,h k (by simp[IE.names])]
 |get k i j ih=>intro h;simp only[IE.names,bF,forall_eq_or_imp]at h;simp only[IE.af,h.1,ih h.2]
 |jZ i n a b vp vq ZG=>intro h;simp only[IE.names,mi]at h;simp only[IE.af,vp fun k hk=>h k (.inl (.inl hk)),vq fun k hk=>h k (.inl (.inr hk)),ZG fun k hk=>h k (.inr hk)]
 |ediv a n ih=>intro h;simp only[IE.af,ih h]
 |emod a n ih=>intro h;simp only[IE.af,ih h]
 |wrap k a ih=>intro h;simp only[IE.af,ih h]
 |bits o k a b vp vq=>intro h;simp only[IE.names,mi]at h;simp only[IE.af,vp fun k hk=>h k (.inl hk),vq fun k hk=>h k (.inr hk)]
 |_ a b vp vq=>intro h;simp only[IE.names,mi]at h;simp only[IE.af,vp fun k hk=>h k (.inl hk),vq fun k hk=>h k (.inr hk)]
theorem aaC(e:BE):(∀k∈e.names,ae k=ak k)->e.af ae=e.af ak:=by
 induction e with
 |v k=>intro h;simp only[BE.af,h k (by simp[BE.names])]
 |c n=>intro _;rfl
 |not a ih=>intro h;simp only[BE.af,ih h]
 |sP a=>intro h;simp only[BE.af,sq a h]
 |lt a b=>intro h;simp only[BE.names,mi]at h;simp only[BE.af,sq a fun k hk=>h k (.inl hk),sq b fun k hk=>h k (.inr hk)]
 |le a b=>intro h;simp only[BE.names,mi]at h;simp only[BE.af,sq a fun k hk=>h k (.inl hk),sq b fun k hk=>h k (.inr hk)]
 |eq a b=>intro h;simp only[BE.names,mi]at h;simp only[BE.af,sq a fun k hk=>h k (.inl hk),sq b fun k hk=>h k (.inr hk)]
 |_ a b vp vq=>intro h;simp only[BE.names,mi]at h;simp only[BE.af,vp fun k hk=>h k (.inl hk),vq fun k hk=>h k (.inr hk)]
end
section
variable {s:Sk}{ae:aH}
variable{ds:List DV}{base:Nat}{d:DV}{k:Nat}{fC:List (List BE×BE)}{ak:aH}{n:Nat}{pr:List Nat}{rs:List DV}{bP:List DE}{c:A}{out:Cn}
def Cn.jA(c:Cn)(ds:List DV):Prop:=qV c.args ds/\∀p∈c.pre,p.af (bj.aB 0 ds)=true
def jx(ds rs:List DV):aH:=(bj.aB 0 ds).aB R0 rs
def Cn.lh(c:Cn)(ds rs:List DV):Prop:=qV c.res rs/\∀p∈c.post,p.af (jx ds rs)=true
theorem append_nil{α:Type}{a b:List α}(h:a++b=[]):a=[]/\b=[]:=by
 cases a<;>simp_all
theorem nG(h:s.ok ae)(hl:∀l∈fC,gJ l){p:BE}(e:s.ask fC p=[]):p.af ae=true:=by
 unfold Sk.ask at e;split at e;rename_i hs;exact aax h hl hs;cases e
theorem Re(h:s.ok ae)(hl:∀l∈fC,gJ l){d:DE}{a:A}(e:s.J0 fC d a=[]):a.has (d.af ae):=by
 cases a with
 | i lo hi=>
   cases d with
   | i x=>
     simp only[Sk.J0]at e;obtain⟨e1,e2⟩:=append_nil e;exact⟨mW (nG h hl e1),mW (nG h hl e2)⟩
   |_=>simp[Sk.J0]at e
 | b => simp only[Sk.J0]at e;split at e
        rename_i hf;exact Ca h hf;cases e
 | t => simp only[Sk.J0]at e;split at e
        rename_i hf;exact Ca h hf;cases e
 | l x y z => simp only[Sk.J0]at e;split at e
              rename_i hf;exact Ca h hf;cases e
theorem u9(h:s.ok ae)(hl:∀l∈fC,gJ l):∀ {ds:List DE} {as:List A},s.ui fC ds as=[]->qV as (ds.map (DE.af ae)):=by
 intro ds;induction ds with
 | nil=>intro as e;cases as with
   |nil=>trivial
   |cons a as=>simp[Sk.ui]at e
 | cons d ds ih=>
   intro as e;cases as with
   |nil=>simp[Sk.ui]at e
   | cons a as=>
     simp only[Sk.ui]at e;obtain⟨e1,e2⟩:=append_nil e;exact⟨Re h hl e1,ih e2⟩
theorem xT(h:s.ok ae)(hl:∀l∈fC,gJ l){σ:Nat->Sb}{e2:aH}(Ol:∀k,(σ k).is ae (e2 k)){ps:List BE}(e:s.asks fC σ ps=[]):∀p∈ps,p.af e2=true:=by
 intro p hp;unfold Sk.asks at e;rw[List.flatMap_eq_nil_iff]at e;have:=e p hp;split at this;rename_i p' BH;rw[<- adP Ol BH];exact nG h hl this;cases this
theorem Wz{a:A}(h:a.has d):(a.BW c).has d:=by
 cases a with
 | i x y=>cases c with
   |i z w=>obtain⟨n,rfl,g1,g2⟩:=LM h;exact⟨by omega,by omega⟩
   |_=>cases d<;>trivial
 | b=>cases c with
   |b=>exact h
   |_=>cases d<;>trivial
 |t=>cases c<;>cases d<;>trivial
 | l x y u=>cases c with
   | l z w v=>
     obtain⟨xs,rfl,g1,g2,g3⟩:=BZ h;refine⟨by omega,fun t e=>?_,fun r hr=>?_⟩;obtain⟨p,q,hp,hq,rfl⟩:=lg e;have:=g2 p hp;show _<=max p q;omega;split;rename_i hn;cases y with
     |none=>cases hn
     | some y=>
       have:=g2 y rfl;have hn:=mW hn;have:xs=[]:=List.length_eq_zero_iff.1 (by omega);subst this;cases hr
     split;exact g3 r hr;exact B6 (g3 r hr)
   |_=>cases d<;>trivial
theorem WA{a:A}(h:c.has d):(a.BW c).has d:=by
 cases a with
 | i x y=>cases c with
   |i z w=>obtain⟨n,rfl,g1,g2⟩:=LM h;exact⟨by omega,by omega⟩
   |_=>cases d<;>trivial
 | b=>cases c with
   |b=>exact h
   |_=>cases d<;>trivial
 |t=>cases c<;>cases d<;>trivial
 | l x y u=>cases c with
   | l z w v=>
     obtain⟨xs,rfl,g1,g2,g3⟩:=BZ h;refine⟨by omega,fun t e=>?_,fun r hr=>?_⟩;obtain⟨p,q,hp,hq,rfl⟩:=lg e;have:=g2 q hq;show _<=max p q;omega;split;exact g3 r hr;split;rename_i hn;cases w with
     |none=>cases hn
     | some w=>
       have:=g2 w rfl;have hn:=mW hn;have:xs=[]:=List.length_eq_zero_iff.1 (by omega);subst this;cases hr
     exact B7 (g3 r hr)
   |_=>cases d<;>trivial
theorem WB:∀ {as:List A} {ds:List DV},qV as ds->qV (as.map fun a=>a.BW (DC a)) ds:=by
 intro as;induction as with
 |nil=>intro ds h;exact h
 | cons a as ih=>intro ds h;cases ds with
   |nil=>exact h.elim
   |cons d ds=>exact⟨Wz h.1,ih h.2⟩
theorem WC:∀ {cs:List CT} {as:List A},sm cs as=true->qV (as.map fun a=>a.BW (DC a)) (defs cs):=by
 intro cs;induction cs with
 | nil=>intro as h;cases as with
   |nil=>trivial
   |cons a as=>simp[sm]at h
 | cons c cs ih=>
   intro as h;cases as with
   |nil=>simp[sm]at h
   | cons a as=>
     simp only[sm,ao]at h;have hr:=ih h.2;have h1:=h.1;have key:∀d:DV,(DC a).has d->defs (c::cs)=d::defs cs->qV (List.map (fun a=>a.BW (DC a)) (a::as)) (defs (c::cs)):=fun d hd e=>by
       rw[e];exact⟨WA hd,hr⟩
     cases c with
     | c k=>cases k with
       | i k=>cases a with
         |i x y=>exact key (.i 0) ⟨by omega,by omega⟩ rfl
         |t=>exact key (.i 0) trivial rfl
         |_=>simp at h1
       | b=>cases a with
         |b=>exact key (.b false) trivial rfl
         |t=>exact key (.b false) trivial rfl
         |_=>simp at h1
       | f=>cases a with
         |i x y=>exact key (.i 0) ⟨by omega,by omega⟩ rfl
         |t=>exact key (.i 0) trivial rfl
         |_=>simp at h1
     | s e ks=>cases a with
       |l x y z=>exact key (.l []) ⟨by simp,fun y e=>(by cases e;simp),fun r hr=>(by cases hr)⟩ rfl
       |t=>exact key (.l []) trivial rfl
       |_=>simp at h1
     | n e ks=>cases a with
       |l x y z=>exact key (.l []) ⟨by simp,fun y e=>(by cases e;simp),fun r hr=>(by cases hr)⟩ rfl
       |t=>exact key (.l []) trivial rfl
       |_=>simp at h1
def WD(ae:aH)(pr:List Nat)(ls:List Lc)(F:Nat->List DV->Prop):Prop:=
 ∀id l,ls.find? (fun l=>Nat.beq l.id id)=some l->(∀k∈l.iv.names,k∈pr)/\∀vs,qV l.iv.as vs->(∀p∈l.iv.ex,p.af (ae.aB l.base vs)=true)->(l.iv.me.af (ae.aB l.base vs)).toNat<(l.iv.me.af ae).toNat->F id vs
def adQ(er:Int×Int):Nat->List (Int->Prop)->Prop
 |0,_=>True
 |d+1,p::ps=>(∀n,er.1<=n->n<=er.2->p n)/\adQ er d ps
 |_+1,[]=>False
theorem Eo{vs:List DV}(h:ae k=ak k):ae.aB base vs k=ak.aB base vs k:=by
 by_cases h1:k<base;rw[aH.cA h1,aH.cA h1,h];by_cases h2:base+vs.length<=k;rw[aH.jr h2,aH.jr h2,h];have e:vs[k-base]?=some (vs[k-base]'(by omega)):=eT _;rw[show k=base+(k-base)by omega,aH.ei e,aH.ei e]
theorem WD.move{ls:List Lc}{F:Nat->List DV->Prop}(h:WD ae pr ls F)(he:∀k∈pr,ae k=ak k):WD ak pr ls F:=by
 intro id l hl;obtain⟨h1,h2⟩:=h id l hl;refine⟨h1,fun vs hv hx hm=>h2 vs hv (fun p hp=>?_) ?_⟩;rw[aaC p (ak:=ak.aB l.base vs) fun k hk=>Eo (he k (h1 k ?_))];exact hx p hp;exact Fb _ (List.mem_flatMap.2 ⟨p,hp,hk⟩);have e1:l.iv.me.af (ae.aB l.base vs)=l.iv.me.af (ak.aB l.base vs):=sq _ fun k hk=>Eo (he k (h1 k (Bh _ hk)));have e2:l.iv.me.af ae=l.iv.me.af ak:=sq _ fun k hk=>he k (h1 k (Bh _ hk));rw[e1,e2];exact hm
theorem qW(h:free pr base n=true)(hn:ds.length=n):∀k∈pr,ae k=ae.aB base ds k:=by
 intro k hk;exact uq hn (kG.1 h k hk)
theorem va(h:free pr base 1=true):∀k∈pr,ae k=ae.set base d k:=by
 intro k hk;exact FX (kG.1 h k hk)
theorem WE(hn:ds.length=n){d:DE}(h:d.off base n=true):d.af (ae.aB base ds)=d.af ae:=by
 have he:∀k,jz base n k=true->ae.aB base ds k=ae k:=fun k hk=>(uq hn hk).symm;cases d with
 |i e=>simp only[DE.af,IE.aq he h]
 |b e=>simp only[DE.af,BE.aq he h]
 |l k=>simp only[DE.af,he k h]
 |nil=>rfl
 | rows es=>
   simp only[DE.af];congr 1;exact xh fun e hm=>by rw[IE.aq he (kG.1 h e hm)]
 | vu xs=>
   simp only[DE.af];congr 2;refine xh fun e hm=>?_;have:=kG.1 h e hm;cases e with
   |inl e=>simp only[b7];exact IE.aq he this
   |inr e=>simp only[b7,BE.aq he (show e.all _=true from this)]
theorem Rf(h:ds[k]?=some d):bj.aB 0 ds k=d:=by
 have:=aH.ei (ae:=bj) (k:=0) h;rwa[gK]at this
theorem LR(h:k<R0):jx ds rs k=bj.aB 0 ds k:=aH.cA h
theorem LS(h:rs[k]?=some d):jx ds rs (R0+k)=d:=aH.ei h
theorem Ep{args:List DE}(hd:ds=args.map (DE.af ak))(hsm:args.length<R0)(hr:∀j d,rs[j]?=some d->ak (base+j)=d) :
   ∀k,(uj args rs.length base k).is ak (jx ds rs k):=by
 intro k;unfold uj;split;rename_i h1;have h1:k<args.length:=by simpa[Nat.blt_eq]using h1
 split;rename_i d hk;show d.af ak=_;rw[LR (by omega)];refine(Rf ?_).symm;rw[hd,gL,hk];rfl;trivial;split;rename_i h1;simp only[ao,Nat.ble_eq,Nat.blt_eq]at h1;show ak _=_;have e:rs[k-R0]?=some (rs[k-R0]'(by omega)):=eT _;rw[hr _ _ e];have:=LS (ds:=ds) e;rw[show R0+(k-R0)=k by omega]at this;rw[this];trivial
theorem LU:∀k,(Oh base bP.length bP k).is ae (ae.aB base (bP.map (DE.af ae)) k):=by
 intro k;unfold Oh;split;rename_i h;simp only[ao,Nat.ble_eq,Nat.blt_eq]at h;split;rename_i d hd;have e:(bP.map (DE.af ae))[k-base]?=some (d.af ae):=by rw[gL,hd];rfl
 show d.af ae=_;have:=aH.ei (ae:=ae) (k:=base) e;rw[show base+(k-base)=k by omega]at this;exact this.symm;trivial;rename_i h;simp only[ao,Nat.ble_eq,Nat.blt_eq]at h;show ae k=_;by_cases h1:k<base;exact(aH.cA h1).symm;exact(aH.jr (by simp;omega)).symm
theorem Rh(hn:n<=R0)(ha:∀k,k<n->ae k=bj.aB 0 ds k):∀k,(Q0 n bP k).is ae (jx ds (bP.map (DE.af ae)) k):=by
 intro k;unfold Q0;split;rename_i h;have h:k<n:=by simpa[Nat.blt_eq]using h
 show ae k=_;rw[LR (by omega),ha k h];split;rename_i h;simp only[Nat.ble_eq]at h;split;rename_i d hd;have e:(bP.map (DE.af ae))[k-R0]?=some (d.af ae):=by rw[gL,hd];rfl
 show d.af ae=_;have:=LS (ds:=ds) e;rw[show R0+(k-R0)=k by omega]at this;exact this.symm;trivial;trivial
theorem zd(h:s.ok ae){as:List A}(ha:qV as ds):({s.fi (jz base as.length)with g:=ql base as++(s.fi (jz base as.length)).g}:Sk).ok (ae.aB base ds):=by
 have hk:=LQ (ak:=ae.aB base ds) h (p:=jz base as.length) fun k hk=>uq ha.len.symm hk;refine⟨fun p hp=>?_,hk.q,hk.f⟩;rcases mi.1 hp with hp|hp;exact B5 ha p hp;exact hk.g p hp
theorem H2(h:s.ok ae){a:A}{id:Nat}(ha:a.has d):({s.fi (jz id 1)with g:=(id,a)::(s.fi (jz id 1)).g}:Sk).ok (ae.set id d):=by
 have hk:=LQ (ak:=ae.set id d) h (p:=jz id 1) fun k hk=>FX hk;refine⟨fun p hp=>?_,hk.q,hk.f⟩;rcases bF.1 hp with rfl|hp;simpa[aH.set]using ha;exact hk.g p hp
theorem LV{c:Bool}{v:Vc}(h:(if c=true then []else [v])=[]):c=true:=by
 cases c;cases h;rfl
theorem WG{K:Nat->Option Cn}{key:FuncId->Nat}{an:An}{E:Nat->List DV->List DV->Prop}{ds0:List DV}
   (hK:∀f c,K (key f)=some c->∀ds,c.jA ds->∃rs,E f ds rs/\c.lh ds rs) (hl:∀l∈an.fC,gJ l) (By:out.args.length<=R0) :
   ∀ {t:au} {s:Sk} {ls:List Lc} {d:Nat} {pr:List Nat} {ae:aH} {Ps:List (Int->Prop)} {F:Nat->List DV->Prop},
     s.ok ae->t.s7 K key an out s ls d pr=[]->(∀k,k<out.args.length->k∈pr)->(∀k,k<out.args.length->ae k=bj.aB 0 ds0 k)->WD ae pr ls F->adQ an.er d Ps->t.gY E (out.lh ds0) Ps ae F:=by
 intro t;induction t with
 | ret bP=>
   intro s ls d pr ae Ps F h e hp ha hL hP;simp only[au.s7]at e;obtain⟨e1,e2⟩:=append_nil e;exact⟨u9 h hl e1,xT h hl (Rh By ha) e2⟩
 | stuck w=>
   intro s ls d pr ae Ps F h e hp ha hL hP;have:=nG h hl (by simpa only[au.s7]using e);cases this
 | ev ev t ih=>
   intro s ls d pr ae Ps F h e hp ha hL hP;cases ev with
   | aL p=>
     simp only[au.s7]at e;split at e;rename_i hpv;exact⟨gj h hpv,ih h e hp ha hL hP⟩;obtain⟨e1,e2⟩:=append_nil e;have hd:=nG h hl e1;exact⟨hd,ih (u7 h hd) e2 hp ha hL hP⟩
   |dB p x=>simp[au.s7]at e
   | cH id op=>
     simp only[au.s7]at e;obtain⟨e1,e2⟩:=append_nil e;have hc:=LV e1;simp only[ao]at hc;obtain⟨l1,l2⟩:=Wy h hc.2;have k:=oK (H2 h l1) l2;exact ih k e2 hp (fun j hj=>by rw[<- va hc.1 j (hp j hj)];exact ha j hj) (hL.move (va hc.1)) hP
   | call f g args res base=>
     simp only[au.s7]at e;split at e;cases e;rename_i c hc;obtain⟨ea,e⟩:=append_nil e;obtain⟨eb,e⟩:=append_nil e;obtain⟨ea1,ea2⟩:=append_nil ea;have jU:=LV eb;simp only[ao,Nat.blt_eq]at jU;obtain⟨aX,adR,YT,wa,hsm⟩:=jU;refine⟨fun hg=>?_,fun hg=>?_⟩;have h1:=u7 h hg;have hd:∀k,(uj args 0 base k).is ae (jx (args.map (DE.af ae)) [] k):=Ep (rs:=[]) rfl hsm (fun j d hj=>by simp at hj);have Dm:c.jA (args.map (DE.af ae)):=⟨u9 h1 hl ea1,xT (e2:=bj.aB 0 (args.map (DE.af ae))) h1 hl (fun k=>by
       have:=hd k;rwa[show jx (args.map (DE.af ae)) [] k=bj.aB 0 (args.map (DE.af ae)) k from rfl]at this) ea2⟩
     obtain⟨rs,hE,vx,HN⟩:=hK f c hc _ Dm;refine⟨rs,hE,?_⟩;have hlen:=vx.len;have hA:qV (if g.beq (.c true)then c.res else c.res.map fun a=>a.BW (DC a)) rs:=by
       split;exact vx;exact WB vx
     have Qw:(if g.beq (.c true)then c.res else c.res.map fun a=>a.BW (DC a)).length=c.res.length:=by split<;>simp
     have k3:=zd h (base:=base) hA;rw[Qw]at k3;have fp:args.map (DE.af (ae.aB base rs))=args.map (DE.af ae):=xh fun x hx=>WE hlen.symm (kG.1 adR x hx);have Ol:∀k,(uj args c.res.length base k).is (ae.aB base rs) (jx (args.map (DE.af ae)) rs k):=by
       rw[hlen];exact Ep fp.symm hsm fun j d hj=>aH.ei hj
     have mb:g.af (ae.aB base rs)=true:=by
       rw[BE.aq (fun k hk=>(uq hlen.symm hk).symm) YT];exact hg
     refine ih (oK k3 fun p hp=>?_) e hp (fun j hj=>by rw[<- qW aX hlen.symm j (hp j hj)];exact ha j hj) (hL.move (qW aX hlen.symm)) hP;obtain⟨q,hq,zL⟩:=yR.1 hp;simp only[bH]at zL;obtain⟨q',Pf,rfl⟩:=zL;have:q'.af (ae.aB base rs)=true:=by rw[adP Ol Pf];exact HN q hq
     split;exact this;simp[BE.af,this];have hA:qV (c.res.map fun a=>a.BW (DC a)) (defs (bL res)):=WC wa;have hlen:c.res.length=(defs (bL res)).length:=by have:=hA.len;simpa using this
     have hng:g.beq (.c true)=false:=by
       cases hb:g.beq (.c true)with
       |false=>rfl
       |true=>rw[BE.beq_eq hb]at hg;cases hg
     have k3:=zd h (base:=base) hA;simp only[lS]at k3;have mb:g.af (ae.aB base (defs (bL res)))=false:=by
       rw[BE.aq (fun k hk=>(uq hlen.symm hk).symm) YT];exact hg
     simp only[hng]at e;refine ih (oK k3 fun p hp=>?_) e hp (fun j hj=>by rw[<- qW aX hlen.symm j (hp j hj)];exact ha j hj) (hL.move (qW aX hlen.symm)) hP;obtain⟨q,hq,zL⟩:=yR.1 hp;simp only[bH]at zL;obtain⟨q',Pf,rfl⟩:=zL;simp[BE.af,mb]
 | ite c a b fb fB=>
   intro s ls d pr ae Ps F h e hp ha hL hP;simp only[au.s7]at e;split at e;rename_i hpv;have:=gj h hpv;exact⟨fun hc=>fb (u7 h hc) e hp ha hL hP,fun hc=>(by rw[this]at hc;cases hc)⟩;split at e;rename_i hnv;have:=oy h hnv;exact⟨fun hc=>(by rw[this]at hc;cases hc),fun hc=>fB (wV h hc) e hp ha hL hP⟩;obtain⟨e1,e2⟩:=append_nil e;exact⟨fun hc=>fb (u7 h hc) e1 hp ha hL hP,fun hc=>fB (wV h hc) e2 hp ha hL hP⟩
 | loop id entry ks base body ih=>
   intro s ls d pr ae Ps F h e hp ha hL hP;simp only[au.s7]at e;split at e;cases e;rename_i _ _ v _;obtain⟨e1,e⟩:=append_nil e;obtain⟨e2,e⟩:=append_nil e;obtain⟨e3,e⟩:=append_nil e;have aX:=LV e3;have hen:=u9 h hl e1;have hlen:entry.length=v.as.length:=by have:=hen.len;simpa using this.symm
   refine⟨fun vs=>qV v.as vs/\∀p∈v.ex,p.af (ae.aB base vs)=true,fun vs=>(v.me.af (ae.aB base vs)).toNat,⟨hen,?_⟩,fun vs hi=>?_⟩;refine xT h hl (fun k=>?_) e2;have:=LU (ae:=ae) (base:=base) (bP:=entry) k;rwa[hlen]at this;obtain⟨K8,H3⟩:=hi;have I3:=K8.len;refine ih (oK (zd h K8) H3) e (fun k hk=>Fb _ (hp k hk)) (fun j hj=>by rw[<- qW aX I3.symm j (hp j hj)];exact ha j hj) ?_ hP;intro sV l xl;by_cases lW:sV=id;subst lW;have:(Lc.mk sV base v)=l:=by simpa[List.find?]using xl
   subst this;refine⟨fun k hk=>Bh _ hk,fun us hu hx hm=>?_⟩;simp only[qv,if_pos];have e5:∀us:List DV,us.length=vs.length->(ae.aB base vs).aB base us=ae.aB base us:=fun us hl=>by
     funext k;by_cases h1:k<base;rw[aH.cA h1,aH.cA h1,aH.cA h1];by_cases h2:base+us.length<=k;rw[aH.jr h2,aH.jr (by omega),aH.jr h2];have e:us[k-base]?=some (us[k-base]'(by omega)):=eT _;rw[show k=base+(k-base)by omega,aH.ei e,aH.ei e]
   have hul:us.length=vs.length:=by have:=hu.len;simp only at this;omega
   simp only at hx hm;rw[e5 us hul]at hx hm;exact⟨⟨hu,hx⟩,hm⟩;have:ls.find? (fun l=>Nat.beq l.id sV)=some l:=by
     have cV:Nat.beq id sV=false:=by
       cases hb:Nat.beq id sV with
       |false=>rfl
       |true=>exact absurd (y7 hb).symm lW
     simpa[List.find?,cV]using xl
   obtain⟨g1,g2⟩:=(hL.move (qW aX I3.symm)) sV l this;refine⟨fun k hk=>Fb _ (g1 k hk),fun us hu hx hm=>?_⟩;simp only[qv,if_neg lW];exact g2 us hu hx hm
 | again id bP=>
   intro s ls d pr ae Ps F h e hp ha hL hP;simp only[au.s7]at e;split at e;cases e;rename_i l hf;obtain⟨e1,e⟩:=append_nil e;obtain⟨e2,e⟩:=append_nil e;obtain⟨e3,e⟩:=append_nil e;obtain⟨g1,g2⟩:=hL id l hf;have hv:=u9 h hl e1;have hlen:bP.length=l.iv.as.length:=by have:=hv.len;simpa using this.symm
   have Ol:∀k,(Oh l.base l.iv.as.length bP k).is ae (ae.aB l.base (bP.map (DE.af ae)) k):=fun k=>by
     have:=LU (ae:=ae) (base:=l.base) (bP:=bP) k;rwa[hlen]at this
   refine g2 _ hv (xT h hl Ol e2) ?_;have h3:=mW (nG h hl e3);split at e;rename_i me hme;have h4:=mW (nG h hl e);rw[H0 Ol hme]at h4;simp only[IE.af]at h3;omega;cases e
 | fail x=>
   intro s ls d pr ae Ps F h e hp ha hL hP;simp only[au.s7]at e;split at e;cases e;rename_i hd;obtain⟨e1,e2⟩:=append_nil e;cases d with
   |zero=>exact absurd rfl hd
   | succ d=>
     cases Ps with
     |nil=>exact hP.elim
     | cons p ps=>
       exact hP.1 _ (mW (nG h hl e1)) (mW (nG h hl e2))
 | fO x tp t DB ih=>
   intro s ls d pr ae Ps F h e hp ha hL hP;simp only[au.s7]at e;obtain⟨e1,e⟩:=append_nil e;obtain⟨e2,e3⟩:=append_nil e;have aX:=LV e1;refine ih (Ps:=_::Ps) h e3 hp ha hL ⟨fun n h1 h2=>?_,hP⟩;rw[if_neg (by omega)]at e2;exact DB (H2 h (a:=.i an.er.1 an.er.2) (d:=.i n) ⟨h1,h2⟩) e2 hp (fun j hj=>by rw[<- va aX j (hp j hj)];exact ha j hj) (hL.move (va aX)) hP
 | pop t ih=>
   intro s ls d pr ae Ps F h e hp ha hL hP;simp only[au.s7]at e;split at e;cases e;rename_i hd;cases d with
   |zero=>exact absurd rfl hd
   | succ d=>
     cases Ps with
     |nil=>exact hP.elim
     |cons p ps=>exact ih h e hp ha hL hP.2
theorem WH{T:Nat->Option ir}{X:bY}{e:ir}{K:Nat->Option Cn}{an:An}(hk:T k=some e)
   (hK:∀j c,K j=some c->vy T X j c.jA c.lh) (hl:∀l∈an.fC,gJ l) (By:Nat.ble out.args.length R0=true) (hc:(Q1 K e.key an out e.tree).isEmpty=true):vy T X k out.jA out.lh:=by
 intro ds hp;refine ov hk ?_;have h0:(xQ out).ok (bj.aB 0 ds):=by
   refine oK ⟨fun p BH=>B5 hp.1 p BH,fun l hl=>(by cases hl),fun p hp=>(by cases hp)⟩ hp.2
 exact WG (ds0:=ds) (fun f c hc ds hd=>hK _ c hc ds hd) hl (by simpa[Nat.ble_eq]using By) h0 (List.isEmpty_iff.1 hc) (fun k hk=>wq.2 hk) (fun k _=>rfl) (fun id l h=>by cases h) trivial
end
section
variable{T:Nat->Option ir}{X:bY}{k:Nat}{ks:List Nat}
def lN{α:Type}(k:Nat):List (Nat×α)->Option α
 | []=>none
 |(j,a)::r=>if Nat.beq j k then some a else lN k r
theorem Er{α:Type}{a:α}:∀ {l:List (Nat×α)},lN k l=some a->(k,a)∈l:=by
 intro l;induction l with
 |nil=>intro h;cases h
 | cons x l ih=>
   intro h;obtain⟨j,b⟩:=x;unfold lN at h;split at h;rename_i e;cases h;rw[y7 e];exact aU ..;exact bn _ (ih h)
structure oL where
 f:FuncId
 adS:kS
 sl:List (FuncId×bW)
 s:bW
 sub:List (FuncId×Nat)
def oL.aR(r:oL):kS:={r.adS with sig:=tR r.sl}
def FY:Nat:=6000
def gV(P:Program)(r:oL):au:=match P.funcs[r.f]? with
 |some fn=>prune [] (tP P r.aR r.f fn r.s FY)
 |none=>.stuck ""
def mO(P:Program)(t:List (Nat×oL))(k:Nat):Option ir:=match lN k t with
 |some r=>some ⟨r.f,gV P r,r.sub⟩
 |none=>none
def Kof(kc:Nat->Cn)(ks:List Nat)(j:Nat):Option Cn:=if ks.any (Nat.beq j)then some (kc j)else none
def sr(T:Nat->Option ir)(X:bY)(kc:Nat->Cn)(ks:List Nat):Prop:=∀j∈ks,vy T X j (kc j).jA (kc j).lh
def WI(T:Nat->Option ir)(kc:Nat->Cn)(an:Nat->An)(ks:List Nat)(k:Nat):Bool:=match T k with
 |some e=>Nat.ble (kc k).args.length R0&&(Q1 (Kof kc ks) e.key (an k) (kc k) e.tree).isEmpty
 |none=>false
theorem aaD{kc:Nat->Cn}(h:sr T X kc ks):∀j c,Kof kc ks j=some c->vy T X j c.jA c.lh:=fun j c hj=>by
 unfold Kof at hj;split at hj;rename_i hm;cases hj;obtain⟨x,hx,hb⟩:=mr.1 hm;rw[y7 hb];exact h x hx;cases hj
theorem aJ{kc:Nat->Cn}{an:Nat->An}(hl:∀k,∀l∈(an k).fC,gJ l)(h:sr T X kc ks)(e:WI T kc an ks k=true):vy T X k (kc k).jA (kc k).lh:=by
 unfold WI at e;split at e;rename_i en hk;simp only[ao]at e;exact WH (X:=X) hk (aaD h) (hl k) e.1 e.2;cases e
theorem sr.next{kc:Nat->Cn}{l:List Nat}{i:Nat}(h:sr T X kc (l.take i))(hk:l[i]?=some k)(g:vy T X k (kc k).jA (kc k).lh):sr T X kc (l.take (i+1)):=fun j hj=>by
 rw[List.take_add_one,hk]at hj;rcases mi.1 hj with hj|hj;exact h j hj;rcases kL.1 hj with rfl;exact g
theorem sr.mono{kc:Nat->Cn}{ls:List Nat}(h:sr T X kc ks)(hs:(ls.all fun j=>ks.any (Nat.beq j))=true):sr T X kc ls:=fun j hj=>by
 obtain⟨x,hx,hb⟩:=mr.1 (kG.1 hs j hj);rw[y7 hb];exact h x hx
theorem sr.and{kc:Nat->Cn}(h:sr T X kc ks)(g:vy T X k (kc k).jA (kc k).lh):sr T X kc (k::ks):=fun j hj=>by
 rcases bF.1 hj with rfl|hj;exact g;exact h j hj
end
section
variable{α:Type}
def fN{α:Type}(n:Nat)(k:Nat->α):α:=match n with
 |0=>k 0
 |.succ m=>k (.succ m)
theorem YX(n:Nat)(k:Nat->α):fN n k=k n:=by cases n<;>rfl
def fI{α:Type}(n:Int)(k:Int->α):α:=match n with
 |.ofNat m=>fN m fun m=>k (.ofNat m)
 |.negSucc m=>fN m fun m=>k (.negSucc m)
theorem Es(n:Int)(k:Int->α):fI n k=k n:=by cases n<;>simp only[fI,YX]
def fL{α β:Type}(f:β->(β->α)->α):List β->(List β->α)->α
 | [],k=>k []
 |x::xs,k=>f x fun x=>fL f xs fun xs=>k (x::xs)
theorem Cb{β:Type}{f:β->(β->α)->α}(h:∀x k,f x k=k x):∀(xs:List β) (k:List β->α),fL f xs k=k xs:=by
 intro xs;induction xs with
 |nil=>intro k;rfl
 |cons x xs ih=>intro k;simp only[fL,h,ih]
def fD{α:Type}(d:DV)(k:DV->α):α:=match d with
 |.i n=>fI n fun n=>k (.i n)
 | .b b=>match b with
   |true=>k (.b true)
   |false=>k (.b false)
 |.l xs=>fL (fL fI) xs fun xs=>k (.l xs)
theorem YY(d:DV)(k:DV->α):fD d k=k d:=by
 cases d with
 |i n=>simp only[fD,Es]
 |b b=>cases b<;>rfl
 | l xs=>
   simp only[fD];exact Cb (f:=fL fI) (fun x k=>Cb (fun x k=>Es x k) x k) xs (fun xs=>k (.l xs))
def fDs{α:Type}(ds:List DV)(k:List DV->α):α:=fL fD ds k
theorem F3(ds:List DV)(k:List DV->α):fDs ds k=k ds:=Cb (fun x k=>YY x k) _ _
def qY:List (Nat×DV)->aH
 | [],k=>bj k
 | (j,d)::r,k=>match Nat.beq j k with
   |true=>d
   |false=>qY r k
theorem ze(j:Nat)(d:DV)(E:List (Nat×DV)):qY ((j,d)::E)=(qY E).set j d:=by
 funext k;unfold qY aH.set;split;rename_i h;rw[if_pos (mq h).symm];rename_i h;rw[if_neg (fun e=>by rw[e,Nat.beq_refl]at h;cases h)]
def Cc(E:List (Nat×DV))(k:Nat):List DV->List (Nat×DV)
 | []=>E
 |d::ds=>Cc ((k,d)::E) (k+1) ds
theorem Cd:∀(ds:List DV) (E:List (Nat×DV)) (k:Nat),qY (Cc E k ds)=(qY E).aB k ds:=by
 intro ds;induction ds with
 |nil=>intro E k;rfl
 |cons d ds ih=>intro E k;rw[Cc,ih,ze];rfl
def au.oX(C:bY)(N:Nat):au->List (Int->Option (List DV))->List (Nat×DV)->sM->Option (List DV)
 |.ret bP,_,E,_=>fDs (bP.map (DE.af (qY E))) some
 |.stuck _,_,_,_=>none
 | .ev (.aL p) t,Ps,E,F=>match p.af (qY E)with
   |true=>t.oX C N Ps E F
   |false=>none
 | .ev (.call f g args res base) t,Ps,E,F=>match g.af (qY E)with
   | true=>fDs (args.map (DE.af (qY E))) fun as=>match C f as with
     |some rs=>fDs rs fun rs=>t.oX C N Ps (Cc E base rs) F
     |none=>none
   |false=>t.oX C N Ps (Cc E base (defs (bL res))) F
 |.ev (.cH id op) t,Ps,E,F=>fD (.l (op.af (qY E))) fun d=>t.oX C N Ps ((id,d)::E) F
 |.ev (.dB _ _) _,_,_,_=>none
 | .ite c a b,Ps,E,F=>match c.af (qY E)with
   |true=>a.oX C N Ps E F
   |false=>b.oX C N Ps E F
 |.loop id entry _ base body,Ps,E,F=>fDs (entry.map (DE.af (qY E))) fun ds=>iter (fun rec ds=>fDs ds fun ds=>body.oX C N Ps (Cc E base ds) (BT F id rec)) N ds
 |.again id bP,_,E,F=>fDs (bP.map (DE.af (qY E))) fun ds=>F id ds
 | .fail e,Ps,E,_=>match Ps with
   |p::_=>fI (e.af (qY E)) fun n=>p n
   | []=>none
 |.fO x tp t,Ps,E,F=>t.oX C N ((fun n=>tp.oX C N Ps ((x,.i n)::E) F)::Ps) E F
 | .pop t,Ps,E,F=>match Ps with
   |_::z7=>t.oX C N z7 E F
   | []=>none
theorem WM{C:bY}{N:Nat}:∀(t:au) (Ps:List (Int->Option (List DV))) (E:List (Nat×DV)) (F:sM),t.oX C N Ps E F=t.run C N Ps (qY E) F:=by
 intro t;induction t with
 |ret bP=>intro Ps E F;simp only[au.oX,au.run,F3]
 |stuck s=>intro Ps E F;rfl
 | ev e t ih=>
   intro Ps E F;cases e with
   | aL p=>
     simp only[au.oX,au.run,Ev.run];cases h:p.af (qY E);simp;simp[ih]
   | call f g args res base=>
     simp only[au.oX,au.run,Ev.run,F3,ih,Cd];cases h:g.af (qY E);simp;simp only[if_true];cases C f (List.map (DE.af (qY E)) args)<;>rfl
   |cH id op=>simp only[au.oX,au.run,Ev.run,YY,ih,ze]
   |dB p e=>rfl
 | ite c a b fb fB=>
   intro Ps E F;simp only[au.oX,au.run,fb,fB];cases h:c.af (qY E)<;>simp
 | loop id es ks base body ih=>
   intro Ps E F;simp only[au.oX,au.run,F3,ih,Cd]
 |again id bP=>intro Ps E F;simp only[au.oX,au.run,F3]
 |fail e=>intro Ps E F;cases Ps<;>simp only[au.oX,au.run,Es]
 | fO x tp t DB ih=>
   intro Ps E F;simp only[au.oX,au.run,ih,DB,ze]
 |pop t ih=>intro Ps E F;cases Ps<;>simp only[au.oX,au.run,ih]
def LZ:Int->Int->Bool
 |.ofNat a,.ofNat b=>Nat.beq a b
 |.negSucc a,.negSucc b=>Nat.beq a b
 |_,_=>false
theorem ur{a b:Int}(h:LZ a b=true):a=b:=by
 cases a<;>cases b<;>simp only[LZ]at h;rw[mq h];cases h;cases h;rw[mq h]
def L0{α:Type}(f:α->α->Bool):List α->List α->Bool
 | [],[]=>true
 | a::as,b::bs=>match f a b with
   |true=>L0 f as bs
   |false=>false
 |_,_=>false
theorem qn{f:α->α->Bool}(hf:∀a b,f a b=true->a=b):∀ {as bs:List α},L0 f as bs=true->as=bs:=by
 intro as;induction as with
 | nil=>intro bs h;cases bs with
   |nil=>rfl
   |cons b bs=>cases h
 | cons a as ih=>intro bs h;cases bs with
   |nil=>cases h
   | cons b bs=>
     unfold L0 at h;split at h;rename_i e;rw[hf _ _ e,ih h];cases h
def eqD:DV->DV->Bool
 |.i a,.i b=>LZ a b
 | .b a,.b b=>match a,b with
   |true,true=>true
   |false,false=>true
   |_,_=>false
 |.l a,.l b=>L0 (L0 LZ) a b
 |_,_=>false
theorem Rk{a b:DV}(h:eqD a b=true):a=b:=by
 cases a<;>cases b<;>simp only[eqD]at h<;>first|cases h|skip
 rw[ur h]
 . rename_i x y;cases x<;>cases y<;>simp_all
 rw[qn (fun a b h=>qn (fun a b h=>ur h) h) h]
def eqO:Option (List DV)->List DV->Bool
 |some a,b=>L0 eqD a b
 |none,_=>false
theorem aaF{a:Option (List DV)}{b:List DV}(h:eqO a b=true):a=some b:=by
 cases a with
 |none=>cases h
 |some a=>rw[qn (fun a b h=>Rk h) (show L0 eqD a b=true from h)]
abbrev kC:=Nat×List DV×List DV
def H5(k:Nat)(ds:List DV):List kC->Option (List DV)
 | []=>none
 | (j,as,rs)::r=>match Nat.beq j k with
   | true=>match L0 eqD as ds with
     |true=>some rs
     |false=>H5 k ds r
   |false=>H5 k ds r
theorem Oo{k:Nat}{ds rs:List DV}:∀ {tb:List kC},H5 k ds tb=some rs->(k,ds,rs)∈tb:=by
 intro tb;induction tb with
 |nil=>intro h;cases h
 | cons x tb ih=>
   intro h;obtain⟨j,as,r⟩:=x;unfold H5 at h;split at h;rename_i e;split at h;rename_i e';cases h;rw[mq e,qn (fun a b h=>Rk h) e'];exact aU ..;exact bn _ (ih h);exact bn _ (ih h)
def Oq(T:Nat->Option ir)(X:bY):List kC->Prop
 | []=>True
 |x::r=>eR T X x.1 x.2.1 x.2.2/\Oq T X r
theorem Oq.fuel{T:Nat->Option ir}{X:bY}:∀ {tb:List kC},Oq T X tb->∃n,∀x∈tb,ev T X n x.1 x.2.1=some x.2.2:=by
 intro tb;induction tb with
 |nil=>intro _;exact⟨0,fun x h=>(by cases h)⟩
 | cons x tb ih=>
   intro h;obtain⟨⟨n,hn⟩,hr⟩:=h;obtain⟨m,hm⟩:=ih hr;refine⟨max n m,fun y hy=>?_⟩;rcases bF.1 hy with rfl|hy;exact gT n _ _ _ (Nat.le_max_left ..) _ hn;exact gT m _ _ _ (Nat.le_max_right ..) _ (hm y hy)
end
section
variable {K:Nat->Option Cn}{key:FuncId->Nat}{an:An}{out:Cn}
def eqN(x n:Nat):BE:=.eq (.v x) (.c (n:Int))
def ksN(x:Nat)(ks:List BE):Nat->List BE
 |0=>ks
 |n+1=>(BE.not (eqN x n)).mk::ksN x ks n
def sN(x:Nat)(s:Sk):Nat->Sk
 |0=>s
 |n+1=>(sN x s n).pG (eqN x n)
def xU(P:Program)(r:oL)(aR:kS)(g:St->St):au:=match P.funcs[r.f]? with
 | some fn=>match fn.body with
   |some c=>exec P aR FY none [] r.f fn [.code c] (g (start fn r.s.args)) (if r.s.cons=0 then rX r.s.res else og r.s)
   |none=>.stuck "no body"
 |none=>.stuck ""
def WJ(x m:Nat):List (Nat×Int):=(List.range m).map fun(v:Nat)=>(x,(v:Int))
def LW(K:Nat->Option Cn)(key:FuncId->Nat)(an:An)(out:Cn)(rs:List CT)(s:Sk)(t:au):Bool:=(t.s7 K key an out s [] 0 (List.range out.args.length)).isEmpty&&t.nB rs
def LX(P:Program)(r:oL)(K:Nat->Option Cn)(key:FuncId->Nat)(an:An)(out:Cn)(x n:Nat):Bool:=
 LW K key an out (bL r.s.res) ((sN x (xQ out) n).xP (eqN x n)) (prune (jP (eqN x n) (ksN x [] n)) (xU P r r.aR fun st=>st.fix x n))
def H4(P:Program)(r:oL)(K:Nat->Option Cn)(key:FuncId->Nat)(an:An)(out:Cn)(x m:Nat):Bool:=
 LW K key an out (bL r.s.res) (sN x (xQ out) m) (prune (ksN x [] m) (xU P r {r.aR with no:=WJ x m} id))
theorem FZ{P:Program}{r:oL}{x m:Nat}{fn:Func}{c:Code}(mF:P.funcs[r.f]?=some fn)(hc:fn.body=some c)(hs:r.aR.Ff=some (x,m))(hx:decide (x<(start fn r.s.args).next)=true) :
   gV P r=prune [] (Bw x (fun v=>xU P r r.aR fun st=>st.fix x v) (xU P r {r.aR with no:=WJ x m} id) (List.range' 0 m)):=by
 rw[<- List.range_eq_range'];simp only[gV,mF,tP,hc,hs,hx,if_true,xU,WJ,id]
theorem J8{P:Program}{r:oL}{x m:Nat}{fn:Func}{c:Code}(mF:P.funcs[r.f]?=some fn)(hc:fn.body=some c)(hs:r.aR.Ff=some (x,m))(hx:decide (x<(start fn r.s.args).next)=true)
   (hp:∀n,n<m->LX P r K key an out x n=true) (hr:H4 P r K key an out x m=true):(gV P r).nB (bL r.s.res)=true:=by
 rw[FZ mF hc hs hx];have key:∀(j n:Nat),n+j=m->(prune (ksN x [] n) (Bw x (fun v=>xU P r r.aR fun st=>st.fix x v) (xU P r {r.aR with no:=WJ x m} id) (List.range' n j))).nB (bL r.s.res)=true:=by
   intro j;induction j with
   | zero=>
     intro n hn;have:n=m:=by omega
     subst this;simp only[H4,LW,ao]at hr;exact hr.2
   | succ j ih=>
     intro n hn;have h1:=hp n (by omega);simp only[LX,LW,ao]at h1;have h2:=ih (n+1) (by omega);show(au.ite _ _ _).nB _=true;simp only[au.nB,ao];exact⟨h1.2,h2⟩
 exact key m 0 (by omega)
end
section
variable {P:Program}
def Rj(qX:Nat->Option bW)(lG:List (Nat×oL))(key:FuncId->Nat)(sl:List (FuncId×bW))(g:FuncId):Bool:=match tR sl g with
 | some s'=>decide (qX (key g)=some s')&&Nat.beq (match lN (key g) lG with
   |some r=>r.f
   |none=>key g) g
 |none=>false
def WL(lG:List (Nat×oL))(xs:List Nat)(k:Nat):Bool:=(lN k lG).isSome||xs.any (Nat.beq k)
structure Kind where
 aL:FuncId
 yS:FuncId
 cZ:TypeId
 qh:TypeId
 Au:FuncId
 zN:List (Nat×List Int)
def adT(k:Kind)(c:kS):Bool:=decide (c.aL=some k.aL)&&(decide (c.yS=some k.yS)&&(decide (c.cZ=k.cZ)&&(decide (c.qh=k.qh)&&(decide (c.Au=some k.Au)&&(decide (c.zN=k.zN)&&c.no.isEmpty)))))
def fnB(P:Program)(f:FuncId):Bool:=match P.funcs[f]? with
 |some fn=>fn.body.isSome && !(fn.name == "runtime.NumGoroutine")
 |none=>false
def On(P:Program)(kd:Kind)(qX:Nat->Option bW)(lG:List (Nat×oL))(xs:List Nat)(k:Nat)(r:oL):Bool:=
 adT kd r.adS && (fnB P r.f && (decide (qX k=some r.s)&&(r.sl.all (fun p=>Rj qX lG (ir.key ⟨r.f,.stuck "",r.sub⟩) r.sl p.1) &&
   (lG.map (·.1)++xs).all fun j=>(r.sub.any fun p=>Nat.beq p.1 j)||(tR r.sl j).isSome)&&(r.sub.all fun p=>(tR r.sl p.1).isSome || !WL lG xs p.2)))
def kindOk(P:Program)(kd:Kind):Prop:=∀aR:kS,aR.aL=some kd.aL->aR.yS=some kd.yS->aR.cZ=kd.cZ->aR.qh=kd.qh->aR.Au=some kd.Au->ke P aR
theorem Ka{l:List (FuncId×bW)}{g:FuncId}{s:bW}(h:tR l g=some s):∃p∈l,p.1=g:=by
 unfold tR at h;simp only[bH]at h;obtain⟨p,hp,_⟩:=h;exact⟨p,A8 hp,by have:=List.find?_some hp;simpa using this⟩
theorem aaE{Wd:World->Prop}{kd:Kind}{qX:Nat->Option bW}{lG:List (Nat×oL)}{xs:List Nat}{k:Nat}{r:oL}(hk:kindOk P kd)(hw:∀w,Wd w->∀g cs,(g,cs)∈kd.zN->∃T z,w.heap[g]?=some (.cells (cs.map fun n=>Value.int .i64 n).toArray T z))
   (h:On P kd qX lG xs k r=true) (hr:(gV P r).nB (bL r.s.res)=true):YN P Wd (mO P lG) (fun k=>xs.any (Nat.beq k)) qX k ⟨r.f,gV P r,r.sub⟩:=by
 simp only[On,adT,fnB,ao,aM]at h;obtain⟨⟨c1,c2,c3,c4,c5,c6,c7⟩,hf,⟨hs,yW,aaf⟩,fv⟩:=h;split at hf;rename_i fn mF;simp only[ao,nQ,A6]at hf;obtain⟨⟨c,hc⟩,hn⟩:=hf;refine⟨r.aR,fn,c,FY,r.s,⟨by simpa[oL.aR]using List.isEmpty_iff.1 c7,hr⟩,hs,hk r.aR c1 c2 c3 c4 c5,?_,?_,mF,hc,hn,?_,fun w Jf g cs hg=>hw w Jf g cs (by rw[<- c6];exact hg)⟩;intro g s' hg;have hg:tR r.sl g=some s':=hg;obtain⟨p,hp,rfl⟩:=Ka hg;have:=kG.1 yW p hp;simp only[Rj,hg,ao,aM]at this;refine⟨this.1,?_⟩;have e:=y7 this.2;show pF (mO P lG) (ir.key ⟨r.f,.stuck "",r.sub⟩ p.1)=p.1;unfold pF mO;split at e;rename_i r' cY;first|exact e|(rw[cY];exact e)
 rename_i cY;first|exact e|(rw[cY];exact e)
 intro g hg;show(tR r.sl g).isSome=true;have hd:WL lG xs (ir.key ⟨r.f,gV P r,r.sub⟩ g)=true:=by
   unfold vO mO at hg;unfold WL;cases hl:lN (ir.key ⟨r.f,gV P r,r.sub⟩ g) lG with
   |none=>simpa[hl]using hg
   |some r'=>simp
 cases VR:r.sub.find? (fun p=>p.1==g)with
 | some p=>
   have e:ir.key ⟨r.f,gV P r,r.sub⟩ g=p.2:=by simp only[ir.key,VR]
   have e2:p.1=g:=by have:=List.find?_some VR;simpa using this
   have:=kG.1 fv p (A8 VR);rw[e]at hd;simp only[hd,Bool.not_true,Bool.or_false]at this;rw[<- e2];exact this
 | none=>
   have e:ir.key ⟨r.f,gV P r,r.sub⟩ g=g:=by simp only[ir.key,VR]
   rw[e]at hd;have hm:g∈lG.map (·.1)++xs:=by
     unfold WL at hd;simp only[ig]at hd;rcases hd with hd|hd;obtain⟨r',cY⟩:=A6.1 hd;exact Bh _ (jO.2 ⟨_,Er cY,rfl⟩);obtain⟨x,hx,hb⟩:=mr.1 hd;rw[y7 hb];exact Fb _ hx
   have:=kG.1 aaf g hm;simp only[ig]at this;rcases this with this|this;obtain⟨p,hp,hb⟩:=mr.1 this;have:=List.find?_eq_none.1 VR p hp;simp[y7 hb]at this;exact this
 show prune [] (tP P r.aR r.f fn r.s FY)=gV P r;simp only[gV,mF];cases hf
end
section
def au.strip(S:BE->Bool):au->au
 |.ret bP=>.ret bP
 |.stuck w=>.stuck w
 |.ev (.aL p) t=>if S p then t.strip S else .ev (.aL p) (t.strip S)
 |.ev (.call f g args res base) t=>.ev (.call f g args res base) (t.strip S)
 |.ev (.cH id op) t=>.ev (.cH id op) (t.strip S)
 |.ev (.dB p e) t=>.ev (.dB p e) (t.strip S)
 |.ite c a b=>.ite c (a.strip S) (b.strip S)
 |.loop id en ks base t=>.loop id en ks base (t.strip S)
 |.again id bP=>.again id bP
 |.fail e=>.fail e
 |.fO x a b=>.fO x (a.strip S) (b.strip S)
 |.pop t=>.pop (t.strip S)
end
section
def au.fK(K:Nat->Option Cn)(key:FuncId->Nat)(an:An)(out:Cn):au->List Bool->Sk->List Lc->Nat->List Nat->List Vc
 |.ev (.aL q) t,p,s,ls,d,pr=>if s.pv 0 q then t.fK K key an out p s ls d pr else s.ask an.fC q++t.fK K key an out p (s.xP q) ls d pr
 | .ev (.call f g args res base) t,p,s,ls,d,pr=>match K (key f)with
   |none=>[bad s]
   | some c=>
     let m:=c.res.length
     let s1:=s.xP g
     let vs:=s1.ui an.fC args c.args++s1.asks an.fC (uj args 0 base) c.pre
     let ok:=free pr base m&&(args.all (DE.off base m)&&(g.all (jz base m)&&(sm (bL res) c.res&&Nat.blt args.length R0)))
     let s2:=s.fi (jz base m)
     let σ:=uj args m base
     let s3:Sk:={s2 with g:=ql base (if g.beq (.c true)then c.res else c.res.map fun a=>a.BW (DC a))++s2.g}
     let s4:=s3.nC (c.post.filterMap fun p=>(p.put σ).map fun p'=>if g.beq (.c true)then p' else .or (.not g) p')
     vs++((if ok then []else [bad s])++t.fK K key an out p s4 ls d pr)
 |.ev (.cH id op) t,p,s,ls,d,pr=>
     let x:=s.P4 id op
     let s2:=s.fi (jz id 1)
     let s3:Sk:={s2 with g:=(id,x.1)::s2.g}
     (if free pr id 1&&op.all (jz id 1)then []else [bad s])++t.fK K key an out p (s3.nC x.2) ls d pr
 |.ite c a b,p,s,ls,d,pr=>if s.pv 1 c then a.fK K key an out p (s.xP c) ls d pr else if s.nv 1 c then b.fK K key an out p (s.pG c) ls d pr
     else match p with
       | []=>a.fK K key an out [] (s.xP c) ls d pr++b.fK K key an out [] (s.pG c) ls d pr
       |true::p=>a.fK K key an out p (s.xP c) ls d pr
       |false::p=>b.fK K key an out p (s.pG c) ls d pr
 | .loop id entry tys base body,p,s,ls,d,pr=>match an.loops.find? fun x=>Nat.beq x.1 id&&Nat.beq x.2.1 base with
   |none=>[bad s]
   | some (_,_,v)=>
     let n:=v.as.length
     let s2:=s.fi (jz base n)
     let s3:Sk:={s2 with g:=ql base v.as++s2.g}
     s.ui an.fC entry v.as++(s.asks an.fC (Oh base n entry) v.ex++((if free pr base n then []else [bad s]) ++
       body.fK K key an out p (s3.nC v.ex) (⟨id,base,v⟩::ls) d (v.names++pr)))
 |.fO x tp t,p,s,ls,d,pr=>
     let s2:=s.fi (jz x 1)
     match p with
     | []=>(if free pr x 1 then []else [bad s])++((if an.er.2<an.er.1 then []else tp.fK K key an out [] {s2 with g:=(x,.i an.er.1 an.er.2)::s2.g} ls d pr)++t.fK K key an out [] s ls (d+1) pr)
     |true::p=>(if free pr x 1 then []else [bad s])++(if an.er.2<an.er.1 then []else tp.fK K key an out p {s2 with g:=(x,.i an.er.1 an.er.2)::s2.g} ls d pr)
     |false::p=>t.fK K key an out p s ls (d+1) pr
 |.pop t,p,s,ls,d,pr=>if d=0 then [bad s]else t.fK K key an out p s ls (d-1) pr
 |t,_,s,ls,d,pr=>t.s7 K key an out s ls d pr
variable {K:Nat->Option Cn}{key:FuncId->Nat}{an:An}{out:Cn}
theorem Ri:∀(t:au) (s:Sk) (ls:List Lc) (d:Nat) (pr:List Nat),t.fK K key an out [] s ls d pr=t.s7 K key an out s ls d pr:=by
 intro t;induction t with
 |ret bP=>intro s ls d pr;simp only[au.fK]
 |stuck m=>intro s ls d pr;simp only[au.fK]
 | ev e t ih=>
   intro s ls d pr;cases e with
   |aL q=>simp only[au.fK,au.s7,ih]
   |call f g args res base=>cases hK:K (key f)<;>simp only[au.fK,au.s7,ih,hK]
   |cH id op=>simp only[au.fK,au.s7,ih]
   |dB a b=>simp only[au.fK]
 |ite c a b fb fB=>intro s ls d pr;simp only[au.fK,au.s7,fb,fB]
 | loop id entry tys base body ih=>
   intro s ls d pr;cases hL:(an.loops.find? fun x=>Nat.beq x.1 id&&Nat.beq x.2.1 base)<;>simp only[au.fK,au.s7,ih,hL]
 |again id bP=>intro s ls d pr;simp only[au.fK]
 |fail e=>intro s ls d pr;simp only[au.fK]
 |fO x tp t iht ih=>intro s ls d pr;simp only[au.fK,au.s7,iht,ih]
 |pop t ih=>intro s ls d pr;simp only[au.fK,au.s7,ih]
theorem eW{α:Type}{a b:List α}:a++b=[]↔a=[]/\b=[]:=List.append_eq_nil_iff
theorem J9:∀(t:au) {p:List Bool} {s:Sk} {ls:List Lc} {d:Nat} {pr:List Nat},t.fK K key an out (p++[true]) s ls d pr=[]->t.fK K key an out (p++[false]) s ls d pr=[]->t.fK K key an out p s ls d pr=[]:=by
 intro t;induction t with
 |ret bP=>intro p s ls d pr h1 _;simpa only[au.fK]using h1
 |stuck m=>intro p s ls d pr h1 _;simpa only[au.fK]using h1
 | ev e t ih=>
   intro p s ls d pr h1 h2;cases e with
   | aL q=>
     simp only[au.fK]at h1 h2 ⊢;split at h1;rename_i h;rw[if_pos h]at h2 ⊢;exact ih h1 h2;rename_i h;rw[if_neg h]at h2 ⊢;rw[eW]at h1 h2 ⊢;exact⟨h1.1,ih h1.2 h2.2⟩
   | call f g args res base=>
     cases hK:K (key f);simp only[au.fK,hK]at h1;cases h1;simp only[au.fK,hK]at h1 h2 ⊢;have a1:=eW.1 h1;have a2:=eW.1 a1.2;have b2:=eW.1 (eW.1 h2).2;exact eW.2 ⟨a1.1,eW.2 ⟨a2.1,ih a2.2 b2.2⟩⟩
   | cH id op=>
     simp only[au.fK]at h1 h2 ⊢;rw[eW]at h1 h2 ⊢;exact⟨h1.1,ih h1.2 h2.2⟩
   |dB a b=>simpa only[au.fK]using h1
 | ite c a b fb fB=>
   intro p s ls d pr h1 h2;simp only[au.fK]at h1 h2 ⊢;split at h1;rename_i h;rw[if_pos h]at h2 ⊢;exact fb h1 h2;rename_i h;rw[if_neg h]at h2 ⊢;split at h1;rename_i h;rw[if_pos h]at h2 ⊢;exact fB h1 h2;rename_i h;rw[if_neg h]at h2 ⊢
   match p,h1,h2 with
   | [],h1,h2=>exact eW.2 ⟨h1,h2⟩
   |true::p,h1,h2=>exact fb h1 h2
   |false::p,h1,h2=>exact fB h1 h2
 | loop id entry tys base body ih=>
   intro p s ls d pr h1 h2;cases hL:(an.loops.find? fun x=>Nat.beq x.1 id&&Nat.beq x.2.1 base);simp only[au.fK,hL]at h1;cases h1;simp only[au.fK,hL]at h1 h2 ⊢;have a1:=eW.1 h1;have a2:=eW.1 a1.2;have a3:=eW.1 a2.2;have b3:=eW.1 (eW.1 (eW.1 h2).2).2;exact eW.2 ⟨a1.1,eW.2 ⟨a2.1,eW.2 ⟨a3.1,ih a3.2 b3.2⟩⟩⟩
 |again id bP=>intro p s ls d pr h1 _;simpa only[au.fK]using h1
 |fail e=>intro p s ls d pr h1 _;simpa only[au.fK]using h1
 | fO x tp t iht ih=>
   intro p s ls d pr h1 h2
   match p,h1,h2 with
   | [],h1,h2=>
     simp only[nc,au.fK]at h1 h2 ⊢;rw[eW]at h1;exact eW.2 ⟨h1.1,eW.2 ⟨h1.2,h2⟩⟩
   | true::p,h1,h2=>
     simp only[ta,au.fK]at h1 h2 ⊢;rw[eW]at h1 h2 ⊢;refine⟨h1.1,?_⟩;have a1:=h1.2;have a2:=h2.2;split at a1;rename_i h;rw[if_pos h];rename_i h;rw[if_neg h]at a2 ⊢;exact iht a1 a2
   | false::p,h1,h2=>
     simp only[ta,au.fK]at h1 h2 ⊢;exact ih h1 h2
 | pop t ih=>
   intro p s ls d pr h1 h2;simp only[au.fK]at h1 h2 ⊢;split at h1;rename_i h;rw[if_pos h];exact h1;rename_i h;rw[if_neg h]at h2 ⊢;exact ih h1 h2
def Om(P:Program)(r:oL)(K:Nat->Option Cn)(key:FuncId->Nat)(an:An)(out:Cn)(x n:Nat)(p:List Bool):Bool:=
 ((prune (jP (eqN x n) (ksN x [] n)) (xU P r r.aR fun st=>st.fix x n)).fK K key an out p ((sN x (xQ out) n).xP (eqN x n)) [] 0 (List.range out.args.length)).isEmpty
theorem gE{P:Program}{r:oL}{x n:Nat}{p:List Bool}(h1:Om P r K key an out x n (p++[true])=true)(h2:Om P r K key an out x n (p++[false])=true):Om P r K key an out x n p=true:=
 List.isEmpty_iff.2 (J9 _ (List.isEmpty_iff.1 h1) (List.isEmpty_iff.1 h2))
def YU(P:Program)(r:oL)(x n:Nat):Bool:=(prune (jP (eqN x n) (ksN x [] n)) (xU P r r.aR fun st=>st.fix x n)).nB (bL r.s.res)
theorem J'{P:Program}{r:oL}{x n:Nat}(h:Om P r K key an out x n []=true)(hr:YU P r x n=true):LX P r K key an out x n=true:=by
 unfold Om at h;rw[Ri]at h;exact Bool.and_eq_true_iff.2 ⟨h,hr⟩
end
end Go.Sx

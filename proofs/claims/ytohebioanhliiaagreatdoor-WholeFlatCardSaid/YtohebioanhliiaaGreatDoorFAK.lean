/- The range analysis of trees: its soundness. -/
import Derived.Test.YtohebioanhliiaaGreatDoorFA4
set_option linter.unusedVariables false
set_option linter.unusedSimpArgs false
namespace Go.Sx
def CKb:IntKind->IntKind->Bool:=fun a b=>decide (a=b)
def IE.beq:IE->IE->Bool
 |.v a,.v b=>Nat.beq a b
 |.c a,.c b=>decide (a=b)
 |.add x y,.add z w=>x.beq z&&y.beq w
 |.sub x y,.sub z w=>x.beq z&&y.beq w
 |.mul x y,.mul z w=>x.beq z&&y.beq w
 |.tdiv x y,.tdiv z w=>x.beq z&&y.beq w
 |.tmod x y,.tmod z w=>x.beq z&&y.beq w
 |.ediv a n,.ediv b m=>Nat.beq n m&&a.beq b
 |.emod a n,.emod b m=>Nat.beq n m&&a.beq b
 |.shl x y,.shl z w=>x.beq z&&y.beq w
 |.shr x y,.shr z w=>x.beq z&&y.beq w
 |.wrap k a,.wrap j b=>CKb k j&&a.beq b
 |.max x y,.max z w=>x.beq z&&y.beq w
 |.min x y,.min z w=>x.beq z&&y.beq w
 |.bits o k x y,.bits p j z w=>decide (o=p)&&(CKb k j&&(x.beq z&&y.beq w))
 |.len a,.len b=>Nat.beq a b
 |.get k i j,.get l m n=>Nat.beq k l&&(Nat.beq j n&&i.beq m)
 |.ju i n x y,.ju j m z w=>Nat.beq n m&&(i.beq j&&(x.beq z&&y.beq w))
 |_,_=>false
def BE.beq:BE->BE->Bool
 |.v a,.v b=>Nat.beq a b
 |.c a,.c b=>a==b
 |.lt x y,.lt z w=>x.beq z&&y.beq w
 |.le x y,.le z w=>x.beq z&&y.beq w
 |.eq x y,.eq z w=>x.beq z&&y.beq w
 |.not a,.not b=>a.beq b
 |.and x y,.and z w=>x.beq z&&y.beq w
 |.or x y,.or z w=>x.beq z&&y.beq w
 |.iff x y,.iff z w=>x.beq z&&y.beq w
 |.sM a,.sM b=>a.beq b
 |_,_=>false
inductive A where
 |i (lo hi:Int)
 |b
 |l (n0:Int) (n1:Option Int) (cs:List (Int×Int))
 |t
 deriving Inhabited
def cR:List (Int×Int)->Nat->List Int->Prop
 | [],_,_=>True
 |c::cs,j,r=>(c.1<=r.getD j 0/\r.getD j 0<=c.2)/\cR cs (j+1) r
def A.has:A->DV->Prop
 |.i lo hi,.i n=>lo<=n/\n<=hi
 |.b,.b _=>True
 |.l n0 n1 cs,.l xs=>n0<=(xs.length:Int)/\(∀y,n1=some y->(xs.length:Int)<=y)/\∀r∈xs,cR cs 0 r
 |.t,_=>True
 |_,_=>False
def nh:List A->List DV->Prop
 | [],[]=>True
 |a::as,d::ds=>a.has d/\nh as ds
 |_,_=>False
def mn:Int:=-9223372036854775808
def mx:Int:=9223372036854775807
abbrev Lf:=List (Int×IE)×Int
structure Sk where
 g:List (Nat×A)
 q:List Lf
 f:List BE
 deriving Inhabited
def look(k:Nat):List (Nat×A)->Option A
 | []=>none
 |(j,a)::r=>if Nat.beq j k then some a else look k r
def Sk.find(s:Sk)(k:Nat):Option A:=look k s.g
abbrev Rg:=Option Int×Option Int
def o2(f:Int->Int->Int):Option Int->Option Int->Option Int
 |some a,some b=>some (f a b)
 |_,_=>none
def PA(x y z w:Int):Int×Int:=(min (min x y) (min z w),max (max x y) (max z w))
def mulR(a b:Rg):Rg:=match a,b with
 |(some x,some y),(some z,some w)=>(some (PA (x*z) (x*w) (y*z) (y*w)).1,some (PA (x*z) (x*w) (y*z) (y*w)).2)
 |(some x,_),(some z,_)=>if 0<=x/\0<=z then(some (x*z),none)else(none,none)
 |_,_=>(none,none)
def sqR(a:Rg):Rg:=match a with
 |(some x,some y)=>(some (if 0<=x then x*x else if y<=0 then y*y else 0),some (max (x*x) (y*y)))
 |_=>(some 0,none)
def MX(a:Rg):Rg:=match a with
 |(some x,some y)=>(some (-(max (-x) y)),some (max (-x) y))
 |_=>(none,none)
def PB(a b:Rg):Rg:=match a,b with
 |(some x,some y),(some z,_)=>if 1<=z then(some (if 0<=x then 0 else -((-x)/z)),some (if y<=0 then 0 else y/z))else MX a
 |_,_=>MX a
def PC(a b:Rg):Rg:=match a,b with
 |(some x,some y),(some z,some w)=>if 1<=z then(some (if 0<=x then 0 else max x (1-w)),some (if y<=0 then 0 else min y (w-1)))else MX a
 |_,_=>MX a
def ZM(a b:Rg):Rg:=match b with
 |(some z,some w)=>if 0<=z/\w<=128 then mulR a (some (2 ^ z.toNat),some (2 ^ w.toNat))else(none,none)
 |_=>(none,none)
def ZN(a b:Rg):Rg:=match a,b with
 |(some x,some y),(some z,some w)=>if 0<=z/\w<=128 then(some (min (x/2 ^ z.toNat) (x/2 ^ w.toNat)),some (max (y/2 ^ z.toNat) (y/2 ^ w.toNat)))else(some (min x 0),some (max y 0))
 |(some x,some y),_=>(some (min x 0),some (max y 0))
 |_,_=>(none,none)
def PD(k:IntKind)(a:Rg):Rg:=match a with
 |(some x,some y)=>if k.min<=x/\y<=k.max then(some x,some y)else(some k.min,some k.max)
 |_=>(some k.min,some k.max)
def XV(a b:Rg):Rg:=(o2 min a.1 b.1,o2 max a.2 b.2)
def Sk.ac3(s:Sk)(i:IE)(k:Nat)(r:Rg)(n0:Int):Bool:=(match r.1 with
 |some x=>decide (0<=x)
 |none=>false)&&((match r.2 with
 |some y=>decide (y<n0)
 |none=>false)||(match i with
 |.sub (.len j) (.c m)=>Nat.beq j k&&decide (1<=m)
 |_=>false)||s.f.any fun p=>p.beq (.lt i (.len k)))
def Vk(a b:Rg):Rg:=(o2 min a.1 b.1,match a.2,b.2 with
 |some x,some y=>some (min x y)
 |some x,none=>some x
 |none,y=>y)
def PE(a b:Rg):Rg:=((match a.1,b.1 with
 |some x,some y=>some (max x y)
 |some x,none=>some x
 |none,y=>y),o2 max a.2 b.2)
def IE.isC:IE->Option Int
 |.c n=>some n
 |_=>none
def Sk.iv(s:Sk):IE->Rg
 | .v k=>match s.find k with
   |some (.i lo hi)=>(some lo,some hi)
   |_=>(none,none)
 |.c n=>(some n,some n)
 |.add a b=>(o2 (· + ·) (s.iv a).1 (s.iv b).1,o2 (· + ·) (s.iv a).2 (s.iv b).2)
 |.sub a b=>(o2 (· - ·) (s.iv a).1 (s.iv b).2,o2 (· - ·) (s.iv a).2 (s.iv b).1)
 |.mul a b=>if a.beq b then sqR (s.iv a)else mulR (s.iv a) (s.iv b)
 |.tdiv a b=>PB (s.iv a) (s.iv b)
 |.tmod a b=>PC (s.iv a) (s.iv b)
 |.ediv a n=>if Nat.beq n 0 then(none,none)else((s.iv a).1.map (· / (n:Int)),(s.iv a).2.map (· / (n:Int)))
 | .emod a n=>if Nat.beq n 0 then(none,none)else match s.iv a with
   |(some x,some y)=>if 0<=x/\y<(n:Int)then(some x,some y)else(some 0,some ((n:Int)-1))
   |_=>(some 0,some ((n:Int)-1))
 |.shl a b=>ZM (s.iv a) (s.iv b)
 |.shr a b=>ZN (s.iv a) (s.iv b)
 |.wrap k a=>PD k (s.iv a)
 |.max a b=>PE (s.iv a) (s.iv b)
 |.min a b=>Vk (s.iv a) (s.iv b)
 |.bits _ k _ _=>(some k.min,some k.max)
 | .len k=>match s.find k with
   |some (.l n0 n1 _)=>(some (max n0 0),n1)
   |_=>(some 0,none)
 | .get k i j=>match s.find k with
   | some (.l n0 _ cs)=>match cs[j]? with
     |some (x,y)=>if s.ac3 i k (s.iv i) n0 then(some x,some y)else(some (min x 0),some (max y 0))
     |none=>(none,none)
   |_=>(none,none)
 |.ju i n a b=>XV (s.iv a) (s.iv b)
def MY(c:Int)(e:IE):List (Int×IE)->List (Int×IE)
 | []=>[(c,e)]
 |(d,x)::r=>if e.beq x then(if d+c=0 then r else(d+c,x)::r)else(d,x)::MY c e r
def PF(c:Int)(a b:List (Int×IE)):List (Int×IE):=a.foldr (fun t r=>MY (c*t.1) t.2 r) b
def Lf.plus(c:Int)(a b:Lf):Lf:=(PF c a.1 b.1,c*a.2+b.2)
def within(k:IntKind)(a:Rg):Bool:=match a with
 |(some x,some y)=>decide (k.min<=x/\y<=k.max)
 |_=>false
def Sk.uH(s:Sk):IE->Lf
 |.c n=>([],n)
 |.add a b=>Lf.plus 1 (s.uH a) (s.uH b)
 |.sub a b=>Lf.plus (-1) (s.uH b) (s.uH a)
 | .mul a b=>match a.isC,b.isC with
   |some n,_=>Lf.plus n (s.uH b) ([],0)
   |_,some n=>Lf.plus n (s.uH a) ([],0)
   |_,_=>([(1,.mul a b)],0)
 |.wrap k a=>if within k (s.iv a)then s.uH a else([(1,.wrap k a)],0)
 |e=>([(1,e)],0)
def Sk.low(s:Sk):List (Int×IE)->Option Int
 | []=>some 0
 | (c,e)::r=>match s.low r,(if 0<=c then(s.iv e).1 else(s.iv e).2)with
   |some x,some y=>some (x+c*y)
   |_,_=>none
def Sk.wh(s:Sk)(l:Lf):Bool:=match s.low l.1 with
 |some x=>decide (0<=x+l.2)
 |none=>false
def shares(a b:List (Int×IE)):Option Int:=a.findSome? fun x=>b.findSome? fun y=>if decide (0<x.1*y.1)&&x.2.beq y.2 then some ((if 1<=y.1/x.1 then y.1/x.1 else 1))else none
def Sk.fork(s:Sk)(l:Lf):List (Int×IE)->Option (Nat×Lf×Lf)
 | []=>none
 |(c,.max a b)::r=>some (if c<0 then 1 else 0,Lf.plus c (s.uH a) (Lf.plus (-c) ([(1,.max a b)],0) l),Lf.plus c (s.uH b) (Lf.plus (-c) ([(1,.max a b)],0) l))
 |(c,.min a b)::r=>some (if 0<c then 1 else 0,Lf.plus c (s.uH a) (Lf.plus (-c) ([(1,.min a b)],0) l),Lf.plus c (s.uH b) (Lf.plus (-c) ([(1,.min a b)],0) l))
 |(c,.ju i n a b)::r=>some (2,Lf.plus c (s.uH a) (Lf.plus (-c) ([(1,.ju i n a b)],0) l),Lf.plus c (s.uH b) (Lf.plus (-c) ([(1,.ju i n a b)],0) l))
 |_::r=>s.fork l r
def Sk.by(s:Sk):Nat->Lf->Bool
 |0,l=>s.wh l
 | d+1,l=>s.wh l||(s.q.any fun h=>match shares h.1 l.1 with
   |some m=>s.by d (Lf.plus (-m) h l)
   |none=>false)||match s.fork l l.1 with
   |some (0,x,y)=>s.by d x||s.by d y
   |some (_,x,y)=>s.by d x&&s.by d y
   |none=>false
def Sk.diff(s:Sk)(a b:IE):Lf:=Lf.plus (-1) (s.uH a) (s.uH b)
def Sk.fe(s:Sk)(p:BE):Bool:=s.f.any fun x=>x.beq p
mutual
def Sk.pv(s:Sk)(d:Nat):BE->Bool
 |.c x=>x||s.by d ([],-1)
 |.v k=>s.fe (.v k)
 |.lt a b=>s.by d (Lf.plus 1 (s.diff a b) ([],-1))
 |.le a b=>s.by d (s.diff a b)
 |.eq a b=>a.beq b||(s.by d (s.diff a b)&&s.by d (s.diff b a))||s.fe (.eq a b)
 |.not a=>s.nv d a
 |.and a b=>s.pv d a&&s.pv d b
 |.or a b=>s.pv d a||s.pv d b||s.fe (.or a b)
 |.iff a b=>a.beq b||(s.pv d a&&s.pv d b)||(s.nv d a&&s.nv d b)||s.fe (.iff a b)
 |.sM a=>s.by d (Lf.plus 1 (s.uH a) ([],-1))||s.by d (Lf.plus (-1) (s.uH a) ([],-1))||s.fe (.sM a)
def Sk.nv(s:Sk)(d:Nat):BE->Bool
 |.c x=>!x||s.by d ([],-1)
 |.v k=>s.fe (.not (.v k))
 |.lt a b=>s.by d (s.diff b a)
 |.le a b=>s.by d (Lf.plus 1 (s.diff b a) ([],-1))
 |.eq a b=>s.by d (Lf.plus 1 (s.diff a b) ([],-1))||s.by d (Lf.plus 1 (s.diff b a) ([],-1))||s.fe (.not (.eq a b))
 |.not a=>s.pv d a
 |.and a b=>s.nv d a||s.nv d b||s.fe (.not (.and a b))
 |.or a b=>s.nv d a&&s.nv d b
 |.iff a b=>(s.pv d a&&s.nv d b)||(s.nv d a&&s.pv d b)
 |.sM a=>s.by d (s.uH a)&&s.by d (Lf.plus (-1) (s.uH a) ([],0))
end
def E9(k:Nat)(a:A):List (Nat×A)->List (Nat×A)
 | []=>[]
 |(j,x)::r=>if Nat.beq j k then(j,a)::r else(j,x)::E9 k a r
def cdiv(a b:Int):Int:=-((-a)/b)
def Sk.bound(s:Sk)(l:Lf)(c:Int)(e:IE):List (Nat×A):=
 match s.low ((Lf.plus (-1) l ([(c,e)],0)).1)with
 |none=>s.g
 | some nr=>
   let m:=nr+((-1)*l.2+0)
   match e with
   | .v k=>match s.find k with
     |some (.i lo hi)=>if 0<c then E9 k (.i (max lo (cdiv m c)) hi) s.g else if c<0 then E9 k (.i lo (min hi ((-m)/(-c)))) s.g else s.g
     |_=>s.g
   | .len k=>match s.find k with
     | some (.l n0 n1 cs)=>if 0<c then E9 k (.l (max n0 (cdiv m c)) n1 cs) s.g else if c<0 then E9 k (.l n0 (some (match n1 with
       |some y=>min y ((-m)/(-c))
       |none=>(-m)/(-c))) cs) s.g else s.g
     |_=>s.g
   |_=>s.g
def XW:List (Int×IE)->List (Int×IE)->Bool
 | [],[]=>true
 |x::xs,y::ys=>decide (x.1=y.1)&&(x.2.beq y.2&&XW xs ys)
 |_,_=>false
def Sk.tO(s:Sk)(l:Lf):Sk:=
 if s.wh l||s.q.any (fun h=>decide (h.2<=l.2)&&XW h.1 l.1)then s else
 let s':=l.1.foldr (fun t s=>{s with g:=s.bound l t.1 t.2}) s
 {s' with q:=l::s'.q}
def Sk.tP(s:Sk):Nat->Lf->Sk
 |0,l=>s.tO l
 | n+1,l=>match s.fork l l.1 with
   |some (1,x,y)=>Sk.tP (Sk.tP (s.tO l) n x) n y
   |_=>s.tO l
def Sk.fA(s:Sk)(l:Lf):Sk:=s.tP 2 l
def XY(a:Rg):Bool:=match a with
 |(some x,some y)=>decide (mn<=x/\y<=mx)
 |_=>false
def leI(a:Rg)(n:Int):Bool:=match a.2 with
 |some y=>decide (y<=n)
 |none=>false
def Sk.oT(s:Sk)(a b:IE)(st:Int):Sk:=match a with
 |.wrap .u64 x=>if XY (s.iv x)&&leI (s.iv b) (mx+st)then(s.fA (s.uH x)).fA (Lf.plus 1 (s.diff x b) ([],-st))else s
 |_=>s
def Sk.fact(s:Sk)(p:BE):Sk:=if s.fe p then s else {s with f:=p::s.f}
mutual
def Sk.add(s:Sk):BE->Sk
 |.c true=>s
 | .lt a b=>(match b with
   |.len k=>Sk.fact (Sk.oT (s.fA (Lf.plus 1 (s.diff a b) ([],-1))) a b 1) (.lt a b)
   |_=>Sk.oT (s.fA (Lf.plus 1 (s.diff a b) ([],-1))) a b 1)
 |.le a b=>Sk.oT (s.fA (s.diff a b)) a b 0
 |.eq a b=>(s.fA (s.diff a b)).fA (s.diff b a)
 |.not a=>s.sub a
 |.and a b=>Sk.add (Sk.add s a) b
 |.or a b=>if s.nv 1 a then s.add b else if s.nv 1 b then s.add a else s.fact (.or a b)
 |.iff a b=>if s.pv 1 a then s.add b else if s.pv 1 b then s.add a else if s.nv 1 a then s.sub b else if s.nv 1 b then s.sub a else s.fact (.iff a b)
 |p=>s.fact p
def Sk.sub(s:Sk):BE->Sk
 |.c false=>s
 |.lt a b=>Sk.oT (s.fA (s.diff b a)) b a 0
 |.le a b=>Sk.oT (s.fA (Lf.plus 1 (s.diff b a) ([],-1))) b a 1
 |.eq a b=>if s.by 1 (s.diff a b)then s.fA (Lf.plus 1 (s.diff a b) ([],-1))else if s.by 1 (s.diff b a)then s.fA (Lf.plus 1 (s.diff b a) ([],-1))else s.fact (.not (.eq a b))
 |.not a=>s.add a
 |.and a b=>if s.pv 1 a then s.sub b else if s.pv 1 b then s.sub a else s.fact (.not (.and a b))
 |.or a b=>Sk.sub (Sk.sub s a) b
 |.iff a b=>if s.pv 1 a then s.sub b else if s.pv 1 b then s.sub a else if s.nv 1 a then s.add b else if s.nv 1 b then s.add a else s.fact (.not (.iff a b))
 |.sM a=>(s.fA (s.uH a)).fA (Lf.plus (-1) (s.uH a) ([],0))
 |p=>s.fact (.not p)
end
def Sk.tQ(s:Sk):List BE->Sk
 | []=>s
 |.or a b::r=>Sk.tQ (if s.nv 1 a then s.add b else if s.nv 1 b then s.add a else s) r
 |.not (.and a b)::r=>Sk.tQ (if s.pv 1 a then s.sub b else if s.pv 1 b then s.sub a else s) r
 |.iff a b::r=>Sk.tQ (if s.pv 1 a then s.add b else if s.nv 1 a then s.sub b else if s.pv 1 b then s.add a else if s.nv 1 b then s.sub a else s) r
 |.not (.eq a b)::r=>Sk.tQ (s.sub (.eq a b)) r
 |_::r=>Sk.tQ s r
def Sk.again(s:Sk):List Lf->Sk
 | []=>s
 |l::r=>Sk.again (l.1.foldr (fun t s=>{s with g:=s.bound l t.1 t.2}) s) r
def Sk.agG(s:Sk):BE->Bool
 |.or a b=>s.pv 0 a||s.pv 0 b
 |.not (.and a b)=>s.nv 0 a||s.nv 0 b
 |.not (.eq a b)=>s.wh (Lf.plus 1 (s.diff a b) ([],-1))||s.wh (Lf.plus 1 (s.diff b a) ([],-1))
 |_=>false
def Sk.tidy(s:Sk):Sk:={s with f:=s.f.filter fun p=>!s.agG p}
def Sk.close(s:Sk):Sk:=let s':=s.tQ s.f;(s'.again (s'.q.take 24)).tidy
def Sk.ni(s:Sk)(p:BE):Sk:=(s.add p).close
def Sk.n7(s:Sk)(p:BE):Sk:=(s.sub p).close
def Lf.all(p:Nat->Bool)(l:Lf):Bool:=l.1.all fun t=>t.2.all p
def Sk.fT(s:Sk)(p:Nat->Bool):Sk:=⟨s.g.filter fun x=>p x.1,s.q.filter (Lf.all p),s.f.filter (BE.all p)⟩
def jH(base n:Nat):Nat->Bool:=fun k=>Nat.blt k base||Nat.ble (base+n) k
def iJ:List (Int×Int)->List (Int×Int)->List (Int×Int)
 |c::cs,d::ds=>(min c.1 d.1,max c.2 d.2)::iJ cs ds
 |_,_=>[]
def PG:Option Int->Bool
 |some y=>decide (y<=0)
 |none=>false
def A.Bh:A->A->A
 |.i x y,.i z w=>.i (min x z) (max y w)
 |.b,.b=>.b
 |.l x y u,.l z w v=>.l (min x z) (o2 max y w) (if PG y then v else if PG w then u else iJ u v)
 |_,_=>.t
def Fa:List Rg->List (Int×Int)
 |(some x,some y)::r=>(x,y)::Fa r
 |_=>[]
def Sk.zt(s:Sk):Sum IE BE->Rg
 |.inl e=>s.iv e
 |.inr _=>(some 0,some 1)
def Ku:List (List (Int×Int))->List (Int×Int)
 | []=>[]
 | [c]=>c
 |c::cs=>iJ c (Ku cs)
def Sk.de(s:Sk):DE->A
 | .i e=>match s.iv e with
   |(some x,some y)=>.i x y
   |_=>.t
 |.b _=>.b
 | .l k=>match s.find k with
   |some (.l a b c)=>.l a b c
   |_=>.l 0 none []
 |.nil=>.l 0 (some 0) []
 |.rows es=>.l es.length (some es.length) (Ku (es.map fun e=>Fa [s.iv e]))
 |.vP xs=>.l 1 (some 1) (Fa (xs.map s.zt))
def Bi:List (Int×Int)->List (Int×Int)->Bool
 |_,[]=>true
 |c::cs,d::ds=>decide (d.1<=c.1)&&(decide (c.2<=d.2)&&Bi cs ds)
 | [],_::_=>false
def DE.PH:DE->Option IE
 |.l k=>some (.len k)
 |.nil=>some (.c 0)
 |.rows es=>some (.c es.length)
 |.vP _=>some (.c 1)
 |_=>none
def Sk.fits(s:Sk)(d:DE):A->Bool
 |.t=>true
 | .i lo hi=>match d with
   |.i e=>s.pv 2 (.le (.c lo) e)&&s.pv 2 (.le e (.c hi))
   |_=>false
 | .b=>match d with
   |.b _=>true
   |_=>false
 | .l n0 n1 cs=>match d.PH,s.de d with
   | some n,.l a b c=>(decide (n0<=a)||s.pv 3 (.le (.c n0) n))&&(match n1 with
     |none=>true
     |some y=>s.pv 3 (.le n (.c y)))&&(Bi c cs||(match b with
     |some z=>decide (z<=0)
     |none=>false))
   |_,_=>false
def Fb(cs:List (Int×Int))(j:Nat)(x:Rg):List (Int×Int):=match cs,j with
 | [],_=>[]
 | c::cs,0=>match x with
   |(some a,some b)=>(min c.1 a,max c.2 b)::cs
   |_=>[]
 |c::cs,j+1=>c::Fb cs j x
def G9(cs:List (Int×Int))(j:Nat):List Rg->List (Int×Int)
 | []=>cs
 |x::xs=>G9 (Fb cs j x) (j+1) xs
def Sk.jP(s:Sk)(k:Nat):Int×Option Int×List (Int×Int):=match s.find k with
 |some (.l a b c)=>(a,b,c)
 |_=>(0,none,[])
def yw(x:Int×Option Int×List (Int×Int)):Bool:=match x.2.1 with
 |some y=>decide (y<=0)
 |none=>false
def yx(id:Nat):List (Sum IE BE)->Nat->List BE
 | [],_=>[]
 |.inl e::r,j=>.eq (.get id (.c 0) j) e::yx id r (j+1)
 |.inr _::r,j=>yx id r (j+1)
def Sk.OG(s:Sk)(id:Nat):ew->A×List BE
 | .lit rows=>(.l rows.length (some rows.length) (Ku (rows.map fun r=>Fa (r.map s.zt))),match rows with
   |r::rs=>if rs.length<=1/\r.length<=2 then yx id r 0 else []
   | []=>[])
 | .app a b=>let x:=s.jP a;let y:=s.jP b
   (.l (x.1+y.1) (o2 (· + ·) x.2.1 y.2.1) (if yw x then y.2.2 else if yw y then x.2.2 else iJ x.2.2 y.2.2),.eq (.len id) (.add (.len a) (.len b))::if 1<=x.1/\x.2.2.length<=2 then(List.range x.2.2.length).map fun j=>.eq (.get id (.c 0) j) (.get a (.c 0) j)else [])
 | .set a i j x=>let y:=s.jP a
   (.l y.1 y.2.1 (Fb y.2.2 j (s.zt x)),[.eq (.len id) (.len a)])
 | .zK a i xs=>let y:=s.jP a
   (.l y.1 y.2.1 (iJ y.2.2 (Fa (xs.map s.zt))),[.eq (.len id) (.len a)])
 | .Em a i j xs=>let y:=s.jP a
   (.l y.1 y.2.1 (G9 y.2.2 j (xs.map s.zt)),[.eq (.len id) (.len a)])
 | .take a n=>let y:=s.jP a
   (.l 0 (Vk (none,y.2.1) (PE (s.iv n) (some 0,some 0))).2 y.2.2,if s.pv 2 (.le n (.len a))&&s.pv 2 (.le (.c 0) n)then [.eq (.len id) n]else [])
 |.rep n row=>(.l 0 (PE (s.iv n) (some 0,some 0)).2 (row.map fun x=>(x,x)),if s.pv 2 (.le (.c 0) n)then [.eq (.len id) n]else [])
 |.cp a=>let y:=s.jP a;(.l y.1 y.2.1 y.2.2,[.eq (.len id) (.len a)])
 | .UR a b=>let x:=s.jP a;let y:=s.jP b
   (.l x.1 x.2.1 (if yw x then y.2.2 else if yw y then x.2.2 else iJ x.2.2 y.2.2),[.eq (.len id) (.len a)])
 | .sub a _ _ j=>(.l 0 (match(s.jP a).2.2[j]? with
   |some c=>some (max c.2 0)
   |none=>none) [],[])
 |.Eu rows=>(.l rows.length (some rows.length) [],[])
def DE.asI:DE->Option IE
 |.i e=>some e
 |_=>none
def DE.asB:DE->Option BE
 |.b e=>some e
 |_=>none
def DE.asL:DE->Option Nat
 |.l k=>some k
 |_=>none
inductive Sb where
 |nm (k:Nat)
 |de (d:DE)
 |no
def Sb.int:Sb->Option IE
 |.nm k=>some (.v k)
 |.de d=>d.asI
 |.no=>none
def Sb.bool:Sb->Option BE
 |.nm k=>some (.v k)
 |.de d=>d.asB
 |.no=>none
def Sb.len:Sb->Option IE
 |.nm k=>some (.len k)
 |.de d=>d.PH
 |.no=>none
def Sb.list:Sb->Option Nat
 |.nm k=>some k
 |.de d=>d.asL
 |.no=>none
def Sb.cell:Sb->Option Int->Nat->Option IE
 |.de .nil,_,_=>some (.c 0)
 |.de (.rows es),some m,0=>if 0<=m then es[m.toNat]? else none
 | .de (.vP xs),some 0,j=>match xs[j]? with
   |some (.inl e)=>some e
   |_=>none
 |_,_,_=>none
def p2{α β γ:Type}(f:α->β->γ):Option α->Option β->Option γ
 |some a,some b=>some (f a b)
 |_,_=>none
def p1{α β:Type}(f:α->β):Option α->Option β
 |some a=>some (f a)
 |none=>none
def IE.put(σ:Nat->Sb):IE->Option IE
 |.v k=>(σ k).int
 |.c n=>some (.c n)
 |.add a b=>p2 .add (a.put σ) (b.put σ)
 |.sub a b=>p2 .sub (a.put σ) (b.put σ)
 |.mul a b=>p2 .mul (a.put σ) (b.put σ)
 |.tdiv a b=>p2 .tdiv (a.put σ) (b.put σ)
 |.tmod a b=>p2 .tmod (a.put σ) (b.put σ)
 |.ediv a n=>p1 (.ediv · n) (a.put σ)
 |.emod a n=>p1 (.emod · n) (a.put σ)
 |.shl a b=>p2 .shl (a.put σ) (b.put σ)
 |.shr a b=>p2 .shr (a.put σ) (b.put σ)
 |.wrap k a=>p1 (.wrap k) (a.put σ)
 |.max a b=>p2 .max (a.put σ) (b.put σ)
 |.min a b=>p2 .min (a.put σ) (b.put σ)
 |.bits o k a b=>p2 (.bits o k) (a.put σ) (b.put σ)
 |.len k=>(σ k).len
 | .get k i j=>match(σ k).cell i.isC j with
   |some e=>some e
   |none=>p2 (fun l i=>.get l i j) (σ k).list (i.put σ)
 |.ju i n a b=>p2 (fun i x=>.ju i n x.1 x.2) (i.put σ) (p2 Prod.mk (a.put σ) (b.put σ))
def BE.put(σ:Nat->Sb):BE->Option BE
 |.v k=>(σ k).bool
 |.c x=>some (.c x)
 |.lt a b=>p2 .lt (a.put σ) (b.put σ)
 |.le a b=>p2 .le (a.put σ) (b.put σ)
 |.eq a b=>p2 .eq (a.put σ) (b.put σ)
 |.not a=>p1 .not (a.put σ)
 |.and a b=>p2 .and (a.put σ) (b.put σ)
 |.or a b=>p2 .or (a.put σ) (b.put σ)
 |.iff a b=>p2 .iff (a.put σ) (b.put σ)
 |.sM a=>p1 .sM (a.put σ)
def R0:Nat:=1000000
structure Cn where
 args:List A
 pre:List BE
 res:List A
 post:List BE
 deriving Inhabited
structure Iv where
 as:List A
 ex:List BE
 me:IE
 deriving Inhabited
structure Lc where
 id:Nat
 base:Nat
 iv:Iv
structure An where
 loops:List (Nat×Nat×Iv)
 fM:List (List BE×BE)
 er:Int×Int:=(mn,mx)
def IE.names:IE->List Nat
 |.v k=>[k]
 |.c _=>[]
 |.add a b=>a.names++b.names
 |.sub a b=>a.names++b.names
 |.mul a b=>a.names++b.names
 |.tdiv a b=>a.names++b.names
 |.tmod a b=>a.names++b.names
 |.ediv a _=>a.names
 |.emod a _=>a.names
 |.shl a b=>a.names++b.names
 |.shr a b=>a.names++b.names
 |.wrap _ a=>a.names
 |.max a b=>a.names++b.names
 |.min a b=>a.names++b.names
 |.bits _ _ a b=>a.names++b.names
 |.len k=>[k]
 |.get k i _=>k::i.names
 |.ju i _ a b=>i.names++a.names++b.names
def BE.names:BE->List Nat
 |.v k=>[k]
 |.c _=>[]
 |.lt a b=>a.names++b.names
 |.le a b=>a.names++b.names
 |.eq a b=>a.names++b.names
 |.not a=>a.names
 |.and a b=>a.names++b.names
 |.or a b=>a.names++b.names
 |.iff a b=>a.names++b.names
 |.sM a=>a.names
def Iv.names(v:Iv):List Nat:=v.me.names++v.ex.flatMap BE.names
abbrev Vc:=Sk×BE
def Sk.PI(s:Sk)(d:Nat):Bool:=s.q.any fun h=>s.by d (Lf.plus (-1) h ([],-1))
def Sk.pw(s:Sk)(d:Nat):BE->Bool
 |.and a b=>s.pw d a&&s.pw d b
 |.or a b=>s.pv d (.or a b)||(s.n7 a).close.pw d b
 |p=>s.pv d p||s.PI 1
def Sk.so(s:Sk)(fM:List (List BE×BE))(p:BE):Bool:=s.pw 2 p||(fM.any fun l=>l.1.all (s.pv 3)&&(s.ni l.2).pw 3 p)||s.pw 3 p
def Sk.ask(s:Sk)(fM:List (List BE×BE))(p:BE):List Vc:=if s.so fM p then []else [(s,p)]
def bad(s:Sk):Vc:=(s,.c false)
def Sk.I8(s:Sk)(fM:List (List BE×BE))(d:DE):A->List Vc
 | .i lo hi=>match d with
   |.i e=>s.ask fM (.le (.c lo) e)++s.ask fM (.le e (.c hi))
   |_=>[bad s]
 |a=>if s.fits d a then []else [bad s]
def Sk.tR(s:Sk)(fM:List (List BE×BE)):List DE->List A->List Vc
 | [],[]=>[]
 |d::ds,a::as=>s.I8 fM d a++s.tR fM ds as
 |_,_=>[bad s]
def Sk.asks(s:Sk)(fM:List (List BE×BE))(σ:Nat->Sb)(ps:List BE):List Vc:=ps.flatMap fun p=>match p.put σ with
 |some p'=>s.ask fM p'
 |none=>[bad s]
def oU(base:Nat):List A->List (Nat×A)
 | []=>[]
 |a::as=>(base,a)::oU (base+1) as
def CN:A->A
 |.i _ _=>.i 0 0
 |.b=>.b
 |.l _ _ _=>.l 0 (some 0) []
 |.t=>.t
def rW:List CT->List A->Bool
 | [],[]=>true
 | c::cs,a::as=>(match c,a with
   |_,.t=>true
   |.c (.i _),.i _ _=>true
   |.c .f,.i _ _=>true
   |.c .b,.b=>true
   |.s _ _,.l _ _ _=>true
   |.n _ _,.l _ _ _=>true
   |_,_=>false)&&rW cs as
 |_,_=>false
def MZ(base n:Nat)(bM:List DE)(k:Nat):Sb:=if Nat.ble base k&&Nat.blt k (base+n)then(match bM[k-base]? with
 |some d=>.de d
 |none=>.no)else .nm k
def tS(args:List DE)(m base:Nat)(k:Nat):Sb:=if Nat.blt k args.length then(match args[k]? with
 |some d=>.de d
 |none=>.no)else if Nat.ble R0 k&&Nat.blt k (R0+m)then .nm (base+(k-R0))else .no
def PJ(n:Nat)(bM:List DE)(k:Nat):Sb:=if Nat.blt k n then .nm k else if Nat.ble R0 k then(match bM[k-R0]? with
 |some d=>.de d
 |none=>.no)else .no
def Sk.n8(s:Sk):List BE->Sk
 | []=>s
 |p::ps=>Sk.n8 (s.ni p) ps
def free(agH:List Nat)(base n:Nat):Bool:=agH.all (jH base n)
def DE.off(base n:Nat):DE->Bool
 |.i e=>e.all (jH base n)
 |.b e=>e.all (jH base n)
 |.l k=>jH base n k
 |.nil=>true
 |.rows es=>es.all (IE.all (jH base n))
 |.vP xs=>xs.all (nP (jH base n))
def aA.pM(K:Nat->Option Cn)(key:FuncId->Nat)(an:An)(out:Cn):aA->Sk->List Lc->Nat->List Nat->List Vc
 |.ret bM,s,_,_,_=>s.tR an.fM bM out.res++s.asks an.fM (PJ out.args.length bM) out.post
 |.stuck _,s,_,_,_=>s.ask an.fM (.c false)
 |.ev (.aH p) t,s,ls,d,pr=>if s.pv 0 p then t.pM K key an out s ls d pr else s.ask an.fM p++t.pM K key an out (s.ni p) ls d pr
 | .ev (.call f g args res base) t,s,ls,d,pr=>match K (key f)with
   |none=>[bad s]
   | some c=>
     let m:=c.res.length
     let s1:=s.ni g
     let vs:=s1.tR an.fM args c.args++s1.asks an.fM (tS args 0 base) c.pre
     let ok:=free pr base m&&(args.all (DE.off base m)&&(g.all (jH base m)&&(rW (bP res) c.res&&Nat.blt args.length R0)))
     let s2:=s.fT (jH base m)
     let σ:=tS args m base
     let s3:Sk:={s2 with g:=oU base (if g.beq (.c true)then c.res else c.res.map fun a=>a.Bh (CN a))++s2.g}
     let s4:=s3.n8 (c.post.filterMap fun p=>(p.put σ).map fun p'=>if g.beq (.c true)then p' else .or (.not g) p')
     vs++((if ok then []else [bad s])++t.pM K key an out s4 ls d pr)
 |.ev (.b8 id op) t,s,ls,d,pr=>
     let x:=s.OG id op
     let s2:=s.fT (jH id 1)
     let s3:Sk:={s2 with g:=(id,x.1)::s2.g}
     (if free pr id 1&&op.all (jH id 1)then []else [bad s])++t.pM K key an out (s3.n8 x.2) ls d pr
 |.ev (.dO _ _) _,s,_,_,_=>[bad s]
 |.ite c a b,s,ls,d,pr=>if s.pv 1 c then a.pM K key an out (s.ni c) ls d pr else if s.nv 1 c then b.pM K key an out (s.n7 c) ls d pr
     else a.pM K key an out (s.ni c) ls d pr++b.pM K key an out (s.n7 c) ls d pr
 | .loop id entry _ base body,s,ls,d,pr=>match an.loops.find? fun x=>Nat.beq x.1 id&&Nat.beq x.2.1 base with
   |none=>[bad s]
   | some (_,_,v)=>
     let n:=v.as.length
     let s2:=s.fT (jH base n)
     let s3:Sk:={s2 with g:=oU base v.as++s2.g}
     s.tR an.fM entry v.as++(s.asks an.fM (MZ base n entry) v.ex++((if free pr base n then []else [bad s]) ++
       body.pM K key an out (s3.n8 v.ex) (⟨id,base,v⟩::ls) d (v.names++pr)))
 | .again id bM,s,ls,_,_=>match ls.find? fun l=>Nat.beq l.id id with
   |none=>[bad s]
   | some l=>
     let σ:=MZ l.base l.iv.as.length bM
     s.tR an.fM bM l.iv.as++(s.asks an.fM σ l.iv.ex++(s.ask an.fM (.lt (.c 0) l.iv.me)++match l.iv.me.put σ with
       |some me=>s.ask an.fM (.lt me l.iv.me)
       |none=>[bad s]))
 |.fail e,s,_,d,_=>if d=0 then [bad s]else s.ask an.fM (.le (.c an.er.1) e)++s.ask an.fM (.le e (.c an.er.2))
 |.gA x tp t,s,ls,d,pr=>
     let s2:=s.fT (jH x 1)
     (if free pr x 1 then []else [bad s])++((if an.er.2<an.er.1 then []else tp.pM K key an out {s2 with g:=(x,.i an.er.1 an.er.2)::s2.g} ls d pr)++t.pM K key an out s ls (d+1) pr)
 |.pop t,s,ls,d,pr=>if d=0 then [bad s]else t.pM K key an out s ls (d-1) pr
def rX(c:Cn):Sk:=Sk.n8 {g:=oU 0 c.args,q:=[],f:=[] } c.pre
def zu(K:Nat->Option Cn)(key:FuncId->Nat)(an:An)(out:Cn)(t:aA):List Vc:=t.pM K key an out (rX out) [] 0 (List.range out.args.length)
end Go.Sx
namespace Go.Sx
variable{m n x y:Int}{k:Nat}{cs:List (Int×Int)}{d:DV}{z:Int}
def ckA:CK->Int×Int
 |.i k=>(k.min,k.max)
 |.b=>(0,1)
 |.f=>(0,18446744073709551615)
def ctA:CT->A
 |.c (.i k)=>.i k.min k.max
 |.c .b=>.b
 |.c .f=>.i 0 18446744073709551615
 |.s _ ks=>.l 0 none (ks.map ckA)
 |.n _ _=>.l 0 none []
def ac4(s:bX):Cn:=⟨(bP s.args).map ctA,[],(bP s.res).map ctA,[]⟩
theorem yy{a b:Nat}(h:Nat.beq a b=true):a=b:=tm h
theorem IE.beq_eq:∀ {a b:IE},a.beq b=true->a=b:=by
 intro a;induction a with
 |v k=>intro b h;cases b<;>simp_all[IE.beq]<;>exact yy h
 |c n=>intro b h;cases b<;>simp_all[IE.beq]
 |ediv a n ih=>intro b h;cases b<;>simp[IE.beq]at h;obtain⟨h1,h2⟩:=h;rw[h1,ih h2]
 |emod a n ih=>intro b h;cases b<;>simp[IE.beq]at h;obtain⟨h1,h2⟩:=h;rw[h1,ih h2]
 |wrap k a ih=>intro b h;cases b<;>simp[IE.beq,CKb]at h;obtain⟨h1,h2⟩:=h;rw[h1,ih h2]
 |bits o k x y NS Oc=>intro b h;cases b<;>simp[IE.beq,CKb]at h;obtain⟨h1,h2,h3,h4⟩:=h;rw[h1,h2,NS h3,Oc h4]
 |len k=>intro b h;cases b<;>simp_all[IE.beq]<;>exact yy h
 |get k i j ih=>intro b h;cases b<;>simp[IE.beq]at h;obtain⟨h1,h2,h3⟩:=h;rw[h1,h2,ih h3]
 |ju i n x y uS uT YP=>intro b h;cases b<;>simp[IE.beq]at h;obtain⟨h1,h2,h3,h4⟩:=h;rw[h1,uS h2,uT h3,YP h4]
 |_ x y NS Oc=>intro b h;cases b<;>simp[IE.beq]at h;rw[NS h.1,Oc h.2]
theorem BE.beq_eq:∀ {a b:BE},a.beq b=true->a=b:=by
 intro a;induction a with
 |v k=>intro b h;cases b<;>simp_all[BE.beq]<;>exact yy h
 |c n=>intro b h;cases b<;>simp_all[BE.beq]
 |lt x y=>intro b h;cases b<;>simp[BE.beq]at h;rw[IE.beq_eq h.1,IE.beq_eq h.2]
 |le x y=>intro b h;cases b<;>simp[BE.beq]at h;rw[IE.beq_eq h.1,IE.beq_eq h.2]
 |eq x y=>intro b h;cases b<;>simp[BE.beq]at h;rw[IE.beq_eq h.1,IE.beq_eq h.2]
 |not x ih=>intro b h;cases b<;>simp[BE.beq]at h;rw[ih h]
 |sM x=>intro b h;cases b<;>simp[BE.beq]at h;rw[IE.beq_eq h]
 |_ x y NS Oc=>intro b h;cases b<;>simp[BE.beq]at h;rw[NS h.1,Oc h.2]
def In(r:Rg)(n:Int):Prop:=(∀x,r.1=some x->x<=n)/\(∀y,r.2=some y->n<=y)
theorem In.non:In (none,none) n:=⟨fun _ h=>(by cases h),fun _ h=>(by cases h)⟩
theorem rh:In (some x,some y) n↔x<=n/\n<=y:=⟨fun h=>⟨h.1 x rfl,h.2 y rfl⟩,fun h=>⟨fun _ e=>by cases e;exact h.1,fun _ e=>by cases e;exact h.2⟩⟩
theorem lB{f:Int->Int->Int}{a b:Option Int}(h:o2 f a b=some z):∃x y,a=some x/\b=some y/\z=f x y:=by
 cases a<;>cases b<;>simp_all[o2]
theorem ZO{a b:Rg}(ha:In a m)(hb:In b n):In (o2 (· + ·) a.1 b.1,o2 (· + ·) a.2 b.2) (m+n):=by
 constructor;intro z h;obtain⟨x,y,h1,h2,rfl⟩:=lB h;have:=ha.1 x h1;have:=hb.1 y h2;show x+y<=_;omega
 intro z h;obtain⟨x,y,h1,h2,rfl⟩:=lB h;have:=ha.2 x h1;have:=hb.2 y h2;show _<=x+y;omega
theorem ZP{a b:Rg}(ha:In a m)(hb:In b n):In (o2 (· - ·) a.1 b.2,o2 (· - ·) a.2 b.1) (m-n):=by
 constructor;intro z h;obtain⟨x,y,h1,h2,rfl⟩:=lB h;have:=ha.1 x h1;have:=hb.2 y h2;show x-y<=_;omega
 intro z h;obtain⟨x,y,h1,h2,rfl⟩:=lB h;have:=ha.2 x h1;have:=hb.1 y h2;show _<=x-y;omega
theorem ZQ{w:Int}(h1:x<=m)(h2:m<=y)(h3:z<=n)(h4:n<=w):(PA (x*z) (x*w) (y*z) (y*w)).1<=m*n/\m*n<=(PA (x*z) (x*w) (y*z) (y*w)).2:=by
 have key:∀(a b c d t:Int),a<=t->t<=b->∀k:Int,min (a*k) (b*k)<=t*k/\t*k<=max (a*k) (b*k):=by
   intro a b c d t ha hb k;rcases Int.le_total 0 k with hk|hk;have e1:=qk ha hk;have e2:=qk hb hk;omega;have e1:=Int.mul_le_mul_of_nonpos_right ha hk;have e2:=Int.mul_le_mul_of_nonpos_right hb hk;omega
 have a1:=key x y 0 0 m h1 h2 n;have a2:=key z w 0 0 n h3 h4 x;have a3:=key z w 0 0 n h3 h4 y;rw[mY n x,mY z x,mY w x]at a2;rw[mY n y,mY z y,mY w y]at a3;unfold PA;constructor;show min (min (x*z) (x*w)) (min (y*z) (y*w))<=_;omega;show _<=max (max (x*z) (x*w)) (max (y*z) (y*w));omega
theorem Kv{a b:Rg}(ha:In a m)(hb:In b n):In (mulR a b) (m*n):=by
 unfold mulR;split;rename_i x y z w;obtain⟨h1,h2⟩:=rh.1 ha;obtain⟨h3,h4⟩:=rh.1 hb;exact rh.2 (ZQ h1 h2 h3 h4);rename_i x _ z _ _;split;rename_i h;refine⟨fun t e=>?_,fun _ e=>(by cases e)⟩;cases e;have h1:=ha.1 x rfl;have h2:=hb.1 z rfl;exact zQ h1 h2 h.2 (by omega);exact In.non;exact In.non
theorem XZ(m:Int):0<=m*m:=by
 rcases Int.le_total 0 m with h|h;exact qJ h h;exact Int.mul_nonneg_of_nonpos_of_nonpos h h
theorem ZR{a:Rg}(ha:In a m):In (sqR a) (m*m):=by
 unfold sqR;split;rename_i x y;obtain⟨h1,h2⟩:=rh.1 ha;have n0:0<=m*m:=by exact XZ m
 refine rh.2 ⟨?_,?_⟩;split;rename_i h;exact zQ h1 h1 h (by omega);split;rename_i h' h;have:=zQ (show -y<=-m by omega) (show -y<=-m by omega) (by omega) (by omega);simpa[Int.neg_mul_neg]using this;exact n0;rcases Int.le_total 0 m with h|h;have:=zQ h2 h2 h (by omega);omega;have:=zQ (show -m<=-x by omega) (show -m<=-x by omega) (by omega) (by omega);simp only[Int.neg_mul_neg]at this;omega;refine⟨fun t e=>?_,fun _ e=>(by cases e)⟩;cases e;exact XZ m
theorem Ad{a:Rg}{t:Int}(ha:In a m)(h:t.natAbs<=m.natAbs):In (MX a) t:=by
 unfold MX;split;rename_i x y;obtain⟨h1,h2⟩:=rh.1 ha;exact rh.2 (by omega);exact In.non
theorem PK{a b:Rg}(ha:In a m)(hb:In b n):In (PB a b) (m.tdiv n):=by
 have PL:(m.tdiv n).natAbs<=m.natAbs:=by
   rw[Int.natAbs_tdiv];exact Nat.div_le_self _ _
 unfold PB;split;rename_i x y z _;split;rename_i hz;obtain⟨h1,h2⟩:=rh.1 ha;have h3:=hb.1 z rfl;have hn:0<n:=by omega
 have hs:n.sign=1:=Int.sign_eq_one_of_pos hn;refine rh.2 ⟨?_,?_⟩;split;rename_i hx;exact Int.tdiv_nonneg (by omega) (by omega);rcases Int.le_total 0 m with h|h;have e1:=Int.tdiv_nonneg h (show 0<=n by omega);have e2:=uW (show 0<=-x by omega) (show 0<=z by omega);omega;have e1:m.tdiv n = -((-m).tdiv n):=by rw[Int.neg_tdiv];omega
 have e2:(-m).tdiv n=(-m)/n:=Ey (by omega);have e3:(-m)/n<=(-x)/z:=by
   have a1:(-m)/n<=(-m)/z:=by
     refine Int.le_ediv_of_mul_le (by omega) ?_;have:=Int.ediv_mul_le (-m) (show n≠0 by omega);have q0:=uW (show 0<=-m by omega) (show 0<=n by omega);have:=oK h3 q0;omega
   have a2:=Int.ediv_le_ediv (show 0<z by omega) (show -m<=-x by omega);omega
 omega;split;rename_i hy;have e1:m.tdiv n = -((-m).tdiv n):=by rw[Int.neg_tdiv];omega
 have:=Int.tdiv_nonneg (show 0<=-m by omega) (show 0<=n by omega);omega;rcases Int.le_total 0 m with h|h;have e2:m.tdiv n=m/n:=Ey h;have a1:m/n<=m/z:=by
   refine Int.le_ediv_of_mul_le (by omega) ?_;have:=Int.ediv_mul_le m (show n≠0 by omega);have q0:=uW h (show 0<=n by omega);have:=oK h3 q0;omega
 have a2:=Int.ediv_le_ediv (show 0<z by omega) h2;omega;have e1:m.tdiv n = -((-m).tdiv n):=by rw[Int.neg_tdiv];omega
 have:=Int.tdiv_nonneg (show 0<=-m by omega) (show 0<=n by omega);have:=uW (show 0<=y by omega) (show 0<=z by omega);omega;exact Ad ha PL;exact Ad ha PL
theorem PM{a b:Rg}(ha:In a m)(hb:In b n):In (PC a b) (m.tmod n):=by
 have PL:(m.tmod n).natAbs<=m.natAbs:=by
   rw[Int.natAbs_tmod];exact Nat.mod_le _ _
 unfold PC;split;rename_i x y z w;split;rename_i hz;obtain⟨h1,h2⟩:=rh.1 ha;obtain⟨h3,h4⟩:=rh.1 hb;have cM:(m.tmod n).natAbs<n.natAbs:=by rw[Int.natAbs_tmod];exact Nat.mod_lt _ (by omega)
 have hp:0<=m->0<=m.tmod n:=fun h=>Int.tmod_nonneg n h;have hq:m<=0->m.tmod n<=0:=fun h=>by
   have:=Int.tmod_nonneg n (show 0<=-m by omega);rw[Int.neg_tmod]at this;omega
 refine rh.2 ⟨?_,?_⟩;split;exact hp (by omega);rcases Int.le_total 0 m with h|h;have:=hp h;omega;have:=hq h;omega;split;exact hq (by omega);rcases Int.le_total 0 m with h|h;have:=hp h;omega;have:=hq h;omega;exact Ad ha PL;exact Ad ha PL
theorem Bj{a b:Nat}(h:a<=b):(2:Int) ^ a<=2 ^ b:=by
 have:=Nat.pow_le_pow_right (show 0<2 by omega) h;have e:∀n:Nat,(2:Int) ^ n=((2 ^ n:Nat):Int):=fun n=>by push_cast;rfl
 rw[e,e];exact_mod_cast this
theorem tT(a:Nat):(0:Int)<2 ^ a:=Int.pow_pos (by omega)
theorem Vl{a b:Rg}(ha:In a m)(hb:In b n):In (ZM a b) (m*2 ^ n.toNat):=by
 unfold ZM;split;rename_i z w;split;rename_i h;obtain⟨h3,h4⟩:=rh.1 hb;exact Kv ha (rh.2 ⟨Bj (by omega),Bj (by omega)⟩);exact In.non;exact In.non
theorem div_pow{a b:Nat}(h:a<=b):(0<=m->m/2 ^ b<=m/2 ^ a)/\(m<=0->m/2 ^ a<=m/2 ^ b):=by
 have pa:=tT a;have pb:=tT b;have pm:=Bj h;constructor;intro h0;refine Int.le_ediv_of_mul_le pa ?_;have q0:=uW h0 (Int.le_of_lt pb);have:=oK pm q0;have:=Int.ediv_mul_le m (show(2:Int) ^ b≠0 by omega);omega;intro h0;refine Int.le_ediv_of_mul_le pb ?_;have q0:m/2 ^ a<=0:=Int.ediv_nonpos_of_nonpos_of_neg h0 pa;have e1:=qJ (show 0<=-(m/2 ^ a)by omega) (show 0<=(2:Int) ^ b-2 ^ a by omega);have:=Int.ediv_mul_le m (show(2:Int) ^ a≠0 by omega);have e2: -(m/2 ^ a)*((2:Int) ^ b-2 ^ a)=m/2 ^ a*2 ^ a-m/2 ^ a*2 ^ b:=by grind
 omega
theorem Kx(h1:x<=m)(h2:m<=y):min x 0<=m/2 ^ k/\m/2 ^ k<=max y 0:=by
 have a:=div_pow (m:=m) (show 0<=k by omega);simp only[Int.pow_zero,Int.ediv_one]at a;have pk:=tT k;rcases Int.le_total 0 m with h|h;have:=a.1 h;have:=uW h (Int.le_of_lt pk);omega
 have:=a.2 h;have:=Int.ediv_nonpos_of_nonpos_of_neg h pk;omega
theorem Vm{a b:Rg}(ha:In a m)(hb:In b n):In (ZN a b) (m/2 ^ n.toNat):=by
 unfold ZN;split;rename_i x y z w;obtain⟨h1,h2⟩:=rh.1 ha;split;rename_i h;obtain⟨h3,h4⟩:=rh.1 hb;have c1:=div_pow (m:=x) (show z.toNat<=n.toNat by omega);have c2:=div_pow (m:=x) (show n.toNat<=w.toNat by omega);have c3:=div_pow (m:=y) (show z.toNat<=n.toNat by omega);have c4:=div_pow (m:=y) (show n.toNat<=w.toNat by omega);have d1:=Int.ediv_le_ediv (tT n.toNat) h1;have d2:=Int.ediv_le_ediv (tT n.toNat) h2;refine rh.2 ⟨?_,?_⟩;rcases Int.le_total 0 x with h|h;have:=c2.1 h;omega;have:=c1.2 h;omega;rcases Int.le_total 0 y with h|h;have:=c3.1 h;omega;have:=c4.2 h;omega;exact rh.2 (Kx h1 h2);rename_i x y _ _ _;obtain⟨h1,h2⟩:=rh.1 ha;exact rh.2 (Kx h1 h2);exact In.non
theorem fV{k:IntKind}:k.min<=k.wrap n/\k.wrap n<=k.max:=Go.wrap_within k n
theorem Fe{k:IntKind}(h:k.min<=n/\n<=k.max):k.wrap n=n:=by
 obtain⟨h1,h2⟩:=h;cases k<;>simp[IntKind.wrap,IntKind.min,IntKind.max,IntKind.signed,IntKind.bits]at * <;>omega
theorem PN{a:Rg}{k:IntKind}(ha:In a m):In (PD k a) (k.wrap m):=by
 unfold PD;split;rename_i x y;obtain⟨h1,h2⟩:=rh.1 ha;split;rename_i h;rw[Fe (by omega)];exact rh.2 ⟨h1,h2⟩;exact rh.2 fV;exact rh.2 fV
theorem Ha{a b:Rg}(h:In a m\/In b m):In (XV a b) m:=by
 constructor;intro z e;obtain⟨x,y,h1,h2,rfl⟩:=lB e;rcases h with h|h;have:=h.1 x h1;show min x y<=_;omega;have:=h.1 y h2;show min x y<=_;omega;intro z e;obtain⟨x,y,h1,h2,rfl⟩:=lB e;rcases h with h|h;have:=h.2 x h1;show _<=max x y;omega;have:=h.2 y h2;show _<=max x y;omega
theorem Ky{a b:Rg}(ha:In a m)(hb:In b n):In (Vk a b) (min m n):=by
 obtain⟨a1,a2⟩:=a;obtain⟨b1,b2⟩:=b;constructor;intro z e;obtain⟨x,y,h1,h2,rfl⟩:=lB e;have:=ha.1 x h1;have:=hb.1 y h2;show min x y<=_;omega
 intro z e;simp only[Vk]at e;split at e;cases e;have:=ha.2 _ rfl;have:=hb.2 _ rfl;omega
 cases e;have:=ha.2 _ rfl;omega
 have:=hb.2 _ e;omega
theorem Ff{a b:Rg}(ha:In a m)(hb:In b n):In (PE a b) (max m n):=by
 obtain⟨a1,a2⟩:=a;obtain⟨b1,b2⟩:=b;constructor;intro z e;simp only[PE]at e;split at e;cases e;have:=ha.1 _ rfl;have:=hb.1 _ rfl;omega
 cases e;have:=ha.1 _ rfl;omega
 have:=hb.1 _ e;omega;intro z e;obtain⟨x,y,h1,h2,rfl⟩:=lB e;have:=ha.2 x h1;have:=hb.2 y h2;show _<=max x y;omega
def qp(ae:aF):List (Int×IE)->Int
 | []=>0
 |(c,e)::r=>c*e.af ae+qp ae r
def Lf.af(ae:aF)(l:Lf):Int:=qp ae l.1+l.2
structure Sk.ok(s:Sk)(ae:aF):Prop where
 g:∀p∈s.g,p.2.has (ae p.1)
 q:∀l∈s.q,0<=Lf.af ae l
 f:∀p∈s.f,p.af ae=true
theorem PO{a:A}:∀ {g:List (Nat×A)},look k g=some a->(k,a)∈g:=by
 intro g;induction g with
 |nil=>intro h;cases h
 | cons x g ih=>
   intro h;obtain⟨j,y⟩:=x;unfold look at h;split at h;rename_i e;cases h;rw[yy e];exact aZ ..;exact bI _ (ih h)
variable {s:Sk}{ae:aF}
theorem Sk.ok.find(h:s.ok ae){a:A}(e:s.find k=some a):a.has (ae k):=h.g _ (PO e)
theorem Kz{lo hi:Int}(h:(A.i lo hi).has d):∃n,d = .i n/\lo<=n/\n<=hi:=by
 cases d with
 |i n=>exact⟨n,rfl,h⟩
 |b x=>exact h.elim
 |l xs=>exact h.elim
theorem tU{a:Int}{b:Option Int}(h:(A.l a b cs).has d):∃xs,d = .l xs/\a<=(xs.length:Int)/\(∀y,b=some y->(xs.length:Int)<=y)/\∀r∈xs,cR cs 0 r:=by
 cases d with
 |i n=>exact h.elim
 |b x=>exact h.elim
 |l xs=>exact⟨xs,rfl,h⟩
theorem wi:∀ {cs:List (Int×Int)} {m j:Nat} {r:List Int},cR cs m r->cs[j]?=some (x,y)->x<=r.getD (m+j) 0/\r.getD (m+j) 0<=y:=by
 intro cs;induction cs with
 |nil=>intro m j r _ h;simp at h
 | cons c cs ih=>
   intro m j r hr h;cases j with
   |zero=>simp only[kK,ah]at h;subst h;exact hr.1
   | succ j=>
     simp only[Am]at h;have:=ih hr.2 h;rwa[show m+1+j=m+(j+1)by omega]at this
theorem jm(h:s.ok ae){p:BE}(e:s.fe p=true):p.af ae=true:=by
 simp only[Sk.fe,la]at e;obtain⟨x,hx,e⟩:=e;rw[<- BE.beq_eq e];exact h.f x hx
theorem KA{xs:List (List Int)}{j:Nat}{i:Int}(hr:∀r∈xs,cR cs 0 r)(hc:cs[j]?=some (x,y)):(0<=i/\i<(xs.length:Int)->x<=cellAt xs i j/\cellAt xs i j<=y)/\(min x 0<=cellAt xs i j/\cellAt xs i j<=max y 0):=by
 have key:i.toNat<xs.length->x<=cellAt xs i j/\cellAt xs i j<=y:=by
   intro h;have hm:xs.getD i.toNat []∈xs:=by
     rw[cm,eN h];exact List.getElem_mem h
   have:=wi (hr _ hm) hc;rw[fR]at this;exact this
 refine⟨fun h=>key (by omega),?_⟩;by_cases h:i.toNat<xs.length;have:=key h;omega;have:cellAt xs i j=0:=by
   unfold cellAt;have e:xs.getD i.toNat []=[]:=by rw[cm,uU (Nat.le_of_not_lt h)];rfl
   rw[e];simp
 omega
theorem xo(h:s.ok ae):∀e:IE,In (s.iv e) (e.af ae):=by
 intro e;induction e with
 | v k=>
   simp only[Sk.iv,IE.af];split;rename_i lo hi e;obtain⟨n,hn,h1,h2⟩:=Kz (h.find e);rw[hn];exact rh.2 ⟨h1,h2⟩;exact In.non
 |c n=>exact rh.2 ⟨Int.le_refl _,Int.le_refl _⟩
 |add a b fz fX=>exact ZO fz fX
 |sub a b fz fX=>exact ZP fz fX
 | mul a b fz fX=>
   simp only[Sk.iv,IE.af];split;rename_i e;rw[<- IE.beq_eq e];exact ZR fz;exact Kv fz fX
 |tdiv a b fz fX=>exact PK fz fX
 |tmod a b fz fX=>exact PM fz fX
 | ediv a n fz=>
   simp only[Sk.iv,IE.af];split;exact In.non;rename_i hn;have pG:n≠0:=fun e=>hn (by rw[e];rfl);have hp:(0:Int)<n:=by omega
   constructor;intro z e;simp only[bN]at e;obtain⟨x,hx,rfl⟩:=e;exact Int.ediv_le_ediv hp (fz.1 x hx);intro z e;simp only[bN]at e;obtain⟨x,hx,rfl⟩:=e;exact Int.ediv_le_ediv hp (fz.2 x hx)
 | emod a n fz=>
   simp only[Sk.iv,IE.af];split;exact In.non;rename_i hn;have pG:n≠0:=fun e=>hn (by rw[e];rfl);have h1:=zG (a.af ae) (show(n:Int)≠0 by omega);have h2:=ym (a.af ae) (show(0:Int)<n by omega);split;rename_i x y e;rw[e]at fz;obtain⟨i1,i2⟩:=rh.1 fz;split;rename_i hc;rw[Int.emod_eq_of_lt (by omega) (by omega)];exact fz;exact rh.2 ⟨h1,by omega⟩;exact rh.2 ⟨h1,by omega⟩
 |shl a b fz fX=>exact Vl fz fX
 |shr a b fz fX=>exact Vm fz fX
 |wrap k a fz=>exact PN fz
 |max a b fz fX=>exact Ff fz fX
 |min a b fz fX=>exact Ky fz fX
 |bits op k a b fz fX=>exact rh.2 (Go.bits_within op k _ _)
 | len k=>
   simp only[Sk.iv,IE.af];split;rename_i n0 n1 cs e;obtain⟨xs,hx,h1,h2,_⟩:=tU (h.find e);rw[hx];refine⟨fun z e=>?_,fun z e=>h2 z e⟩;cases e;show max n0 0<=(xs.length:Int);omega;refine⟨fun z e=>?_,fun _ e=>(by cases e)⟩;cases e;omega
 | get k i j ih=>
   simp only[Sk.iv,IE.af];split;rename_i n0 n1 cs e;obtain⟨xs,hx,h1,h2,h3⟩:=tU (h.find e);rw[hx];split;rename_i x y hc;have key:=KA (i:=i.af ae) h3 hc;split;rename_i iP;refine rh.2 (key.1 ?_);simp only[Sk.ac3,ao,hZ]at iP;obtain⟨g1,g2⟩:=iP;have z0:0<=i.af ae:=by
     split at g1;rename_i x Zy;have:=ih.1 x Zy;simp only[aO]at g1;omega;cases g1
   refine⟨z0,?_⟩;rcases g2 with(g2|g2)|g2;split at g2;rename_i y hy;have:=ih.2 y hy;simp only[aO]at g2;omega;cases g2;split at g2;rename_i l m;simp only[ao,aO]at g2;have:=yy g2.1;subst this;simp only[IE.af,hx,DV.list];omega;cases g2;simp only[la]at g2;obtain⟨p,hp,e⟩:=g2;have:=h.f p hp;rw[BE.beq_eq e]at this;simpa[BE.af,IE.af,hx,DV.list]using this;exact rh.2 key.2;exact In.non;exact In.non
 | ju i n a b ihi fz fX=>
   simp only[Sk.iv,IE.af];split;exact Ha (.inl fz);exact Ha (.inr fX)
end Go.Sx
namespace Go.Sx
section
variable {s:Sk}{ae:aF}
variable{d:Nat}{c:Int}{l:Lf}{n:Int}{e:IE}{m:Int}{k:Nat}
theorem PQ:∀ {l:List (Int×IE)},qp ae (MY c e l)=c*e.af ae+qp ae l:=by
 intro l;induction l with
 |nil=>simp[MY,qp]
 | cons x r ih=>
   obtain⟨d,x⟩:=x;unfold MY;split;rename_i h;have:=IE.beq_eq h;subst this;split;rename_i h0;have e1:d = -c:=by omega
   subst e1;simp only[qp];grind;simp only[qp];grind;simp only[qp,ih];omega
theorem PR{b:List (Int×IE)}:∀ {a:List (Int×IE)},qp ae (PF c a b)=c*qp ae a+qp ae b:=by
 intro a;induction a with
 |nil=>simp[PF,qp]
 | cons x r ih=>
   have:PF c (x::r) b=MY (c*x.1) x.2 (PF c r b):=rfl;rw[this,PQ,ih];obtain⟨d,e⟩:=x;simp only[qp];grind
theorem Lf.eF{a b:Lf}:(Lf.plus c a b).af ae=c*a.af ae+b.af ae:=by
 simp only[Lf.af,Lf.plus,PR];grind
theorem oV:Lf.af ae ([(c,e)],n)=c*e.af ae+n:=by simp[Lf.af,qp]
theorem gg:Lf.af ae ([],n)=n:=by simp[Lf.af,qp]
theorem Fg(h:e.isC=some n):e.af ae=n:=by
 cases e<;>simp_all[IE.isC,IE.af]
theorem j7(h:s.ok ae):∀e:IE,(s.uH e).af ae=e.af ae:=by
 intro e;induction e with
 |c n=>exact gg
 |add a b fz fX=>simp only[Sk.uH,Lf.eF,fz,fX,IE.af];omega
 |sub a b fz fX=>simp only[Sk.uH,Lf.eF,fz,fX,IE.af];omega
 | mul a b fz fX=>
   simp only[Sk.uH,IE.af];split;rename_i hn;rw[Lf.eF,fX,gg,Fg hn];omega;rename_i hn _;rw[Lf.eF,fz,gg,Fg hn,mY];omega;rw[oV];simp[IE.af]
 | wrap k a fz=>
   simp only[Sk.uH,IE.af];split;rename_i hw;rw[fz];have:=xo h a;unfold within at hw;split at hw;rename_i x y e;rw[e]at this;obtain⟨h1,h2⟩:=rh.1 this;simp only[aO]at hw;rw[Fe (by omega)];cases hw;rw[oV];simp[IE.af]
 |_=>simp only[Sk.uH];rw[oV];simp
theorem PT(h:s.ok ae):∀ {l:List (Int×IE)} {x:Int},s.low l=some x->x<=qp ae l:=by
 intro l;induction l with
 |nil=>intro x e;cases e;exact Int.le_refl _
 | cons t r ih=>
   intro x e;obtain⟨c,t⟩:=t;simp only[Sk.low]at e;split at e;rename_i a b ha hb;cases e;have h1:=ih ha;have h2:=xo h t;have:c*b<=c*t.af ae:=by
     split at hb;exact oK (h2.1 b hb) (by assumption);exact Int.mul_le_mul_of_nonpos_left (by omega) (h2.2 b hb)
   simp only[qp];omega;cases e
theorem Bk(h:s.ok ae)(e:s.wh l=true):0<=l.af ae:=by
 unfold Sk.wh at e;split at e;rename_i x hx;have:=PT h hx;simp only[aO]at e;unfold Lf.af;omega;cases e
theorem Bl(h:s.ok ae):∀ {ts:List (Int×IE)} {o:Nat} {x y:Lf},s.fork l ts=some (o,x,y)->
   (o=1->0<=l.af ae->0<=x.af ae/\0<=y.af ae)/\(0<=x.af ae/\0<=y.af ae->0<=l.af ae)/\(o=0->0<=x.af ae\/0<=y.af ae->0<=l.af ae):=by
 intro ts;induction ts with
 |nil=>intro o x y e;cases e
 | cons t r ih=>
   intro o x y e;obtain⟨c,t⟩:=t;cases t with
   | max a b=>
     simp only[Sk.fork,ah,aD]at e;obtain⟨rfl,rfl,rfl⟩:=e;simp only[Lf.eF,j7 h,oV,IE.af];generalize a.af ae=A;generalize b.af ae=B;generalize l.af ae=L;have m1:A<=max A B:=by omega
     have m2:B<=max A B:=by omega
     have m3:max A B=A\/max A B=B:=by omega
     generalize max A B=M at *;simp only[Int.neg_mul,Int.one_mul,Int.add_zero];refine⟨fun hc=>?_,?_,fun hc=>?_⟩
     . have hc:c<0:=by revert hc;split<;>simp_all
       have e1:=Int.mul_le_mul_of_nonpos_left (show c<=0 by omega) m1;have e2:=Int.mul_le_mul_of_nonpos_left (show c<=0 by omega) m2;intro h0;constructor<;>omega
     rintro⟨h1,h2⟩;rcases m3 with rfl|rfl<;>omega
     . have hc:0<=c:=by revert hc;split<;>simp_all
       have e1:=oK m1 hc;have e2:=oK m2 hc;intro h1;rcases h1 with h1|h1<;>omega
   | min a b=>
     simp only[Sk.fork,ah,aD]at e;obtain⟨rfl,rfl,rfl⟩:=e;simp only[Lf.eF,j7 h,oV,IE.af];generalize a.af ae=A;generalize b.af ae=B;generalize l.af ae=L;have m1:min A B<=A:=by omega
     have m2:min A B<=B:=by omega
     have m3:min A B=A\/min A B=B:=by omega
     generalize min A B=M at *;simp only[Int.neg_mul,Int.one_mul,Int.add_zero];refine⟨fun hc=>?_,?_,fun hc=>?_⟩
     . have hc:0<c:=by revert hc;split<;>simp_all
       have e1:=oK m1 (show 0<=c by omega);have e2:=oK m2 (show 0<=c by omega);intro h0;constructor<;>omega
     rintro⟨h1,h2⟩;rcases m3 with rfl|rfl<;>omega
     . have hc:c<=0:=by revert hc;split<;>simp_all
       have e1:=Int.mul_le_mul_of_nonpos_left hc m1;have e2:=Int.mul_le_mul_of_nonpos_left hc m2;intro h1;rcases h1 with h1|h1<;>omega
   | ju i n a b=>
     simp only[Sk.fork,ah,aD]at e;obtain⟨rfl,rfl,rfl⟩:=e;simp only[Lf.eF,j7 h,oV,IE.af,Int.neg_mul,Int.one_mul,Int.add_zero];refine⟨fun hc=>(by cases hc),?_,fun hc=>(by cases hc)⟩;rintro⟨h1,h2⟩;split at h1<;>split at h2<;>first|omega|contradiction
   |_=>exact ih (by simpa only[Sk.fork]using e)
theorem I9{a b:List (Int×IE)}(h:shares a b=some m):1<=m:=by
 unfold shares at h;obtain⟨x,_,h⟩:=List.exists_of_findSome?_eq_some h;obtain⟨y,_,h⟩:=List.exists_of_findSome?_eq_some h;split at h;simp only[ah]at h;subst h;split<;>omega;cases h
theorem tV(h:s.ok ae):∀ {d:Nat} {l:Lf},s.by d l=true->0<=l.af ae:=by
 intro d;induction d with
 |zero=>intro l e;exact Bk h e
 | succ d ih=>
   intro l e;simp only[Sk.by,hZ]at e;rcases e with(e|e)|e;exact Bk h e;simp only[la]at e;obtain⟨f,hf,e⟩:=e;split at e;rename_i m hm;have h1:=ih e;have h2:=h.q f hf;have h3:=I9 hm;rw[Lf.eF]at h1;have:=qJ (show 0<=m by omega) h2;rw[Int.neg_mul]at h1;omega;cases e;split at e;rename_i x y hx;simp only[hZ]at e;exact(Bl h hx).2.2 rfl (e.imp ih ih);rename_i x y _ hx;simp only[ao]at e;exact(Bl h hx).2.1 ⟨ih e.1,ih e.2⟩;cases e
theorem jn(h:s.ok ae)(a b:IE):(s.diff a b).af ae=b.af ae-a.af ae:=by
 unfold Sk.diff;rw[Lf.eF,j7 h,j7 h];omega
theorem byD(h:s.ok ae){a b:IE}(e:s.by d (s.diff a b)=true):a.af ae<=b.af ae:=by
 have:=tV h e;rw[jn h]at this;omega
theorem Vn(h:s.ok ae){a b:IE}(e:s.by d (Lf.plus 1 (s.diff a b) ([],-1))=true):a.af ae<b.af ae:=by
 have:=tV h e;rw[Lf.eF,jn h,gg]at this;omega
theorem X1(h:s.ok ae)(e:s.by d ([],-1)=true):False:=by
 have:=tV h e;rw[gg]at this;omega
theorem byP(h:s.ok ae){a:IE}(e:s.by d (Lf.plus 1 (s.uH a) ([],-1))=true):0<a.af ae:=by
 have:=tV h e;rw[Lf.eF,j7 h,gg]at this;omega
theorem byN(h:s.ok ae){a:IE}(e:s.by d (Lf.plus (-1) (s.uH a) ([],-1))=true):a.af ae<0:=by
 have:=tV h e;rw[Lf.eF,j7 h,gg]at this;omega
theorem by0(h:s.ok ae){a:IE}(e:s.by d (s.uH a)=true):0<=a.af ae:=by
 have:=tV h e;rwa[j7 h]at this
theorem agI(h:s.ok ae){a:IE}(e:s.by d (Lf.plus (-1) (s.uH a) ([],0))=true):a.af ae<=0:=by
 have:=tV h e;rw[Lf.eF,j7 h,gg]at this;omega
theorem pnv(h:s.ok ae):∀p:BE,(s.pv d p=true->p.af ae=true)/\(s.nv d p=true->p.af ae=false):=by
 intro p;induction p with
 | v k=>
   refine⟨fun e=>jm h (by simpa only[Sk.pv]using e),fun e=>?_⟩;have:=jm h (p:=.not (.v k)) (by simpa only[Sk.nv]using e);simpa[BE.af]using this
 | c x=>
   constructor;intro e;simp only[Sk.pv,hZ]at e;rcases e with e|e;exact e;exact(X1 h e).elim;intro e;simp only[Sk.nv,hZ,nJ]at e;rcases e with e|e;exact e;exact(X1 h e).elim
 | lt a b=>
   constructor;intro e;simp only[Sk.pv]at e;simpa[BE.af]using Vn h e;intro e;simp only[Sk.nv]at e;simpa[BE.af]using byD h e
 | le a b=>
   constructor;intro e;simp only[Sk.pv]at e;simpa[BE.af]using byD h e;intro e;simp only[Sk.nv]at e;simpa[BE.af]using Vn h e
 | eq a b=>
   constructor;intro e;simp only[Sk.pv,hZ,ao]at e;rcases e with(e|e)|e;simp[BE.af,IE.beq_eq e];have h1:=byD h e.1;have h2:=byD h e.2
   simp only[BE.af,aO];omega;exact jm h e;intro e;simp only[Sk.nv,hZ]at e;rcases e with(e|e)|e;have:=Vn h e;simp only[BE.af,sO];omega;have:=Vn h e;simp only[BE.af,sO];omega;have:=jm h e;simpa[BE.af]using this
 | not a ih=>
   constructor;intro e;simp only[Sk.pv]at e;simp[BE.af,ih.2 e];intro e;simp only[Sk.nv]at e;simp[BE.af,ih.1 e]
 | and a b fz fX=>
   constructor;intro e;simp only[Sk.pv,ao]at e;simp[BE.af,fz.1 e.1,fX.1 e.2];intro e;simp only[Sk.nv,hZ]at e;rcases e with(e|e)|e;simp[BE.af,fz.2 e];simp[BE.af,fX.2 e];have:=jm h e;simpa only[BE.af,nJ]using this
 | or a b fz fX=>
   constructor;intro e;simp only[Sk.pv,hZ]at e;rcases e with(e|e)|e;simp[BE.af,fz.1 e];simp[BE.af,fX.1 e];exact jm h e;intro e;simp only[Sk.nv,ao]at e;simp[BE.af,fz.2 e.1,fX.2 e.2]
 | iff a b fz fX=>
   constructor;intro e;simp only[Sk.pv,hZ,ao]at e;rcases e with((e|e)|e)|e;simp[BE.af,BE.beq_eq e];simp[BE.af,fz.1 e.1,fX.1 e.2];simp[BE.af,fz.2 e.1,fX.2 e.2];exact jm h e;intro e;simp only[Sk.nv,hZ,ao]at e;rcases e with e|e;simp[BE.af,fz.1 e.1,fX.2 e.2];simp[BE.af,fz.2 e.1,fX.1 e.2]
 | sM a=>
   constructor;intro e;simp only[Sk.pv,hZ]at e;rcases e with(e|e)|e;have:=byP h e;simp only[BE.af,aO];omega;have:=byN h e;simp only[BE.af,aO];omega;exact jm h e;intro e;simp only[Sk.nv,ao]at e;have h1:=by0 h e.1;have h2:=agI h e.2
   simp only[BE.af,sO];omega
theorem gE(h:s.ok ae){p:BE}(e:s.pv d p=true):p.af ae=true:=(pnv h p).1 e
theorem oW(h:s.ok ae){p:BE}(e:s.nv d p=true):p.af ae=false:=(pnv h p).2 e
theorem PU{a:A}{p:Nat×A}:∀ {g:List (Nat×A)},p∈E9 k a g->p∈g\/p=(k,a):=by
 intro g;induction g with
 |nil=>intro h;simp[E9]at h
 | cons x g ih=>
   intro h;obtain⟨j,y⟩:=x;unfold E9 at h;split at h;rename_i e;rcases bC.1 h with rfl|h;right;rw[yy e];left;exact bI _ h;rcases bC.1 h with rfl|h;left;exact aZ ..;rcases ih h with h|h;left;exact bI _ h;right;exact h
theorem Sk.ok.put(h:s.ok ae){a:A}(ha:a.has (ae k)):∀p∈E9 k a s.g,p.2.has (ae p.1):=by
 intro p hp;rcases PU hp with hp|rfl;exact h.g p hp;exact ha
theorem cdiv_le(hc:0<c)(h:m<=c*n):cdiv m c<=n:=by
 unfold cdiv;have: -n<=(-m)/c:=Int.le_ediv_of_mul_le hc (by rw[Int.neg_mul,mY];omega);omega
theorem KB(hc:c<0)(h:m<=c*n):n<=(-m)/(-c):=
 Int.le_ediv_of_mul_le (by omega) (by rw[Int.mul_neg,mY];omega)
theorem PV(h:s.ok ae)(hl:0<=l.af ae):∀p∈s.bound l c e,p.2.has (ae p.1):=by
 unfold Sk.bound;split;exact h.g;rename_i nr hn;have h1:=PT h hn;have h2:Lf.af ae (Lf.plus (-1) l ([(c,e)],0))=(-1)*l.af ae+(c*e.af ae+0):=by rw[Lf.eF,oV]
 have h3:Lf.af ae (Lf.plus (-1) l ([(c,e)],0))=qp ae (Lf.plus (-1) l ([(c,e)],0)).1+((-1)*l.2+0):=rfl;have hm:nr+((-1)*l.2+0)<=c*e.af ae:=by omega
 generalize hmm:nr+((-1)*l.2+0)=m at hm;simp only[hmm];split;rename_i k;split;rename_i lo hi hf;obtain⟨n,hn,g1,g2⟩:=Kz (h.find hf);simp only[IE.af,hn,DV.int]at hm;split;rename_i hc;refine h.put ?_;rw[hn];have:=cdiv_le hc hm;exact⟨by omega,g2⟩;split;rename_i hc;refine h.put ?_;rw[hn];have:=KB hc hm;exact⟨g1,by omega⟩;exact h.g;exact h.g;rename_i k;split;rename_i n0 n1 cs hf;obtain⟨xs,hx,g1,g2,g3⟩:=tU (h.find hf);simp only[IE.af,hx,DV.list]at hm;split;rename_i hc;refine h.put ?_;rw[hx];have:=cdiv_le hc hm;exact⟨by omega,g2,g3⟩;split;rename_i hc;refine h.put ?_;rw[hx];have:=KB hc hm;refine⟨g1,fun y e=>?_,g3⟩;split at e;rename_i z;have:=g2 _ rfl;simp only[ah]at e;omega;simp only[ah]at e;omega;exact h.g;exact h.g;exact h.g
theorem uI(h:s.ok ae)(hl:0<=l.af ae):∀ts:List (Int×IE),(ts.foldr (fun t (s:Sk)=>{s with g:=s.bound l t.1 t.2}) s).ok ae:=by
 intro ts;induction ts with
 |nil=>exact h
 |cons t ts ih=>exact⟨PV ih hl,ih.q,ih.f⟩
theorem tW(h:s.ok ae)(hl:0<=l.af ae):(s.tO l).ok ae:=by
 unfold Sk.tO;split;exact h;have k:=uI h hl l.1;refine⟨k.g,fun x hx=>?_,k.f⟩;rcases bC.1 hx with rfl|hx;exact hl;exact k.q x hx
theorem Hb:∀ {n:Nat} {s:Sk} {l:Lf},s.ok ae->0<=l.af ae->(s.tP n l).ok ae:=by
 intro n;induction n with
 |zero=>intro s l h hl;exact tW h hl
 | succ n ih=>
   intro s l h hl;simp only[Sk.tP];split;rename_i x y hx;obtain⟨h1,h2⟩:=(Bl h hx).1 rfl hl;exact ih (ih (tW h hl) h1) h2;exact tW h hl
theorem fO(h:s.ok ae)(hl:0<=l.af ae):(s.fA l).ok ae:=Hb h hl
theorem oa(h:s.ok ae){p:BE}(hp:p.af ae=true):(s.fact p).ok ae:=by
 unfold Sk.fact;split;exact h;refine⟨h.g,h.q,fun x hx=>?_⟩;rcases bC.1 hx with rfl|hx;exact hp;exact h.f x hx
theorem pN(h:s.ok ae){a b:IE}{st:Int}(hs:a.af ae+st<=b.af ae)(h0:0<=st)(h1:st<=1):(Sk.oT s a b st).ok ae:=by
 unfold Sk.oT;split;rename_i x;split;rename_i hc;simp only[ao]at hc;have hx:=xo h x;have hb:=xo h b;have e1:mn<=x.af ae/\x.af ae<=mx:=by
   have:=hc.1;unfold XY at this;split at this;rename_i u v e;rw[e]at hx;obtain⟨g1,g2⟩:=rh.1 hx;simp only[aO]at this;omega;cases this
 have e2:b.af ae<=mx+st:=by
   have:=hc.2;unfold leI at this;split at this;rename_i y e;have:=hb.2 y e;rename_i ac5;simp only[aO]at ac5;omega;cases this
 have e3:IntKind.u64.wrap (x.af ae)<=mx:=by simp only[IE.af]at hs;omega
 have e4:0<=x.af ae/\IntKind.u64.wrap (x.af ae)=x.af ae:=by
   have:IntKind.u64.wrap (x.af ae)=x.af ae%18446744073709551616:=by simp[IntKind.wrap,IntKind.signed,IntKind.bits]
   unfold mn mx at *;omega
 have k1:(s.fA (s.uH x)).ok ae:=fO h (by rw[j7 h];exact e4.1);refine fO k1 ?_;rw[Lf.eF,jn h,gg];simp only[IE.af]at hs;omega;exact h;exact h
theorem KC:∀(p:BE) {s:Sk},s.ok ae->(p.af ae=true->(s.add p).ok ae)/\(p.af ae=false->(s.sub p).ok ae):=by
 intro p;induction p with
 |v k=>intro s h;exact⟨fun e=>by simpa only[Sk.add]using oa h e,fun e=>by simpa only[Sk.sub]using oa h (p:=.not (.v k)) (by simpa[BE.af]using e)⟩
 | c x=>
   intro s h;cases x;exact⟨fun e=>(by cases e),fun _=>(by simpa only[Sk.sub]using h)⟩;exact⟨fun _=>(by simpa only[Sk.add]using h),fun e=>(by cases e)⟩
 | lt a b=>
   intro s h;constructor;intro e;have e':a.af ae<b.af ae:=by simpa[BE.af]using e
   have k1:(s.fA (Lf.plus 1 (s.diff a b) ([],-1))).ok ae:=fO h (by rw[Lf.eF,jn h,gg];omega);have k2:=pN k1 (a:=a) (b:=b) (st:=1) (by omega) (by omega) (by omega);simp only[Sk.add];split;exact oa k2 e;exact k2;intro e;have e':b.af ae<=a.af ae:=by simpa[BE.af]using e
   have k1:(s.fA (s.diff b a)).ok ae:=fO h (by rw[jn h];omega);simpa only[Sk.sub]using pN k1 (a:=b) (b:=a) (st:=0) (by omega) (by omega) (by omega)
 | le a b=>
   intro s h;constructor;intro e;have e':a.af ae<=b.af ae:=by simpa[BE.af]using e
   have k1:(s.fA (s.diff a b)).ok ae:=fO h (by rw[jn h];omega);simpa only[Sk.add]using pN k1 (a:=a) (b:=b) (st:=0) (by omega) (by omega) (by omega);intro e;have e':b.af ae<a.af ae:=by simpa[BE.af]using e
   have k1:(s.fA (Lf.plus 1 (s.diff b a) ([],-1))).ok ae:=fO h (by rw[Lf.eF,jn h,gg];omega);simpa only[Sk.sub]using pN k1 (a:=b) (b:=a) (st:=1) (by omega) (by omega) (by omega)
 | eq a b=>
   intro s h;constructor;intro e;have e':a.af ae=b.af ae:=by simpa[BE.af]using e
   have k1:(s.fA (s.diff a b)).ok ae:=fO h (by rw[jn h];omega);simp only[Sk.add];exact fO k1 (by rw[jn h];omega);intro e;have e':a.af ae≠b.af ae:=by simpa[BE.af]using e
   simp only[Sk.sub];split;rename_i hb;have:=byD h hb;exact fO h (by rw[Lf.eF,jn h,gg];omega);split;rename_i hb;have:=byD h hb;exact fO h (by rw[Lf.eF,jn h,gg];omega);exact oa h (by simpa[BE.af]using e)
 | not a ih=>
   intro s h;constructor;intro e;simp only[Sk.add];exact(ih h).2 (by simpa[BE.af]using e);intro e;simp only[Sk.sub];exact(ih h).1 (by simpa[BE.af]using e)
 | and a b fz fX=>
   intro s h;constructor;intro e;simp only[BE.af,ao]at e;simp only[Sk.add];exact(fX ((fz h).1 e.1)).1 e.2;intro e;simp only[Sk.sub];have e':=e;simp only[BE.af]at e;split;rename_i hp;rw[gE h hp,Bool.true_and]at e;exact(fX h).2 e;split;rename_i hp;rw[gE h hp,Bool.and_true]at e;exact(fz h).2 e;exact oa h (by simp only[BE.af,e,Bool.not_false])
 | or a b fz fX=>
   intro s h;constructor;intro e;simp only[Sk.add];have e':=e;simp only[BE.af]at e;split;rename_i hp;rw[oW h hp,Bool.false_or]at e;exact(fX h).1 e;split;rename_i hp;rw[oW h hp,Bool.or_false]at e;exact(fz h).1 e;exact oa h e';intro e;simp only[BE.af,vF]at e;simp only[Sk.sub];exact(fX ((fz h).2 e.1)).2 e.2
 | iff a b fz fX=>
   intro s h;constructor;intro e;simp only[Sk.add];have e':=e;simp only[BE.af,beq_iff_eq]at e;split;rename_i hp;exact(fX h).1 (by rw[<- e];exact gE h hp);split;rename_i hp;exact(fz h).1 (by rw[e];exact gE h hp);split;rename_i hp;exact(fX h).2 (by rw[<- e];exact oW h hp);split;rename_i hp;exact(fz h).2 (by rw[e];exact oW h hp);exact oa h e';intro e;simp only[Sk.sub];have e':=e;simp only[BE.af]at e;split;rename_i hp;have:=gE h hp;exact(fX h).2 (by rw[this]at e;revert e;cases b.af ae<;>simp);split;rename_i hp;have:=gE h hp;exact(fz h).2 (by rw[this]at e;revert e;cases a.af ae<;>simp);split;rename_i hp;have:=oW h hp;exact(fX h).1 (by rw[this]at e;revert e;cases b.af ae<;>simp);split;rename_i hp;have:=oW h hp;exact(fz h).1 (by rw[this]at e;revert e;cases a.af ae<;>simp);exact oa h (by simp only[BE.af,e,Bool.not_false])
 | sM a=>
   intro s h;constructor;intro e;simp only[Sk.add];exact oa h e;intro e;have e':a.af ae=0:=by simpa[BE.af]using e
   simp only[Sk.sub];have k1:(s.fA (s.uH a)).ok ae:=fO h (by rw[j7 h];omega);exact fO k1 (by rw[Lf.eF,j7 h,gg];omega)
theorem Bm(h:s.ok ae){p:BE}(e:p.af ae=true):(s.add p).ok ae:=(KC p h).1 e
theorem yz(h:s.ok ae){p:BE}(e:p.af ae=false):(s.sub p).ok ae:=(KC p h).2 e
theorem M0:∀ {l:List BE} {s:Sk},s.ok ae->(∀p∈l,p.af ae=true)->(s.tQ l).ok ae:=by
 intro l;induction l with
 |nil=>intro s h _;exact h
 | cons p l ih=>
   intro s h hl;have hp:=hl p (aZ ..);have hr:∀q∈l,q.af ae=true:=fun q hq=>hl q (bI _ hq);unfold Sk.tQ;split;cases ‹_=_›;rename_i heq;injection heq with h1 h2;subst h1;subst h2;refine ih ?_ hr;simp only[BE.af]at hp;split;rename_i hn;rw[oW h hn,Bool.false_or]at hp;exact Bm h hp;split;rename_i hn;rw[oW h hn,Bool.or_false]at hp;exact Bm h hp;exact h;rename_i heq;injection heq with h1 h2;subst h1;subst h2;refine ih ?_ hr;simp only[BE.af,nJ]at hp;split;rename_i hn;rw[gE h hn,Bool.true_and]at hp;exact yz h hp;split;rename_i hn;rw[gE h hn,Bool.and_true]at hp;exact yz h hp;exact h;rename_i heq;injection heq with h1 h2;subst h1;subst h2;refine ih ?_ hr;simp only[BE.af,beq_iff_eq]at hp;split;rename_i hn;exact Bm h (by rw[<- hp];exact gE h hn);split;rename_i hn;exact yz h (by rw[<- hp];exact oW h hn);split;rename_i hn;exact Bm h (by rw[hp];exact gE h hn);split;rename_i hn;exact yz h (by rw[hp];exact oW h hn);exact h;rename_i heq;injection heq with h1 h2;subst h1;subst h2;exact ih (yz h (by simpa[BE.af]using hp)) hr;rename_i heq;injection heq with h1 h2;subst h2;exact ih h hr
theorem PW:∀ {ls:List Lf} {s:Sk},s.ok ae->(∀l∈ls,0<=l.af ae)->(s.again ls).ok ae:=by
 intro ls;induction ls with
 |nil=>intro s h _;exact h
 |cons l ls ih=>intro s h hl;exact ih (uI h (hl l (aZ ..)) _) fun x hx=>hl x (bI _ hx)
theorem Vo(h:s.ok ae):s.tidy.ok ae:=⟨h.g,h.q,fun p hp=>h.f p (jB.mp hp).1⟩
theorem Bn(h:s.ok ae):s.close.ok ae:=by
 have h1:=M0 h h.f;exact Vo (PW h1 fun l hl=>h1.q l (List.mem_of_mem_take hl))
theorem uJ(h:s.ok ae){p:BE}(e:p.af ae=true):(s.ni p).ok ae:=by
 exact Bn (Bm h e)
theorem wj(h:s.ok ae){p:BE}(e:p.af ae=false):(s.n7 p).ok ae:=by
 exact Bn (yz h e)
theorem PX(h:s.ok ae)(e:s.PI d=true):False:=by
 simp only[Sk.PI,la]at e;obtain⟨f,hf,e⟩:=e;have h1:=tV h e;have h2:=h.q f hf;rw[Lf.eF,gg]at h1;omega
theorem I':∀(p:BE) {s:Sk},s.ok ae->s.pw d p=true->p.af ae=true:=by
 intro p;induction p with
 | and a b fz fX=>
   intro s h e;simp only[Sk.pw,ao]at e;simp[BE.af,fz h e.1,fX h e.2]
 | or a b fz fX=>
   intro s h e;simp only[Sk.pw,hZ]at e;rcases e with e|e;exact gE h e;cases ha:a.af ae with
   |true=>simp[BE.af,ha]
   |false=>simp[BE.af,fX (Bn (wj h ha)) e]
 | _=>
   intro s h e;simp only[Sk.pw,hZ]at e;rcases e with e|e;exact gE h e;exact(PX h e).elim
def gM(l:List BE×BE):Prop:=∀ae:aF,(∀p∈l.1,p.af ae=true)->l.2.af ae=true
theorem ZS(h:s.ok ae){fM:List (List BE×BE)}(hl:∀l∈fM,gM l){p:BE}(e:s.so fM p=true):p.af ae=true:=by
 simp only[Sk.so,hZ,la,ao,mE]at e;rcases e with(e|⟨l,hm,h1,h2⟩)|e;exact I' p h e;exact I' p (uJ h (hl l hm ae fun q hq=>gE h (h1 q hq))) h2;exact I' p h e
theorem mj:∀ {l:List BE} {s:Sk},s.ok ae->(∀p∈l,p.af ae=true)->(s.n8 l).ok ae:=by
 intro l;induction l with
 |nil=>intro s h _;exact h
 |cons p l ih=>intro s h hl;exact ih (uJ h (hl p (aZ ..))) fun q hq=>hl q (bI _ hq)
end
section
variable {s:Sk}{ae aq:aF}
variable{d:DV}{j k base:Nat}{e:IE}{cs:List (Int×Int)}{ds:List DV}{n:Nat}{α β:Type}
theorem Hc:jH base n k=true↔k<base\/base+n<=k:=by
 simp[jH,Nat.blt_eq,Nat.ble_eq]
theorem Lf.av{p:Nat->Bool}(h:∀k,p k=true->ae k=aq k){l:Lf}(e:l.all p=true):l.af ae=l.af aq:=by
 obtain⟨ts,n⟩:=l;simp only[Lf.all]at e;have:qp ae ts=qp aq ts:=by
   induction ts with
   |nil=>rfl
   | cons t ts ih=>
     obtain⟨c,t⟩:=t;simp only[List.all_cons,ao]at e;simp only[qp,ih e.2,IE.av h e.1]
 simp only[Lf.af,this]
theorem KD(h:s.ok ae){p:Nat->Bool}(he:∀k,p k=true->ae k=aq k):(s.fT p).ok aq:=by
 refine⟨fun x hx=>?_,fun l hl=>?_,fun q hq=>?_⟩;obtain⟨h1,h2⟩:=jB.1 hx;rw[<- he _ h2];exact h.g x h1;obtain⟨h1,h2⟩:=jB.1 hl;rw[<- Lf.av he h2];exact h.q l h1;obtain⟨h1,h2⟩:=jB.1 hq;rw[<- BE.av he h2];exact h.f q h1
theorem tX(hn:ds.length=n)(h:jH base n k=true):ae k=ae.au base ds k:=by
 rcases Hc.1 h with h|h;exact(aF.aT h).symm;exact(aF.iZ (by omega)).symm
theorem Fh(h:jH j 1 k=true):ae k=ae.set j d k:=by
 have:=Hc.1 h;simp only[aF.set];rw[if_neg (by omega)]
theorem nh.len:∀ {as:List A} {ds:List DV},nh as ds->as.length=ds.length:=by
 intro as;induction as with
 | nil=>intro ds h;cases ds with
   |nil=>rfl
   |cons d ds=>exact h.elim
 | cons a as ih=>intro ds h;cases ds with
   |nil=>exact h.elim
   |cons d ds=>simp[ih h.2]
theorem nh.at:∀ {as:List A} {ds:List DV} {i:Nat} {a:A},nh as ds->as[i]?=some a->∃d,ds[i]?=some d/\a.has d:=by
 intro as;induction as with
 |nil=>intro ds i a _ h;simp at h
 | cons x as ih=>
   intro ds i a h hi;cases ds with
   |nil=>exact h.elim
   | cons d ds=>
     cases i with
     |zero=>simp only[kK,ah]at hi;subst hi;exact⟨d,rfl,h.1⟩
     |succ i=>simp only[Am]at hi ⊢;exact ih h.2 hi
theorem Ja:∀ {as:List A} {base:Nat} {p:Nat×A},p∈oU base as->∃i,p.1=base+i/\as[i]?=some p.2:=by
 intro as;induction as with
 |nil=>intro base p h;simp[oU]at h
 | cons a as ih=>
   intro base p h;rcases bC.1 h with rfl|h;exact⟨0,rfl,rfl⟩;obtain⟨i,h1,h2⟩:=ih h;exact⟨i+1,by omega,by simpa using h2⟩
theorem ml{as:List A}(h:nh as ds):∀p∈oU base as,p.2.has (ae.au base ds p.1):=by
 intro p hp;obtain⟨i,h1,h2⟩:=Ja hp;obtain⟨d,h3,h4⟩:=h.at h2;rw[h1,aF.eL h3];exact h4
theorem Bo:∀ {cs ds:List (Int×Int)} {j:Nat} {r:List Int},cR cs j r->cR (iJ cs ds) j r:=by
 intro cs;induction cs with
 |nil=>intro ds j r h;simp[iJ,cR]
 | cons c cs ih=>
   intro ds j r h;cases ds with
   |nil=>simp[iJ,cR]
   | cons d ds=>
     have:=h.1;refine⟨?_,ih h.2⟩;show min c.1 d.1<=_/\_<=max c.2 d.2;omega
theorem Bp:∀ {cs ds:List (Int×Int)} {j:Nat} {r:List Int},cR ds j r->cR (iJ cs ds) j r:=by
 intro cs;induction cs with
 |nil=>intro ds j r h;simp[iJ,cR]
 | cons c cs ih=>
   intro ds j r h;cases ds with
   |nil=>simp[iJ,cR]
   | cons d ds=>
     have:=h.1;refine⟨?_,ih h.2⟩;show min c.1 d.1<=_/\_<=max c.2 d.2;omega
theorem Hd:∀ {rs:List Rg} {xs:List Int} {j:Nat} {row:List Int},(∀i r,rs[i]?=some r->In r (row.getD (j+i) 0))->cR (Fa rs) j row:=by
 intro rs;induction rs with
 |nil=>intro xs j row h;simp[Fa,cR]
 | cons r rs ih=>
   intro xs j row h;unfold Fa;split;rename_i x y r' e;injection e with e1 e2;subst e1;subst e2;have:=h 0 _ rfl;refine⟨rh.1 this,ih (xs:=[]) fun i r hi=>?_⟩;have:=h (i+1) r (by simpa using hi);rwa[show j+(i+1)=j+1+i by omega]at this;simp[cR]
theorem Bq(h:s.ok ae)(x:Sum IE BE):In (s.zt x) (cg ae x):=by
 cases x with
 |inl e=>exact xo h e
 |inr b=>simp only[Sk.zt,cg];split<;>exact rh.2 (by omega)
theorem yA(h:s.ok ae)(xs:List (Sum IE BE)):cR (Fa (xs.map s.zt)) 0 (xs.map (cg ae)):=by
 refine Hd (xs:=[]) fun i r hi=>?_;simp only[iS,bN]at hi;obtain⟨x,hx,rfl⟩:=hi;rw[fR,cm,iS,hx];exact Bq h x
theorem Dy:∀ {cs:List (List (Int×Int))} {c:List (Int×Int)} {r:List Int},c∈cs->cR c 0 r->cR (Ku cs) 0 r:=by
 intro cs;induction cs with
 |nil=>intro c r h;cases h
 | cons d cs ih=>
   intro c r hm h;cases cs with
   | nil => rcases bC.1 hm with rfl|hm
            exact h;cases hm
   | cons e cs=>
     rcases bC.1 hm with rfl|hm;exact Bo h;exact Bp (ih hm h)
theorem ZT(h:s.ok ae)(d:DE):(s.de d).has (d.af ae):=by
 cases d with
 | i e=>
   simp only[Sk.de,DE.af];have:=xo h e;split;rename_i x y he;rw[he]at this;exact rh.1 this;trivial
 |b e=>trivial
 | l k=>
   simp only[Sk.de,DE.af];split;rename_i a b c e;obtain⟨xs,hx,h1⟩:=tU (h.find e);rw[hx];exact h1;exact⟨by omega,fun _ e=>(by cases e),fun _ _=>trivial⟩
 |nil=>exact⟨by simp,fun y e=>(by cases e;simp),fun r hr=>(by cases hr)⟩
 | rows es=>
   refine⟨by simp,fun y e=>(by cases e;simp),fun r hr=>?_⟩;obtain⟨e,he,rfl⟩:=jz.1 hr;refine Dy (jz.2 ⟨e,he,rfl⟩) (Hd (xs:=[]) fun i r hi=>?_);cases i with
   |zero=>simp only[kK,ah]at hi;subst hi;exact xo h e
   |succ i=>simp at hi
 | vP xs=>
   refine⟨by simp,fun y e=>(by cases e;simp),fun r hr=>?_⟩;rcases iE.1 hr with rfl;exact yA h xs
theorem He{d:DE}{n:IE}(h:d.PH=some n):∃xs,d.af ae = .l xs/\n.af ae=(xs.length:Int):=by
 cases d<;>simp[DE.PH]at h<;>subst h;exact⟨_,rfl,rfl⟩;exact⟨_,rfl,rfl⟩;exact⟨_,rfl,by simp[IE.af]⟩;exact⟨_,rfl,by simp[IE.af]⟩
theorem Jb:∀ {cs ds:List (Int×Int)} {j:Nat} {r:List Int},Bi cs ds=true->cR cs j r->cR ds j r:=by
 intro cs;induction cs with
 | nil=>intro ds j r h _;cases ds with
   |nil=>trivial
   |cons d ds=>simp[Bi]at h
 | cons c cs ih=>
   intro ds j r h hr;cases ds with
   |nil=>trivial
   | cons d ds=>
     simp only[Bi,ao,aO]at h;have:=hr.1;exact⟨by omega,ih h.2.2 hr.2⟩
theorem Br(h:s.ok ae){d:DE}{a:A}(e:s.fits d a=true):a.has (d.af ae):=by
 cases a with
 |t=>cases d<;>trivial
 | i lo hi=>
   cases d with
   | i x=>
     simp only[Sk.fits,ao]at e;exact⟨jY (gE h e.1),jY (gE h e.2)⟩
   |_=>simp[Sk.fits]at e
 | b=>cases d with
   |b x=>trivial
   |_=>simp[Sk.fits]at e
 | l n0 n1 cs=>
   simp only[Sk.fits]at e;split at e;rename_i n a b c hn hd;obtain⟨xs,hx,hl⟩:=He (ae:=ae) hn;have hde:=ZT h d;rw[hd,hx]at hde;obtain⟨g1,g2,g3⟩:=hde;simp only[ao,hZ,aO]at e;rw[hx];refine⟨?_,fun y hy=>?_,fun r hr=>?_⟩;rcases e.1.1 with e|e;omega;have:n0<=n.af ae:=jY (gE h e);omega;have:=e.1.2;subst hy;have:n.af ae<=y:=jY (gE h this);omega;rcases e.2 with e|e;exact Jb e (g3 r hr);cases b with
   |none=>cases e
   | some z=>
     have:=g2 z rfl;have e:=jY e;have:xs.length=0:=by omega
     rw[List.length_eq_zero_iff]at this;subst this;cases hr
   cases e
theorem pO{r:List Int}{x:Int}(k:Nat):(mW r j x).getD k 0=if k=j then x else r.getD k 0:=by
 unfold mW;split;rename_i h;simp only[cm,List.getElem?_set];split;rename_i e;subst e;simp[h];rename_i e;rw[if_neg (fun e'=>e e'.symm)];rename_i h;simp only[cm];by_cases h1:k<r.length;rw[p9 h1,if_neg (by omega)];rw[qv (by omega)];rw[uU (l:=r) (by omega)];by_cases h2:k=j;rw[if_pos h2,qv (by simp;omega)];simp only[List.length_replicate];rw[show k-r.length-(j-r.length)=0 by omega];rfl;rw[if_neg h2];by_cases h3:k<j;rw[p9 (by simp;omega),Gj,if_pos (by omega)];rfl;rw[uU (by simp;omega)]
theorem Hf:∀ {cs:List (Int×Int)} {j m:Nat} {x:Rg} {r r':List Int},cR cs m r->In x (r'.getD (m+j) 0)->(∀k,k≠m+j->r'.getD k 0=r.getD k 0)->cR (Fb cs j x) m r':=by
 intro cs;induction cs with
 |nil=>intro j m x r r' _ _ _;cases j<;>simp[Fb,cR]
 | cons c cs ih=>
   intro j m x r r' h hx hr;cases j with
   | zero=>
     simp only[Fb];split;rename_i a b;obtain⟨g1,g2⟩:=rh.1 hx;rw[iy]at g1 g2;refine⟨⟨by show min c.1 a<=_;omega,by show _<=max c.2 b;omega⟩,?_⟩;have:∀ {cs:List (Int×Int)} {n:Nat},m<n->cR cs n r->cR cs n r':=by
       intro cs;induction cs with
       |nil=>intro n _ _;trivial
       | cons d ds ihd=>
         intro n hn h;refine⟨?_,ihd (by omega) h.2⟩;rw[hr n (by omega)];exact h.1
     exact this (by omega) h.2;trivial
   | succ j=>
     refine⟨?_,ih h.2 ?_ fun k hk=>hr k (by omega)⟩;rw[hr m (by omega)];exact h.1;rwa[show m+1+j=m+(j+1)by omega]
theorem M1:∀ {xs:List Rg} {vs:List Int} {cs:List (Int×Int)} {j:Nat} {r:List Int},cR cs 0 r->(xs.length=vs.length/\∀(i:Nat) (x:Rg) (v:Int),xs[i]?=some x->vs[i]?=some v->In x v)->cR (G9 cs j xs) 0 (j4 r j vs):=by
 intro xs;induction xs with
 | nil=>intro vs cs j r h hx;cases vs with
   |nil=>exact h
   |cons v vs=>simp at hx
 | cons x xs ih=>
   intro vs cs j r h hx;cases vs with
   |nil=>simp at hx
   | cons v vs=>
     simp only[G9,j4];refine ih (Hf h ?_ fun k hk=>?_) ⟨by simpa using hx.1,fun i x v h1 h2=>hx.2 (i+1) x v (by simpa using h1) (by simpa using h2)⟩;rw[pO,if_pos (by omega)];exact hx.2 0 x v rfl rfl;rw[pO,if_neg (by omega)]
theorem wm{xs:List (List Int)}{ds:List (Int×Int)}{i:Nat}{f:List Int->List Int}(h:∀r∈xs,cR cs 0 r)(hw:∀r,cR cs 0 r->cR ds 0 r)(hf:∀r∈xs,cR ds 0 (f r)):∀r∈xs.modify i f,cR ds 0 r:=by
 intro r hr;obtain⟨n,hn,rfl⟩:=List.getElem_of_mem hr;rw[List.getElem_modify];rw[List.length_modify]at hn;split;exact hf _ (List.getElem_mem hn);exact hw _ (h _ (List.getElem_mem hn))
theorem gV(h:s.ok ae)(k:Nat):(s.jP k).1<=((ae k).list.length:Int)/\(∀y,(s.jP k).2.1=some y->((ae k).list.length:Int)<=y)/\∀r∈(ae k).list,cR (s.jP k).2.2 0 r:=by
 unfold Sk.jP;split;rename_i a b c e;obtain⟨xs,hx,h1⟩:=tU (h.find e);rw[hx];exact h1;exact⟨by simp,fun _ e=>(by cases e),fun _ _=>trivial⟩
theorem Dz{m:Nat}{x:Rg}{r:List Int}(h:cR cs m r):cR (Fb cs j x) m r:=by
 induction cs generalizing j m with
 |nil=>cases j<;>simp[Fb,cR]
 | cons c cs ih=>
   cases j with
   | zero=>
     simp only[Fb];split;rename_i a b;have:=h.1;exact⟨⟨by show min c.1 a<=_;omega,by show _<=max c.2 b;omega⟩,h.2⟩;trivial
   |succ j=>exact⟨h.1,ih h.2⟩
theorem Jc:∀ {xs:List Rg} {cs:List (Int×Int)} {j:Nat} {r:List Int},cR cs 0 r->cR (G9 cs j xs) 0 r:=by
 intro xs;induction xs with
 |nil=>intro cs j r h;exact h
 |cons x xs ih=>intro cs j r h;exact ih (Dz h)
theorem rY{x:Int×Option Int×List (Int×Int)}{n:List (List Int)}(e:yw x=true)(h:∀y,x.2.1=some y->(n.length:Int)<=y):n=[]:=by
 unfold yw at e;split at e;rename_i y hy;have:=h y hy;simp only[aO]at e;exact List.length_eq_zero_iff.1 (by omega);cases e
theorem PY:∀ {aU:List NK} {hs rest:List Int} {j:Nat},(qj aU hs rest j).length<=(hs.getD j 0).toNat:=by
 intro aU;induction aU with
 |nil=>intro hs rest j;simp[qj]
 | cons k aU ih=>
   intro hs rest j;cases k with
   | c x=>
     cases j with
     |zero=>simp[qj]
     | succ j=>
       have:=ih (hs:=hs.tail) (rest:=rest) (j:=j);simp only[qj];cases hs with
       |nil=>simpa using this
       |cons h hs=>simpa using this
   | s e x=>
     cases j with
     | zero=>
       simp only[qj];cases hs with
       |nil=>simp
       |cons h hs=>simp;omega
     | succ j=>
       have:=ih (hs:=hs.tail) (rest:=rest.drop (hs.headD 0).toNat) (j:=j);simp only[qj];cases hs with
       |nil=>simpa using this
       |cons h hs=>simpa using this
theorem Jd{aU:List NK}{r:List Int}:(eU aU r j).length<=(r.getD j 0).toNat:=by
 unfold eU;refine lN PY ?_;simp only[cm,Ay];split;exact ga _;simp
theorem Vp(h:s.ok ae){id:Nat}{op:ew}(ho:op.all (jH id 1)=true):(s.OG id op).1.has (.l (op.af ae))/\∀p∈(s.OG id op).2,p.af (ae.set id (.l (op.af ae)))=true:=by
 have l7:∀k,jH id 1 k=true->ae.set id (.l (op.af ae)) k=ae k:=fun k hk=>(Fh hk).symm;have hi:(ae.set id (.l (op.af ae)) id) = .l (op.af ae):=by simp[aF.set]
 have key:∀ {n:IE} {m:Int},((op.af ae).length:Int)=m->n.af (ae.set id (.l (op.af ae)))=m->∀p∈[BE.eq (.len id) n],p.af (ae.set id (.l (op.af ae)))=true:=by
   intro n m h1 h2 p hp;rcases iE.1 hp with rfl;simp only[BE.af,IE.af,hi,DV.list,aO];omega
 have hlen:∀k,jH id 1 k=true->IE.af (ae.set id (.l (op.af ae))) (.len k)=((ae k).list.length:Int):=fun k hk=>by simp only[IE.af,l7 k hk]
 have ien:∀ {e:IE},e.all (jH id 1)=true->e.af (ae.set id (.l (op.af ae)))=e.af ae:=fun {e} he=>IE.av (fun k hk=>l7 k hk) he;cases op with
 | lit rows=>
   refine⟨⟨by simp[ew.af],fun y e=>(by cases e;simp[ew.af]),fun r hr=>?_⟩,fun p hp=>?_⟩;obtain⟨x,hx,rfl⟩:=jz.1 hr;exact Dy (jz.2 ⟨x,hx,rfl⟩) (yA h x);simp only[Sk.OG]at hp;split at hp;rename_i r rs;split at hp;simp only[ew.all,List.all_cons,ao]at ho;have hc:∀(l:List (Sum IE BE)) (j:Nat),l.all (nP (jH id 1))=true->(∀i,(r.map (cg ae)).getD (j+i) 0=(l.map (cg ae)).getD i 0)->∀p∈yx id l j,p.af (ae.set id (.l (ew.af ae (.lit (r::rs)))))=true:=by
     intro l;induction l with
     |nil=>intro j _ _ p hp;cases hp
     | cons x l ih=>
       intro j ha hg p hp;simp only[List.all_cons,ao]at ha;have Xv:=ih (j+1) ha.2 fun i=>by
         have:=hg (i+1);rw[show j+1+i=j+(i+1)by omega,this];simp
       cases x with
       |inr b=>exact Xv p (by simpa[yx]using hp)
       | inl e=>
         simp only[yx,bC]at hp;rcases hp with rfl|hp;have h0:=hg 0;simp only[iy,kQ,List.getD_cons_zero,cg]at h0;refine ja ?_;have e1:IE.af (ae.set id (.l (ew.af ae (.lit (r::rs))))) e=e.af ae:=ien ha.1;rw[e1,<- h0];show cellAt ((ae.set id (.l (ew.af ae (.lit (r::rs))))) id).list 0 j=_;rw[hi];rfl;exact Xv p hp
   exact hc r 0 ho.1 (fun i=>by rw[fR]) p hp;cases hp;cases hp
 | app a b=>
   simp only[ew.all,ao]at ho;obtain⟨a1,a2,a3⟩:=gV h a;obtain⟨b1,b2,b3⟩:=gV h b;refine⟨⟨by simp only[ew.af,fE];omega,fun y e=>?_,fun r hr=>?_⟩,?_⟩;obtain⟨u,v,hu,hv,rfl⟩:=lB e;have:=a2 u hu;have:=b2 v hv
   simp only[ew.af,fE];show _<=u+v;omega;rcases jS.1 hr with hr|hr;split;rename_i he;rw[rY he a2]at hr;cases hr;split;exact a3 r hr;exact Bo (a3 r hr);split;exact b3 r hr;split;rename_i he;rw[rY he b2]at hr;cases hr;exact Bp (b3 r hr);intro p hp;rcases bC.1 hp with rfl|hp;refine key (m:=((ae a).list.length:Int)+((ae b).list.length:Int)) (by simp[ew.af]) ?_ _ (iE.2 rfl);have e1:=hlen a ho.1;have e2:=hlen b ho.2;simp only[IE.af]at e1 e2 ⊢;rw[e1,e2];split at hp;rename_i hc;obtain⟨j,_,rfl⟩:=jz.1 hp;refine ja ?_;show cellAt ((ae.set id (.l (ew.af ae (.app a b)))) id).list 0 j=cellAt ((ae.set id (.l (ew.af ae (.app a b)))) a).list 0 j;rw[hi,l7 a ho.1];show cellAt ((ae a).list++(ae b).list) 0 j=_;unfold cellAt;have hl:0<(ae a).list.length:=by omega
   have e3:((ae a).list++(ae b).list).getD (0:Int).toNat []=(ae a).list.getD (0:Int).toNat []:=by
     rw[cm,cm,p9 (by simpa using hl)]
   rw[e3];cases hp
 | set a i j x=>
   simp only[ew.all,ao]at ho;obtain⟨a1,a2,a3⟩:=gV h a;have hl:(ew.af ae (.set a i j x)).length=(ae a).list.length:=by simp[ew.af,setAt]
   refine⟨⟨by rw[hl];exact a1,fun y e=>(by rw[hl];exact a2 y e),?_⟩,key (m:=((ae a).list.length:Int)) (by rw[hl]) (hlen a ho.1)⟩;refine wm a3 (fun r hr=>Dz hr) fun r hr=>Hf (a3 r hr) ?_ fun k hk=>?_;rw[pO,if_pos (by omega)];exact Bq h x;rw[pO,if_neg (by omega)]
 | zK a i xs=>
   simp only[ew.all,ao]at ho;obtain⟨a1,a2,a3⟩:=gV h a;have hl:(ew.af ae (.zK a i xs)).length=(ae a).list.length:=by simp[ew.af]
   refine⟨⟨by rw[hl];exact a1,fun y e=>(by rw[hl];exact a2 y e),?_⟩,key (m:=((ae a).list.length:Int)) (by rw[hl]) (hlen a ho.1)⟩;exact wm a3 (fun r hr=>Bo hr) fun r hr=>Bp (yA h xs)
 | Em a i j xs=>
   simp only[ew.all,ao]at ho;obtain⟨a1,a2,a3⟩:=gV h a;have hl:(ew.af ae (.Em a i j xs)).length=(ae a).list.length:=by simp[ew.af]
   refine⟨⟨by rw[hl];exact a1,fun y e=>(by rw[hl];exact a2 y e),?_⟩,key (m:=((ae a).list.length:Int)) (by rw[hl]) (hlen a ho.1)⟩;refine wm a3 (fun r hr=>Jc hr) fun r hr=>M1 (a3 r hr) ⟨by simp,fun k x v h1 h2=>?_⟩;simp only[iS,bN]at h1 h2;obtain⟨u,hu,rfl⟩:=h1;obtain⟨v,hv,rfl⟩:=h2;rw[hu]at hv;cases hv;exact Bq h u
 | take a n=>
   simp only[ew.all,ao]at ho;obtain⟨a1,a2,a3⟩:=gV h a;have hn:=Ff (xo h n) (show In (some 0,some 0) 0 from rh.2 (by omega));have hl:((ew.af ae (.take a n)).length:Int)=min ((ae a).list.length:Int) (max (n.af ae) 0):=by simp only[ew.af,uV];omega
   refine⟨⟨Int.natCast_nonneg _,fun y e=>?_,fun r hr=>a3 r (List.mem_of_mem_take hr)⟩,?_⟩;rw[hl];exact(Ky (a:=(none,(s.jP a).2.1)) ⟨fun _ e=>(by cases e),a2⟩ hn).2 y e;simp only[Sk.OG];split;rename_i hc;simp only[ao]at hc;have h1:n.af ae<=((ae a).list.length:Int):=jY (gE h hc.1);have h2:0<=n.af ae:=jY (gE h hc.2);exact key (m:=n.af ae) (by rw[hl];omega) (ien ho.2);intro p hp;cases hp
 | rep n row=>
   simp only[ew.all]at ho;have hn:=Ff (xo h n) (show In (some 0,some 0) 0 from rh.2 (by omega));have hl:((ew.af ae (.rep n row)).length:Int)=max (n.af ae) 0:=by simp only[ew.af,List.length_replicate];omega
   refine⟨⟨Int.natCast_nonneg _,fun y e=>(by rw[hl];exact hn.2 y e),fun r hr=>?_⟩,?_⟩;have:=List.eq_of_mem_replicate hr;subst this;have gen:∀ {l:List Int} {m:Nat},(∀i,r.getD (m+i) 0=l.getD i 0)->cR (l.map fun x=>(x,x)) m r:=by
     intro l;induction l with
     |nil=>intro m _;trivial
     | cons x l ih=>
       intro m hm;refine⟨?_,ih fun i=>?_⟩;have:=hm 0;simp only[iy]at this;rw[this];simp;have:=hm (i+1);rw[show m+1+i=m+(i+1)by omega,this];simp
   exact gen fun i=>by rw[fR]
   simp only[Sk.OG];split;rename_i hc;have h1:0<=n.af ae:=jY (gE h hc);exact key (m:=n.af ae) (by rw[hl];omega) (ien ho);intro p hp;cases hp
 | cp a=>
   simp only[ew.all]at ho;obtain⟨a1,a2,a3⟩:=gV h a;exact⟨⟨a1,a2,a3⟩,key (m:=((ae a).list.length:Int)) rfl (hlen a ho)⟩
 | sub a i aU j=>
   refine⟨⟨by omega,fun y e=>?_,fun _ _=>trivial⟩,fun p hp=>(by cases hp)⟩;obtain⟨a1,a2,a3⟩:=gV h a;split at e;rename_i c hc;cases e;have:=(KA (i:=i.af ae) a3 (show(s.jP a).2.2[j]?=some (c.1,c.2)from hc)).2.2;have hl:=Jd (aU:=aU) (r:=(ae a).list.getD (i.af ae).toNat []) (j:=j);simp only[ew.af,qd];unfold cellAt at this;omega;cases e
 | UR a b=>
   simp only[ew.all,ao]at ho;obtain⟨a1,a2,a3⟩:=gV h a;obtain⟨b1,b2,b3⟩:=gV h b;have hl:(ew.af ae (.UR a b)).length=(ae a).list.length:=by simp only[ew.af,fE,uV,List.length_drop];omega
   refine⟨⟨by rw[hl];exact a1,fun y e=>(by rw[hl];exact a2 y e),fun r hr=>?_⟩,key (m:=((ae a).list.length:Int)) (by rw[hl]) (hlen a ho.1)⟩;rcases jS.1 hr with hr|hr;have dj:=List.mem_of_mem_take hr;split;exact b3 r dj;split;rename_i he;rw[rY he b2]at dj;cases dj;exact Bp (b3 r dj);have dj:=List.mem_of_mem_drop hr;split;rename_i he;rw[rY he a2]at dj;cases dj;split;exact a3 r dj;exact Bo (a3 r dj)
 |Eu rows=>exact⟨⟨by simp[ew.af],fun y e=>(by cases e;simp[ew.af]),fun _ _=>trivial⟩,fun p hp=>(by cases hp)⟩
def Sb.is(ae:aF):Sb->DV->Prop
 |.nm k,d=>ae k=d
 |.de x,d=>x.af ae=d
 |.no,_=>True
variable {σ:Nat->Sb}{gD:aF}
theorem oc{γ:Type}{f:α->β->γ}{a:Option α}{b:Option β}{z:γ}(h:p2 f a b=some z):∃x y,a=some x/\b=some y/\z=f x y:=by
 cases a<;>cases b<;>simp_all[p2]
theorem xp{f:α->β}{a:Option α}{z:β}(h:p1 f a=some z):∃x,a=some x/\z=f x:=by
 cases a<;>simp_all[p1]
theorem ac6{b:Sb}(h:b.is ae d)(he:b.int=some e):e.af ae=d.int:=by
 cases b with
 |nm k=>simp only[Sb.int,ah]at he;subst he;simp only[IE.af];rw[show ae k=d from h]
 | de x=>
   cases x<;>simp[Sb.int,DE.asI]at he;subst he;rw[<- (show _=d from h)];rfl
 |no=>simp[Sb.int]at he
theorem ZU{b:Sb}{e:BE}(h:b.is ae d)(he:b.bool=some e):e.af ae=d.bool:=by
 cases b with
 |nm k=>simp only[Sb.bool,ah]at he;subst he;simp only[BE.af];rw[show ae k=d from h]
 | de x=>
   cases x<;>simp[Sb.bool,DE.asB]at he;subst he;rw[<- (show _=d from h)];rfl
 |no=>simp[Sb.bool]at he
theorem ac7{b:Sb}(h:b.is ae d)(he:b.len=some e):e.af ae=(d.list.length:Int):=by
 cases b with
 |nm k=>simp only[Sb.len,ah]at he;subst he;simp only[IE.af];rw[show ae k=d from h]
 | de x=>
   obtain⟨xs,h1,h2⟩:=He (ae:=ae) (show x.PH=some e from he);rw[h2,<- (show _=d from h),h1];rfl
 |no=>simp[Sb.len]at he
theorem ZV{b:Sb}(h:b.is ae d)(he:b.list=some k):(ae k).list=d.list:=by
 cases b with
 |nm j=>simp only[Sb.list,ah]at he;subst he;rw[show ae j=d from h]
 | de x=>
   cases x<;>simp[Sb.list,DE.asL]at he;subst he;rw[<- (show _=d from h)];rfl
 |no=>simp[Sb.list]at he
theorem ZW{b:Sb}{m:Option Int}{i:IE}(h:b.is ae d)(hm:i.isC=m)(he:b.cell m j=some e)(hi:i.af gD=i.af gD):e.af ae=cellAt d.list (i.af gD) j:=by
 unfold Sb.cell at he;split at he;cases he;rw[<- (show _=d from h)];simp[DE.af,DV.list,cellAt,IE.af];rename_i es m;split at he;rename_i h0;rw[Fg hm,<- (show _=d from h)];have e2:(es.map fun e=>[e.af ae]).getD m.toNat []=[e.af ae]:=by
   rw[cm,iS,he];rfl
 show _=((es.map fun e=>[e.af ae]).getD m.toNat []).getD 0 0;rw[e2];rfl;cases he;rename_i xs;rw[Fg hm,<- (show _=d from h)];split at he;rename_i e' hx;cases he;simp only[DE.af,DV.list,cellAt];show _=(List.map (cg ae) xs).getD j 0;rw[cm,iS,hx];rfl;cases he;cases he
theorem Hg(h:∀k,(σ k).is ae (gD k)):∀ {e e':IE},e.put σ=some e'->e'.af ae=e.af gD:=by
 intro e;induction e with
 |v k=>intro e' he;exact ac6 (h k) he
 |c n=>intro e' he;cases he;rfl
 |ediv a n ih=>intro e' he;obtain⟨x,hx,rfl⟩:=xp he;simp only[IE.af,ih hx]
 |emod a n ih=>intro e' he;obtain⟨x,hx,rfl⟩:=xp he;simp only[IE.af,ih hx]
 |wrap k a ih=>intro e' he;obtain⟨x,hx,rfl⟩:=xp he;simp only[IE.af,ih hx]
 |len k=>intro e' he;exact ac7 (h k) he
 | get k i j ih=>
   intro e' he;simp only[IE.put]at he;split at he;rename_i x hx;cases he;exact ZW (h k) rfl hx rfl;obtain⟨x,y,hx,hy,rfl⟩:=oc he;simp only[IE.af,ih hy,ZV (h k) hx]
 | ju i n a b ihi fz fX=>
   intro e' he;obtain⟨x,y,hx,hy,rfl⟩:=oc he;obtain⟨u,v,hu,hv,rfl⟩:=oc hy;simp only[IE.af,ihi hx,fz hu,fX hv]
 |bits o k a b fz fX=>intro e' he;obtain⟨x,y,hx,hy,rfl⟩:=oc he;simp only[IE.af,fz hx,fX hy]
 |_ a b fz fX=>intro e' he;obtain⟨x,y,hx,hy,rfl⟩:=oc he;simp only[IE.af,fz hx,fX hy]
theorem ac8(h:∀k,(σ k).is ae (gD k)):∀ {e e':BE},e.put σ=some e'->e'.af ae=e.af gD:=by
 intro e;induction e with
 |v k=>intro e' he;exact ZU (h k) he
 |c n=>intro e' he;cases he;rfl
 |not a ih=>intro e' he;obtain⟨x,hx,rfl⟩:=xp he;simp only[BE.af,ih hx]
 |sM a=>intro e' he;obtain⟨x,hx,rfl⟩:=xp he;simp only[BE.af,Hg h hx]
 |lt a b=>intro e' he;obtain⟨x,y,hx,hy,rfl⟩:=oc he;simp only[BE.af,Hg h hx,Hg h hy]
 |le a b=>intro e' he;obtain⟨x,y,hx,hy,rfl⟩:=oc he;simp only[BE.af,Hg h hx,Hg h hy]
 |eq a b=>intro e' he;obtain⟨x,y,hx,hy,rfl⟩:=oc he;simp only[BE.af,Hg h hx,Hg h hy]
 |_ a b fz fX=>intro e' he;obtain⟨x,y,hx,hy,rfl⟩:=oc he;simp only[BE.af,fz hx,fX hy]
theorem rZ(e:IE):(∀k∈e.names,ae k=aq k)->e.af ae=e.af aq:=by
 induction e with
 |v k=>intro h;simp only[IE.af,h k (by simp[IE.names])]
 |c n=>intro _;rfl
 |len k=>intro h;simp only[IE.af,h k (by simp[IE.names])]
 |get k i j ih=>intro h;simp only[IE.names,bC,forall_eq_or_imp]at h;simp only[IE.af,h.1,ih h.2]
 |ju i n a b uS uT YP=>intro h;simp only[IE.names,jS]at h;simp only[IE.af,uS fun k hk=>h k (.inl (.inl hk)),uT fun k hk=>h k (.inl (.inr hk)),YP fun k hk=>h k (.inr hk)]
 |ediv a n ih=>intro h;simp only[IE.af,ih h]
 |emod a n ih=>intro h;simp only[IE.af,ih h]
 |wrap k a ih=>intro h;simp only[IE.af,ih h]
 |bits o k a b uS uT=>intro h;simp only[IE.names,jS]at h;simp only[IE.af,uS fun k hk=>h k (.inl hk),uT fun k hk=>h k (.inr hk)]
 |_ a b uS uT=>intro h;simp only[IE.names,jS]at h;simp only[IE.af,uS fun k hk=>h k (.inl hk),uT fun k hk=>h k (.inr hk)]
theorem ZX(e:BE):(∀k∈e.names,ae k=aq k)->e.af ae=e.af aq:=by
 induction e with
 |v k=>intro h;simp only[BE.af,h k (by simp[BE.names])]
 |c n=>intro _;rfl
 |not a ih=>intro h;simp only[BE.af,ih h]
 |sM a=>intro h;simp only[BE.af,rZ a h]
 |lt a b=>intro h;simp only[BE.names,jS]at h;simp only[BE.af,rZ a fun k hk=>h k (.inl hk),rZ b fun k hk=>h k (.inr hk)]
 |le a b=>intro h;simp only[BE.names,jS]at h;simp only[BE.af,rZ a fun k hk=>h k (.inl hk),rZ b fun k hk=>h k (.inr hk)]
 |eq a b=>intro h;simp only[BE.names,jS]at h;simp only[BE.af,rZ a fun k hk=>h k (.inl hk),rZ b fun k hk=>h k (.inr hk)]
 |_ a b uS uT=>intro h;simp only[BE.names,jS]at h;simp only[BE.af,uS fun k hk=>h k (.inl hk),uT fun k hk=>h k (.inr hk)]
end
section
variable {s:Sk}{ae:aF}
variable{ds:List DV}{base:Nat}{d:DV}{k:Nat}{fM:List (List BE×BE)}{aq:aF}{n:Nat}{pr:List Nat}{rs:List DV}{bM:List DE}{c:A}{out:Cn}
def Cn.il(c:Cn)(ds:List DV):Prop:=nh c.args ds/\∀p∈c.pre,p.af (a8.au 0 ds)=true
def gD(ds rs:List DV):aF:=(a8.au 0 ds).au R0 rs
def Cn.iK(c:Cn)(ds rs:List DV):Prop:=nh c.res rs/\∀p∈c.post,p.af (gD ds rs)=true
theorem append_nil{α:Type}{a b:List α}(h:a++b=[]):a=[]/\b=[]:=by
 cases a<;>simp_all
theorem od(h:s.ok ae)(hl:∀l∈fM,gM l){p:BE}(e:s.ask fM p=[]):p.af ae=true:=by
 unfold Sk.ask at e;split at e;rename_i hs;exact ZS h hl hs;cases e
theorem PZ(h:s.ok ae)(hl:∀l∈fM,gM l){d:DE}{a:A}(e:s.I8 fM d a=[]):a.has (d.af ae):=by
 cases a with
 | i lo hi=>
   cases d with
   | i x=>
     simp only[Sk.I8]at e;obtain⟨e1,e2⟩:=append_nil e;exact⟨jY (od h hl e1),jY (od h hl e2)⟩
   |_=>simp[Sk.I8]at e
 | b => simp only[Sk.I8]at e;split at e
        rename_i hf;exact Br h hf;cases e
 | t => simp only[Sk.I8]at e;split at e
        rename_i hf;exact Br h hf;cases e
 | l x y z => simp only[Sk.I8]at e;split at e
              rename_i hf;exact Br h hf;cases e
theorem uK(h:s.ok ae)(hl:∀l∈fM,gM l):∀ {ds:List DE} {as:List A},s.tR fM ds as=[]->nh as (ds.map (DE.af ae)):=by
 intro ds;induction ds with
 | nil=>intro as e;cases as with
   |nil=>trivial
   |cons a as=>simp[Sk.tR]at e
 | cons d ds ih=>
   intro as e;cases as with
   |nil=>simp[Sk.tR]at e
   | cons a as=>
     simp only[Sk.tR]at e;obtain⟨e1,e2⟩:=append_nil e;exact⟨PZ h hl e1,ih e2⟩
theorem xq(h:s.ok ae)(hl:∀l∈fM,gM l){σ:Nat->Sb}{e2:aF}(mo:∀k,(σ k).is ae (e2 k)){ps:List BE}(e:s.asks fM σ ps=[]):∀p∈ps,p.af e2=true:=by
 intro p hp;unfold Sk.asks at e;rw[List.flatMap_eq_nil_iff]at e;have:=e p hp;split at this;rename_i p' xK;rw[<- ac8 mo xK];exact od h hl this;cases this
theorem Vq{a:A}(h:a.has d):(a.Bh c).has d:=by
 cases a with
 | i x y=>cases c with
   |i z w=>obtain⟨n,rfl,g1,g2⟩:=Kz h;exact⟨by omega,by omega⟩
   |_=>cases d<;>trivial
 | b=>cases c with
   |b=>exact h
   |_=>cases d<;>trivial
 |t=>cases c<;>cases d<;>trivial
 | l x y u=>cases c with
   | l z w v=>
     obtain⟨xs,rfl,g1,g2,g3⟩:=tU h;refine⟨by omega,fun t e=>?_,fun r hr=>?_⟩;obtain⟨p,q,hp,hq,rfl⟩:=lB e;have:=g2 p hp;show _<=max p q;omega;split;rename_i hn;cases y with
     |none=>cases hn
     | some y=>
       have:=g2 y rfl;have hn:=jY hn;have:xs=[]:=List.length_eq_zero_iff.1 (by omega);subst this;cases hr
     split;exact g3 r hr;exact Bo (g3 r hr)
   |_=>cases d<;>trivial
theorem Vr{a:A}(h:c.has d):(a.Bh c).has d:=by
 cases a with
 | i x y=>cases c with
   |i z w=>obtain⟨n,rfl,g1,g2⟩:=Kz h;exact⟨by omega,by omega⟩
   |_=>cases d<;>trivial
 | b=>cases c with
   |b=>exact h
   |_=>cases d<;>trivial
 |t=>cases c<;>cases d<;>trivial
 | l x y u=>cases c with
   | l z w v=>
     obtain⟨xs,rfl,g1,g2,g3⟩:=tU h;refine⟨by omega,fun t e=>?_,fun r hr=>?_⟩;obtain⟨p,q,hp,hq,rfl⟩:=lB e;have:=g2 q hq;show _<=max p q;omega;split;exact g3 r hr;split;rename_i hn;cases w with
     |none=>cases hn
     | some w=>
       have:=g2 w rfl;have hn:=jY hn;have:xs=[]:=List.length_eq_zero_iff.1 (by omega);subst this;cases hr
     exact Bp (g3 r hr)
   |_=>cases d<;>trivial
theorem Vs:∀ {as:List A} {ds:List DV},nh as ds->nh (as.map fun a=>a.Bh (CN a)) ds:=by
 intro as;induction as with
 |nil=>intro ds h;exact h
 | cons a as ih=>intro ds h;cases ds with
   |nil=>exact h.elim
   |cons d ds=>exact⟨Vq h.1,ih h.2⟩
theorem Vt:∀ {cs:List CT} {as:List A},rW cs as=true->nh (as.map fun a=>a.Bh (CN a)) (defs cs):=by
 intro cs;induction cs with
 | nil=>intro as h;cases as with
   |nil=>trivial
   |cons a as=>simp[rW]at h
 | cons c cs ih=>
   intro as h;cases as with
   |nil=>simp[rW]at h
   | cons a as=>
     simp only[rW,ao]at h;have hr:=ih h.2;have h1:=h.1;have key:∀d:DV,(CN a).has d->defs (c::cs)=d::defs cs->nh (List.map (fun a=>a.Bh (CN a)) (a::as)) (defs (c::cs)):=fun d hd e=>by
       rw[e];exact⟨Vr hd,hr⟩
     cases c with
     | c k=>cases k with
       | i k=>cases a with
         |i x y=>exact key (.i 0) ⟨by omega,by omega⟩ rfl
         |t=>exact key (.i 0) trivial rfl
         |_=>simp at h1
       | b=>cases a with
         |b=>exact key (.b false) trivial rfl
         |t=>exact key (.b false) trivial rfl
         |_=>simp at h1
       | f=>cases a with
         |i x y=>exact key (.i 0) ⟨by omega,by omega⟩ rfl
         |t=>exact key (.i 0) trivial rfl
         |_=>simp at h1
     | s e ks=>cases a with
       |l x y z=>exact key (.l []) ⟨by simp,fun y e=>(by cases e;simp),fun r hr=>(by cases hr)⟩ rfl
       |t=>exact key (.l []) trivial rfl
       |_=>simp at h1
     | n e ks=>cases a with
       |l x y z=>exact key (.l []) ⟨by simp,fun y e=>(by cases e;simp),fun r hr=>(by cases hr)⟩ rfl
       |t=>exact key (.l []) trivial rfl
       |_=>simp at h1
def Vu(ae:aF)(pr:List Nat)(ls:List Lc)(F:Nat->List DV->Prop):Prop:=
 ∀id l,ls.find? (fun l=>Nat.beq l.id id)=some l->(∀k∈l.iv.names,k∈pr)/\∀vs,nh l.iv.as vs->(∀p∈l.iv.ex,p.af (ae.au l.base vs)=true)->(l.iv.me.af (ae.au l.base vs)).toNat<(l.iv.me.af ae).toNat->F id vs
def ac9(er:Int×Int):Nat->List (Int->Prop)->Prop
 |0,_=>True
 |d+1,p::ps=>(∀n,er.1<=n->n<=er.2->p n)/\ac9 er d ps
 |_+1,[]=>False
theorem DA{vs:List DV}(h:ae k=aq k):ae.au base vs k=aq.au base vs k:=by
 by_cases h1:k<base;rw[aF.aT h1,aF.aT h1,h];by_cases h2:base+vs.length<=k;rw[aF.iZ h2,aF.iZ h2,h];have e:vs[k-base]?=some (vs[k-base]'(by omega)):=eN _;rw[show k=base+(k-base)by omega,aF.eL e,aF.eL e]
theorem Vu.move{ls:List Lc}{F:Nat->List DV->Prop}(h:Vu ae pr ls F)(he:∀k∈pr,ae k=aq k):Vu aq pr ls F:=by
 intro id l hl;obtain⟨h1,h2⟩:=h id l hl;refine⟨h1,fun vs hv hx hm=>h2 vs hv (fun p hp=>?_) ?_⟩;rw[ZX p (aq:=aq.au l.base vs) fun k hk=>DA (he k (h1 k ?_))];exact hx p hp;exact Es _ (List.mem_flatMap.2 ⟨p,hp,hk⟩);have e1:l.iv.me.af (ae.au l.base vs)=l.iv.me.af (aq.au l.base vs):=rZ _ fun k hk=>DA (he k (h1 k (zO _ hk)));have e2:l.iv.me.af ae=l.iv.me.af aq:=rZ _ fun k hk=>he k (h1 k (zO _ hk));rw[e1,e2];exact hm
theorem qU(h:free pr base n=true)(hn:ds.length=n):∀k∈pr,ae k=ae.au base ds k:=by
 intro k hk;exact tX hn (mE.1 h k hk)
theorem uL(h:free pr base 1=true):∀k∈pr,ae k=ae.set base d k:=by
 intro k hk;exact Fh (mE.1 h k hk)
theorem Vv(hn:ds.length=n){d:DE}(h:d.off base n=true):d.af (ae.au base ds)=d.af ae:=by
 have he:∀k,jH base n k=true->ae.au base ds k=ae k:=fun k hk=>(tX hn hk).symm;cases d with
 |i e=>simp only[DE.af,IE.av he h]
 |b e=>simp only[DE.af,BE.av he h]
 |l k=>simp only[DE.af,he k h]
 |nil=>rfl
 | rows es=>
   simp only[DE.af];congr 1;exact zF fun e hm=>by rw[IE.av he (mE.1 h e hm)]
 | vP xs=>
   simp only[DE.af];congr 2;refine zF fun e hm=>?_;have:=mE.1 h e hm;cases e with
   |inl e=>simp only[cg];exact IE.av he this
   |inr e=>simp only[cg,BE.av he (show e.all _=true from this)]
theorem P2(h:ds[k]?=some d):a8.au 0 ds k=d:=by
 have:=aF.eL (ae:=a8) (k:=0) h;rwa[fR]at this
theorem KE(h:k<R0):gD ds rs k=a8.au 0 ds k:=aF.aT h
theorem KF(h:rs[k]?=some d):gD ds rs (R0+k)=d:=aF.eL h
theorem DB{args:List DE}(hd:ds=args.map (DE.af aq))(hsm:args.length<R0)(hr:∀j d,rs[j]?=some d->aq (base+j)=d) :
   ∀k,(tS args rs.length base k).is aq (gD ds rs k):=by
 intro k;unfold tS;split;rename_i h1;have h1:k<args.length:=by simpa[Nat.blt_eq]using h1
 split;rename_i d hk;show d.af aq=_;rw[KE (by omega)];refine(P2 ?_).symm;rw[hd,iS,hk];rfl;trivial;split;rename_i h1;simp only[ao,Nat.ble_eq,Nat.blt_eq]at h1;show aq _=_;have e:rs[k-R0]?=some (rs[k-R0]'(by omega)):=eN _;rw[hr _ _ e];have:=KF (ds:=ds) e;rw[show R0+(k-R0)=k by omega]at this;rw[this];trivial
theorem KG:∀k,(MZ base bM.length bM k).is ae (ae.au base (bM.map (DE.af ae)) k):=by
 intro k;unfold MZ;split;rename_i h;simp only[ao,Nat.ble_eq,Nat.blt_eq]at h;split;rename_i d hd;have e:(bM.map (DE.af ae))[k-base]?=some (d.af ae):=by rw[iS,hd];rfl
 show d.af ae=_;have:=aF.eL (ae:=ae) (k:=base) e;rw[show base+(k-base)=k by omega]at this;exact this.symm;trivial;rename_i h;simp only[ao,Nat.ble_eq,Nat.blt_eq]at h;show ae k=_;by_cases h1:k<base;exact(aF.aT h1).symm;exact(aF.iZ (by simp;omega)).symm
theorem P3(hn:n<=R0)(ha:∀k,k<n->ae k=a8.au 0 ds k):∀k,(PJ n bM k).is ae (gD ds (bM.map (DE.af ae)) k):=by
 intro k;unfold PJ;split;rename_i h;have h:k<n:=by simpa[Nat.blt_eq]using h
 show ae k=_;rw[KE (by omega),ha k h];split;rename_i h;simp only[Nat.ble_eq]at h;split;rename_i d hd;have e:(bM.map (DE.af ae))[k-R0]?=some (d.af ae):=by rw[iS,hd];rfl
 show d.af ae=_;have:=KF (ds:=ds) e;rw[show R0+(k-R0)=k by omega]at this;exact this.symm;trivial;trivial
theorem yB(h:s.ok ae){as:List A}(ha:nh as ds):({s.fT (jH base as.length)with g:=oU base as++(s.fT (jH base as.length)).g}:Sk).ok (ae.au base ds):=by
 have hk:=KD (aq:=ae.au base ds) h (p:=jH base as.length) fun k hk=>tX ha.len.symm hk;refine⟨fun p hp=>?_,hk.q,hk.f⟩;rcases jS.1 hp with hp|hp;exact ml ha p hp;exact hk.g p hp
theorem Hh(h:s.ok ae){a:A}{id:Nat}(ha:a.has d):({s.fT (jH id 1)with g:=(id,a)::(s.fT (jH id 1)).g}:Sk).ok (ae.set id d):=by
 have hk:=KD (aq:=ae.set id d) h (p:=jH id 1) fun k hk=>Fh hk;refine⟨fun p hp=>?_,hk.q,hk.f⟩;rcases bC.1 hp with rfl|hp;simpa[aF.set]using ha;exact hk.g p hp
theorem KH{c:Bool}{v:Vc}(h:(if c=true then []else [v])=[]):c=true:=by
 cases c;cases h;rfl
theorem KI{K:Nat->Option Cn}{key:FuncId->Nat}{an:An}{E:Nat->List DV->List DV->Prop}{ZH:List DV}
   (hK:∀f c,K (key f)=some c->∀ds,c.il ds->∃rs,E f ds rs/\c.iK ds rs) (hl:∀l∈an.fM,gM l) (vY:out.args.length<=R0) :
   ∀ {t:aA} {s:Sk} {ls:List Lc} {d:Nat} {pr:List Nat} {ae:aF} {Ps:List (Int->Prop)} {F:Nat->List DV->Prop},
     s.ok ae->t.pM K key an out s ls d pr=[]->(∀k,k<out.args.length->k∈pr)->(∀k,k<out.args.length->ae k=a8.au 0 ZH k)->Vu ae pr ls F->ac9 an.er d Ps->t.ir E (out.iK ZH) Ps ae F:=by
 intro t;induction t with
 | ret bM=>
   intro s ls d pr ae Ps F h e hp ha hL hP;simp only[aA.pM]at e;obtain⟨e1,e2⟩:=append_nil e;exact⟨uK h hl e1,xq h hl (P3 vY ha) e2⟩
 | stuck w=>
   intro s ls d pr ae Ps F h e hp ha hL hP;have:=od h hl (by simpa only[aA.pM]using e);cases this
 | ev ev t ih=>
   intro s ls d pr ae Ps F h e hp ha hL hP;cases ev with
   | aH p=>
     simp only[aA.pM]at e;split at e;rename_i hpv;exact⟨gE h hpv,ih h e hp ha hL hP⟩;obtain⟨e1,e2⟩:=append_nil e;have hd:=od h hl e1;exact⟨hd,ih (uJ h hd) e2 hp ha hL hP⟩
   |dO p x=>simp[aA.pM]at e
   | b8 id op=>
     simp only[aA.pM]at e;obtain⟨e1,e2⟩:=append_nil e;have hc:=KH e1;simp only[ao]at hc;obtain⟨l1,l2⟩:=Vp h hc.2;have k:=mj (Hh h l1) l2;exact ih k e2 hp (fun j hj=>by rw[<- uL hc.1 j (hp j hj)];exact ha j hj) (hL.move (uL hc.1)) hP
   | call f g args res base=>
     simp only[aA.pM]at e;split at e;cases e;rename_i c hc;obtain⟨ea,e⟩:=append_nil e;obtain⟨eb,e⟩:=append_nil e;obtain⟨ea1,ea2⟩:=append_nil ea;have iA:=KH eb;simp only[ao,Nat.blt_eq]at iA;obtain⟨bj,ac',X2,vI,hsm⟩:=iA;refine⟨fun hg=>?_,fun hg=>?_⟩;have h1:=uJ h hg;have hd:∀k,(tS args 0 base k).is ae (gD (args.map (DE.af ae)) [] k):=DB (rs:=[]) rfl hsm (fun j d hj=>by simp at hj);have Cy:c.il (args.map (DE.af ae)):=⟨uK h1 hl ea1,xq (e2:=a8.au 0 (args.map (DE.af ae))) h1 hl (fun k=>by
       have:=hd k;rwa[show gD (args.map (DE.af ae)) [] k=a8.au 0 (args.map (DE.af ae)) k from rfl]at this) ea2⟩
     obtain⟨rs,hE,uZ,G3⟩:=hK f c hc _ Cy;refine⟨rs,hE,?_⟩;have hlen:=uZ.len;have hA:nh (if g.beq (.c true)then c.res else c.res.map fun a=>a.Bh (CN a)) rs:=by
       split;exact uZ;exact Vs uZ
     have Pa:(if g.beq (.c true)then c.res else c.res.map fun a=>a.Bh (CN a)).length=c.res.length:=by split<;>simp
     have k3:=yB h (base:=base) hA;rw[Pa]at k3;have fF:args.map (DE.af (ae.au base rs))=args.map (DE.af ae):=zF fun x hx=>Vv hlen.symm (mE.1 ac' x hx);have mo:∀k,(tS args c.res.length base k).is (ae.au base rs) (gD (args.map (DE.af ae)) rs k):=by
       rw[hlen];exact DB fF.symm hsm fun j d hj=>aF.eL hj
     have mw:g.af (ae.au base rs)=true:=by
       rw[BE.av (fun k hk=>(tX hlen.symm hk).symm) X2];exact hg
     refine ih (mj k3 fun p hp=>?_) e hp (fun j hj=>by rw[<- qU bj hlen.symm j (hp j hj)];exact ha j hj) (hL.move (qU bj hlen.symm)) hP;obtain⟨q,hq,vN⟩:=wT.1 hp;simp only[bN]at vN;obtain⟨q',NY,rfl⟩:=vN;have:q'.af (ae.au base rs)=true:=by rw[ac8 mo NY];exact G3 q hq
     split;exact this;simp[BE.af,this];have hA:nh (c.res.map fun a=>a.Bh (CN a)) (defs (bP res)):=Vt vI;have hlen:c.res.length=(defs (bP res)).length:=by have:=hA.len;simpa using this
     have hng:g.beq (.c true)=false:=by
       cases hb:g.beq (.c true)with
       |false=>rfl
       |true=>rw[BE.beq_eq hb]at hg;cases hg
     have k3:=yB h (base:=base) hA;simp only[qd]at k3;have mw:g.af (ae.au base (defs (bP res)))=false:=by
       rw[BE.av (fun k hk=>(tX hlen.symm hk).symm) X2];exact hg
     simp only[hng]at e;refine ih (mj k3 fun p hp=>?_) e hp (fun j hj=>by rw[<- qU bj hlen.symm j (hp j hj)];exact ha j hj) (hL.move (qU bj hlen.symm)) hP;obtain⟨q,hq,vN⟩:=wT.1 hp;simp only[bN]at vN;obtain⟨q',NY,rfl⟩:=vN;simp[BE.af,mw]
 | ite c a b fz fX=>
   intro s ls d pr ae Ps F h e hp ha hL hP;simp only[aA.pM]at e;split at e;rename_i hpv;have:=gE h hpv;exact⟨fun hc=>fz (uJ h hc) e hp ha hL hP,fun hc=>(by rw[this]at hc;cases hc)⟩;split at e;rename_i hnv;have:=oW h hnv;exact⟨fun hc=>(by rw[this]at hc;cases hc),fun hc=>fX (wj h hc) e hp ha hL hP⟩;obtain⟨e1,e2⟩:=append_nil e;exact⟨fun hc=>fz (uJ h hc) e1 hp ha hL hP,fun hc=>fX (wj h hc) e2 hp ha hL hP⟩
 | loop id entry ks base body ih=>
   intro s ls d pr ae Ps F h e hp ha hL hP;simp only[aA.pM]at e;split at e;cases e;rename_i _ _ v _;obtain⟨e1,e⟩:=append_nil e;obtain⟨e2,e⟩:=append_nil e;obtain⟨e3,e⟩:=append_nil e;have bj:=KH e3;have hen:=uK h hl e1;have hlen:entry.length=v.as.length:=by have:=hen.len;simpa using this.symm
   refine⟨fun vs=>nh v.as vs/\∀p∈v.ex,p.af (ae.au base vs)=true,fun vs=>(v.me.af (ae.au base vs)).toNat,⟨hen,?_⟩,fun vs hi=>?_⟩;refine xq h hl (fun k=>?_) e2;have:=KG (ae:=ae) (base:=base) (bM:=entry) k;rwa[hlen]at this;obtain⟨J2,P4⟩:=hi;have C6:=J2.len;refine ih (mj (yB h J2) P4) e (fun k hk=>Es _ (hp k hk)) (fun j hj=>by rw[<- qU bj C6.symm j (hp j hj)];exact ha j hj) ?_ hP;intro uX l wH;by_cases l7:uX=id;subst l7;have:(Lc.mk uX base v)=l:=by simpa[List.find?]using wH
   subst this;refine⟨fun k hk=>zO _ hk,fun us hu hx hm=>?_⟩;simp only[kO,if_pos];have e5:∀us:List DV,us.length=vs.length->(ae.au base vs).au base us=ae.au base us:=fun us hl=>by
     funext k;by_cases h1:k<base;rw[aF.aT h1,aF.aT h1,aF.aT h1];by_cases h2:base+us.length<=k;rw[aF.iZ h2,aF.iZ (by omega),aF.iZ h2];have e:us[k-base]?=some (us[k-base]'(by omega)):=eN _;rw[show k=base+(k-base)by omega,aF.eL e,aF.eL e]
   have hul:us.length=vs.length:=by have:=hu.len;simp only at this;omega
   simp only at hx hm;rw[e5 us hul]at hx hm;exact⟨⟨hu,hx⟩,hm⟩;have:ls.find? (fun l=>Nat.beq l.id uX)=some l:=by
     have da:Nat.beq id uX=false:=by
       cases hb:Nat.beq id uX with
       |false=>rfl
       |true=>exact absurd (yy hb).symm l7
     simpa[List.find?,da]using wH
   obtain⟨g1,g2⟩:=(hL.move (qU bj C6.symm)) uX l this;refine⟨fun k hk=>Es _ (g1 k hk),fun us hu hx hm=>?_⟩;simp only[kO,if_neg l7];exact g2 us hu hx hm
 | again id bM=>
   intro s ls d pr ae Ps F h e hp ha hL hP;simp only[aA.pM]at e;split at e;cases e;rename_i l hf;obtain⟨e1,e⟩:=append_nil e;obtain⟨e2,e⟩:=append_nil e;obtain⟨e3,e⟩:=append_nil e;obtain⟨g1,g2⟩:=hL id l hf;have hv:=uK h hl e1;have hlen:bM.length=l.iv.as.length:=by have:=hv.len;simpa using this.symm
   have mo:∀k,(MZ l.base l.iv.as.length bM k).is ae (ae.au l.base (bM.map (DE.af ae)) k):=fun k=>by
     have:=KG (ae:=ae) (base:=l.base) (bM:=bM) k;rwa[hlen]at this
   refine g2 _ hv (xq h hl mo e2) ?_;have h3:=jY (od h hl e3);split at e;rename_i me hme;have h4:=jY (od h hl e);rw[Hg mo hme]at h4;simp only[IE.af]at h3;omega;cases e
 | fail x=>
   intro s ls d pr ae Ps F h e hp ha hL hP;simp only[aA.pM]at e;split at e;cases e;rename_i hd;obtain⟨e1,e2⟩:=append_nil e;cases d with
   |zero=>exact absurd rfl hd
   | succ d=>
     cases Ps with
     |nil=>exact hP.elim
     | cons p ps=>
       exact hP.1 _ (jY (od h hl e1)) (jY (od h hl e2))
 | gA x tp t E6 ih=>
   intro s ls d pr ae Ps F h e hp ha hL hP;simp only[aA.pM]at e;obtain⟨e1,e⟩:=append_nil e;obtain⟨e2,e3⟩:=append_nil e;have bj:=KH e1;refine ih (Ps:=_::Ps) h e3 hp ha hL ⟨fun n h1 h2=>?_,hP⟩;rw[if_neg (by omega)]at e2;exact E6 (Hh h (a:=.i an.er.1 an.er.2) (d:=.i n) ⟨h1,h2⟩) e2 hp (fun j hj=>by rw[<- uL bj j (hp j hj)];exact ha j hj) (hL.move (uL bj)) hP
 | pop t ih=>
   intro s ls d pr ae Ps F h e hp ha hL hP;simp only[aA.pM]at e;split at e;cases e;rename_i hd;cases d with
   |zero=>exact absurd rfl hd
   | succ d=>
     cases Ps with
     |nil=>exact hP.elim
     |cons p ps=>exact ih h e hp ha hL hP.2
theorem KJ{T:Nat->Option iU}{X:bY}{e:iU}{K:Nat->Option Cn}{an:An}(hk:T k=some e)
   (hK:∀j c,K j=some c->ng T X j c.il c.iK) (hl:∀l∈an.fM,gM l) (vY:Nat.ble out.args.length R0=true) (hc:(zu K e.key an out e.tree).isEmpty=true):ng T X k out.il out.iK:=by
 intro ds hp;refine Bf hk ?_;have h0:(rX out).ok (a8.au 0 ds):=by
   refine mj ⟨fun p xK=>ml hp.1 p xK,fun l hl=>(by cases hl),fun p hp=>(by cases hp)⟩ hp.2
 exact KI (ZH:=ds) (fun f c hc ds hd=>hK _ c hc ds hd) hl (by simpa[Nat.ble_eq]using vY) h0 (List.isEmpty_iff.1 hc) (fun k hk=>tk.2 hk) (fun k _=>rfl) (fun id l h=>by cases h) trivial
end
section
variable{T:Nat->Option iU}{X:bY}{k:Nat}{ks:List Nat}
def lV{α:Type}(k:Nat):List (Nat×α)->Option α
 | []=>none
 |(j,a)::r=>if Nat.beq j k then some a else lV k r
theorem DC{α:Type}{a:α}:∀ {l:List (Nat×α)},lV k l=some a->(k,a)∈l:=by
 intro l;induction l with
 |nil=>intro h;cases h
 | cons x l ih=>
   intro h;obtain⟨j,b⟩:=x;unfold lV at h;split at h;rename_i e;cases h;rw[yy e];exact aZ ..;exact bI _ (ih h)
structure oe where
 f:FuncId
 ada:lg
 sl:List (FuncId×bX)
 s:bX
 sub:List (FuncId×Nat)
def oe.aR(r:oe):lg:={r.ada with sig:=tC r.sl}
def Fi:Nat:=6000
def im(P:Program)(r:oe):aA:=match P.funcs[r.f]? with
 |some fn=>prune [] (tA P r.aR r.f fn r.s Fi)
 |none=>.stuck ""
def mN(P:Program)(t:List (Nat×oe))(k:Nat):Option iU:=match lV k t with
 |some r=>some ⟨r.f,im P r,r.sub⟩
 |none=>none
def Vw(kc:Nat->Cn)(ks:List Nat)(j:Nat):Option Cn:=if ks.any (Nat.beq j)then some (kc j)else none
def nj(T:Nat->Option iU)(X:bY)(kc:Nat->Cn)(ks:List Nat):Prop:=∀j∈ks,ng T X j (kc j).il (kc j).iK
def P5(T:Nat->Option iU)(kc:Nat->Cn)(an:Nat->An)(ks:List Nat)(k:Nat):Bool:=match T k with
 |some e=>Nat.ble (kc k).args.length R0&&(zu (Vw kc ks) e.key (an k) (kc k) e.tree).isEmpty
 |none=>false
theorem Je{kc:Nat->Cn}(h:nj T X kc ks):∀j c,Vw kc ks j=some c->ng T X j c.il c.iK:=fun j c hj=>by
 unfold Vw at hj;split at hj;rename_i hm;cases hj;obtain⟨x,hx,hb⟩:=la.1 hm;rw[yy hb];exact h x hx;cases hj
theorem aC{kc:Nat->Cn}{an:Nat->An}(hl:∀k,∀l∈(an k).fM,gM l)(h:nj T X kc ks)(e:P5 T kc an ks k=true):ng T X k (kc k).il (kc k).iK:=by
 unfold P5 at e;split at e;rename_i en hk;simp only[ao]at e;exact KJ (X:=X) hk (Je h) (hl k) e.1 e.2;cases e
theorem nj.next{kc:Nat->Cn}{l:List Nat}{i:Nat}(h:nj T X kc (l.take i))(hk:l[i]?=some k)(g:ng T X k (kc k).il (kc k).iK):nj T X kc (l.take (i+1)):=fun j hj=>by
 rw[List.take_add_one,hk]at hj;rcases jS.1 hj with hj|hj;exact h j hj;rcases iE.1 hj with rfl;exact g
theorem nj.mono{kc:Nat->Cn}{ls:List Nat}(h:nj T X kc ks)(hs:(ls.all fun j=>ks.any (Nat.beq j))=true):nj T X kc ls:=fun j hj=>by
 obtain⟨x,hx,hb⟩:=la.1 (mE.1 hs j hj);rw[yy hb];exact h x hx
theorem nj.and{kc:Nat->Cn}(h:nj T X kc ks)(g:ng T X k (kc k).il (kc k).iK):nj T X kc (k::ks):=fun j hj=>by
 rcases bC.1 hj with rfl|hj;exact g;exact h j hj
end
section
variable{α:Type}
def fN{α:Type}(n:Nat)(k:Nat->α):α:=match n with
 |0=>k 0
 |.succ m=>k (.succ m)
theorem adf(n:Nat)(k:Nat->α):fN n k=k n:=by cases n<;>rfl
def fI{α:Type}(n:Int)(k:Int->α):α:=match n with
 |.ofNat m=>fN m fun m=>k (.ofNat m)
 |.negSucc m=>fN m fun m=>k (.negSucc m)
theorem P9(n:Int)(k:Int->α):fI n k=k n:=by cases n<;>simp only[fI,adf]
def fL{α β:Type}(f:β->(β->α)->α):List β->(List β->α)->α
 | [],k=>k []
 |x::xs,k=>f x fun x=>fL f xs fun xs=>k (x::xs)
theorem P'{β:Type}{f:β->(β->α)->α}(h:∀x k,f x k=k x):∀(xs:List β) (k:List β->α),fL f xs k=k xs:=by
 intro xs;induction xs with
 |nil=>intro k;rfl
 |cons x xs ih=>intro k;simp only[fL,h,ih]
def fD{α:Type}(d:DV)(k:DV->α):α:=match d with
 |.i n=>fI n fun n=>k (.i n)
 | .b b=>match b with
   |true=>k (.b true)
   |false=>k (.b false)
 |.l xs=>fL (fL fI) xs fun xs=>k (.l xs)
theorem X5(d:DV)(k:DV->α):fD d k=k d:=by
 cases d with
 |i n=>simp only[fD,P9]
 |b b=>cases b<;>rfl
 | l xs=>
   simp only[fD];exact P' (f:=fL fI) (fun x k=>P' (fun x k=>P9 x k) x k) xs (fun xs=>k (.l xs))
def ZZ{α:Type}(ds:List DV)(k:List DV->α):α:=fL fD ds k
theorem Fq(ds:List DV)(k:List DV->α):ZZ ds k=k ds:=P' (fun x k=>X5 x k) _ _
def qV:List (Nat×DV)->aF
 | [],k=>a8 k
 | (j,d)::r,k=>match Nat.beq j k with
   |true=>d
   |false=>qV r k
theorem yC(j:Nat)(d:DV)(E:List (Nat×DV)):qV ((j,d)::E)=(qV E).set j d:=by
 funext k;unfold qV aF.set;split;rename_i h;rw[if_pos (tm h).symm];rename_i h;rw[if_neg (fun e=>by rw[e,Nat.beq_refl]at h;cases h)]
def Bs(E:List (Nat×DV))(k:Nat):List DV->List (Nat×DV)
 | []=>E
 |d::ds=>Bs ((k,d)::E) (k+1) ds
theorem Bt:∀(ds:List DV) (E:List (Nat×DV)) (k:Nat),qV (Bs E k ds)=(qV E).au k ds:=by
 intro ds;induction ds with
 |nil=>intro E k;rfl
 |cons d ds ih=>intro E k;rw[Bs,ih,yC];rfl
def aA.po(C:bY)(N:Nat):aA->List (Int->Option (List DV))->List (Nat×DV)->tM->Option (List DV)
 |.ret bM,_,E,_=>ZZ (bM.map (DE.af (qV E))) some
 |.stuck _,_,_,_=>none
 | .ev (.aH p) t,Ps,E,F=>match p.af (qV E)with
   |true=>t.po C N Ps E F
   |false=>none
 | .ev (.call f g args res base) t,Ps,E,F=>match g.af (qV E)with
   | true=>ZZ (args.map (DE.af (qV E))) fun as=>match C f as with
     |some rs=>ZZ rs fun rs=>t.po C N Ps (Bs E base rs) F
     |none=>none
   |false=>t.po C N Ps (Bs E base (defs (bP res))) F
 |.ev (.b8 id op) t,Ps,E,F=>fD (.l (op.af (qV E))) fun d=>t.po C N Ps ((id,d)::E) F
 |.ev (.dO _ _) _,_,_,_=>none
 | .ite c a b,Ps,E,F=>match c.af (qV E)with
   |true=>a.po C N Ps E F
   |false=>b.po C N Ps E F
 |.loop id entry _ base body,Ps,E,F=>ZZ (entry.map (DE.af (qV E))) fun ds=>iter (fun rec ds=>ZZ ds fun ds=>body.po C N Ps (Bs E base ds) (Ce F id rec)) N ds
 |.again id bM,_,E,F=>ZZ (bM.map (DE.af (qV E))) fun ds=>F id ds
 | .fail e,Ps,E,_=>match Ps with
   |p::_=>fI (e.af (qV E)) fun n=>p n
   | []=>none
 |.gA x tp t,Ps,E,F=>t.po C N ((fun n=>tp.po C N Ps ((x,.i n)::E) F)::Ps) E F
 | .pop t,Ps,E,F=>match Ps with
   |_::ZA=>t.po C N ZA E F
   | []=>none
theorem VD{C:bY}{N:Nat}:∀(t:aA) (Ps:List (Int->Option (List DV))) (E:List (Nat×DV)) (F:tM),t.po C N Ps E F=t.run C N Ps (qV E) F:=by
 intro t;induction t with
 |ret bM=>intro Ps E F;simp only[aA.po,aA.run,Fq]
 |stuck s=>intro Ps E F;rfl
 | ev e t ih=>
   intro Ps E F;cases e with
   | aH p=>
     simp only[aA.po,aA.run,Ev.run];cases h:p.af (qV E);simp;simp[ih]
   | call f g args res base=>
     simp only[aA.po,aA.run,Ev.run,Fq,ih,Bt];cases h:g.af (qV E);simp;simp only[if_true];cases C f (List.map (DE.af (qV E)) args)<;>rfl
   |b8 id op=>simp only[aA.po,aA.run,Ev.run,X5,ih,yC]
   |dO p e=>rfl
 | ite c a b fz fX=>
   intro Ps E F;simp only[aA.po,aA.run,fz,fX];cases h:c.af (qV E)<;>simp
 | loop id es ks base body ih=>
   intro Ps E F;simp only[aA.po,aA.run,Fq,ih,Bt]
 |again id bM=>intro Ps E F;simp only[aA.po,aA.run,Fq]
 |fail e=>intro Ps E F;cases Ps<;>simp only[aA.po,aA.run,P9]
 | gA x tp t E6 ih=>
   intro Ps E F;simp only[aA.po,aA.run,ih,E6,yC]
 |pop t ih=>intro Ps E F;cases Ps<;>simp only[aA.po,aA.run,ih]
def eqI:Int->Int->Bool
 |.ofNat a,.ofNat b=>Nat.beq a b
 |.negSucc a,.negSucc b=>Nat.beq a b
 |_,_=>false
theorem Qa{a b:Int}(h:eqI a b=true):a=b:=by
 cases a<;>cases b<;>simp only[eqI]at h;rw[tm h];cases h;cases h;rw[tm h]
def X6{α:Type}(f:α->α->Bool):List α->List α->Bool
 | [],[]=>true
 | a::as,b::bs=>match f a b with
   |true=>X6 f as bs
   |false=>false
 |_,_=>false
theorem Fs{f:α->α->Bool}(hf:∀a b,f a b=true->a=b):∀ {as bs:List α},X6 f as bs=true->as=bs:=by
 intro as;induction as with
 | nil=>intro bs h;cases bs with
   |nil=>rfl
   |cons b bs=>cases h
 | cons a as ih=>intro bs h;cases bs with
   |nil=>cases h
   | cons b bs=>
     unfold X6 at h;split at h;rename_i e;rw[hf _ _ e,ih h];cases h
def eqD:DV->DV->Bool
 |.i a,.i b=>eqI a b
 | .b a,.b b=>match a,b with
   |true,true=>true
   |false,false=>true
   |_,_=>false
 |.l a,.l b=>X6 (X6 eqI) a b
 |_,_=>false
theorem Qb{a b:DV}(h:eqD a b=true):a=b:=by
 cases a<;>cases b<;>simp only[eqD]at h<;>first|cases h|skip
 rw[Qa h]
 . rename_i x y;cases x<;>cases y<;>simp_all
 rw[Fs (fun a b h=>Fs (fun a b h=>Qa h) h) h]
def eqO:Option (List DV)->List DV->Bool
 |some a,b=>X6 eqD a b
 |none,_=>false
theorem Z0{a:Option (List DV)}{b:List DV}(h:eqO a b=true):a=some b:=by
 cases a with
 |none=>cases h
 |some a=>rw[Fs (fun a b h=>Qb h) (show X6 eqD a b=true from h)]
abbrev kM:=Nat×List DV×List DV
def Hk(k:Nat)(ds:List DV):List kM->Option (List DV)
 | []=>none
 | (j,as,rs)::r=>match Nat.beq j k with
   | true=>match X6 eqD as ds with
     |true=>some rs
     |false=>Hk k ds r
   |false=>Hk k ds r
theorem M8{k:Nat}{ds rs:List DV}:∀ {tb:List kM},Hk k ds tb=some rs->(k,ds,rs)∈tb:=by
 intro tb;induction tb with
 |nil=>intro h;cases h
 | cons x tb ih=>
   intro h;obtain⟨j,as,r⟩:=x;unfold Hk at h;split at h;rename_i e;split at h;rename_i e';cases h;rw[tm e,Fs (fun a b h=>Qb h) e'];exact aZ ..;exact bI _ (ih h);exact bI _ (ih h)
def M9(T:Nat->Option iU)(X:bY):List kM->Prop
 | []=>True
 |x::r=>cX T X x.1 x.2.1 x.2.2/\M9 T X r
theorem M9.fuel{T:Nat->Option iU}{X:bY}:∀ {tb:List kM},M9 T X tb->∃n,∀x∈tb,ev T X n x.1 x.2.1=some x.2.2:=by
 intro tb;induction tb with
 |nil=>intro _;exact⟨0,fun x h=>(by cases h)⟩
 | cons x tb ih=>
   intro h;obtain⟨⟨n,hn⟩,hr⟩:=h;obtain⟨m,hm⟩:=ih hr;refine⟨max n m,fun y hy=>?_⟩;rcases bC.1 hy with rfl|hy;exact mf n _ _ _ (Nat.le_max_left ..) _ hn;exact mf m _ _ _ (Nat.le_max_right ..) _ (hm y hy)
end
section
variable {K:Nat->Option Cn}{key:FuncId->Nat}{an:An}{out:Cn}
variable{m x:Nat}{c:Code}{fn:Func}{d:Nat}{ls:List Lc}{pr:List Nat}
def Vx(x n:Nat):BE:=.eq (.v x) (.c (n:Int))
def Uu(x:Nat)(ks:List BE):Nat->List BE
 |0=>ks
 |n+1=>(BE.not (Vx x n)).mk::Uu x ks n
def sN(x:Nat)(s:Sk):Nat->Sk
 |0=>s
 |n+1=>(sN x s n).n7 (Vx x n)
theorem Vy{c:BE}{a b:aA}{s:Sk}(h1:a.pM K key an out (s.ni c) ls d pr=[])(h2:b.pM K key an out (s.n7 c) ls d pr=[]):(aA.ite c a b).pM K key an out s ls d pr=[]:=by
 simp only[aA.pM];split;exact h1;split;exact h2;rw[h1,h2];rfl
theorem Jf{f:Int->aA}{dt:aA}{s0:Sk}{ks0:List BE}
   (hf:∀n,n<m->(prune (jh (Vx x n) (Uu x ks0 n)) (f n)).pM K key an out ((sN x s0 n).ni (Vx x n)) ls d pr=[]) (hd:(prune (Uu x ks0 m) dt).pM K key an out (sN x s0 m) ls d pr=[]) :
   ∀(j n:Nat),n+j=m->(prune (Uu x ks0 n) (vV x f dt (List.range' n j))).pM K key an out (sN x s0 n) ls d pr=[]:=by
 intro j;induction j with
 | zero=>
   intro n hn;have:n=m:=by omega
   subst this;exact hd
 | succ j ih=>
   intro n hn;show(prune (Uu x ks0 n) (.ite (.eq (.v x) (.c (n:Int))) (f n) (vV x f dt (List.range' (n+1) j)))).pM K key an out (sN x s0 n) ls d pr=[];exact Vy (hf n (by omega)) (ih (n+1) (by omega))
def xr(P:Program)(r:oe)(aR:lg)(g:St->St):aA:=match P.funcs[r.f]? with
 | some fn=>match fn.body with
   |some c=>exec P aR Fi none [] r.f fn [.code c] (g (start fn r.s.args)) (if r.s.cons=0 then rL r.s.res else oO r.s)
   |none=>.stuck "no body"
 |none=>.stuck ""
def Vz(x m:Nat):List (Nat×Int):=(List.range m).map fun(v:Nat)=>(x,(v:Int))
def DF(K:Nat->Option Cn)(key:FuncId->Nat)(an:An)(out:Cn)(rs:List CT)(s:Sk)(t:aA):Bool:=(t.pM K key an out s [] 0 (List.range out.args.length)).isEmpty&&t.n5 rs
def DG(P:Program)(r:oe)(K:Nat->Option Cn)(key:FuncId->Nat)(an:An)(out:Cn)(x n:Nat):Bool:=
 DF K key an out (bP r.s.res) ((sN x (rX out) n).ni (Vx x n)) (prune (jh (Vx x n) (Uu x [] n)) (xr P r r.aR fun st=>st.fix x n))
def Hi(P:Program)(r:oe)(K:Nat->Option Cn)(key:FuncId->Nat)(an:An)(out:Cn)(x m:Nat):Bool:=
 DF K key an out (bP r.s.res) (sN x (rX out) m) (prune (Uu x [] m) (xr P r {r.aR with no:=Vz x m} id))
theorem xt{P:Program}{r:oe}(mA:P.funcs[r.f]?=some fn)(hc:fn.body=some c)(hs:r.aR.AM=some (x,m))(hx:decide (x<(start fn r.s.args).next)=true) :
   im P r=prune [] (vV x (fun v=>xr P r r.aR fun st=>st.fix x v) (xr P r {r.aR with no:=Vz x m} id) (List.range' 0 m)):=by
 rw[<- List.range_eq_range'];simp only[im,mA,tA,hc,hs,hx,if_true,xr,Vz,id]
theorem M3{P:Program}{r:oe}(mA:P.funcs[r.f]?=some fn)(hc:fn.body=some c)(hs:r.aR.AM=some (x,m))(hx:decide (x<(start fn r.s.args).next)=true)
   (hp:∀n,n<m->DG P r K key an out x n=true) (hr:Hi P r K key an out x m=true):(zu K key an out (im P r)).isEmpty=true:=by
 rw[List.isEmpty_iff,xt mA hc hs hx];unfold zu;refine Jf (m:=m) (s0:=rX out) (ks0:=[]) (fun n hn=>?_) ?_ m 0 (by omega);have:=hp n hn;simp only[DG,DF,ao]at this;exact List.isEmpty_iff.1 this.1;simp only[Hi,DF,ao]at hr;exact List.isEmpty_iff.1 hr.1
theorem Jg{P:Program}{r:oe}(mA:P.funcs[r.f]?=some fn)(hc:fn.body=some c)(hs:r.aR.AM=some (x,m))(hx:decide (x<(start fn r.s.args).next)=true)
   (hp:∀n,n<m->DG P r K key an out x n=true) (hr:Hi P r K key an out x m=true):(im P r).n5 (bP r.s.res)=true:=by
 rw[xt mA hc hs hx];have key:∀(j n:Nat),n+j=m->(prune (Uu x [] n) (vV x (fun v=>xr P r r.aR fun st=>st.fix x v) (xr P r {r.aR with no:=Vz x m} id) (List.range' n j))).n5 (bP r.s.res)=true:=by
   intro j;induction j with
   | zero=>
     intro n hn;have:n=m:=by omega
     subst this;simp only[Hi,DF,ao]at hr;exact hr.2
   | succ j ih=>
     intro n hn;have h1:=hp n (by omega);simp only[DG,DF,ao]at h1;have h2:=ih (n+1) (by omega);show(aA.ite _ _ _).n5 _=true;simp only[aA.n5,ao];exact⟨h1.2,h2⟩
 exact key m 0 (by omega)
end
section
variable {P:Program}
def P8(lD:Nat->Option bX)(lK:List (Nat×oe))(key:FuncId->Nat)(sl:List (FuncId×bX))(g:FuncId):Bool:=match tC sl g with
 | some s'=>decide (lD (key g)=some s')&&Nat.beq (match lV (key g) lK with
   |some r=>r.f
   |none=>key g) g
 |none=>false
def VC(lK:List (Nat×oe))(xs:List Nat)(k:Nat):Bool:=(lV k lK).isSome||xs.any (Nat.beq k)
structure Kind where
 aH:FuncId
 yn:FuncId
 dm:TypeId
 ql:TypeId
 zR:FuncId
 y8:List (Nat×List Int)
def ade(k:Kind)(c:lg):Bool:=decide (c.aH=some k.aH)&&(decide (c.yn=some k.yn)&&(decide (c.dm=k.dm)&&(decide (c.ql=k.ql)&&(decide (c.zR=some k.zR)&&(decide (c.y8=k.y8)&&c.no.isEmpty)))))
def fnB(P:Program)(f:FuncId):Bool:=match P.funcs[f]? with
 |some fn=>fn.body.isSome && !(fn.name == "runtime.NumGoroutine")
 |none=>false
def M7(P:Program)(kd:Kind)(lD:Nat->Option bX)(lK:List (Nat×oe))(xs:List Nat)(k:Nat)(r:oe):Bool:=
 ade kd r.ada && (fnB P r.f && (decide (lD k=some r.s)&&(r.sl.all (fun p=>P8 lD lK (iU.key ⟨r.f,.stuck "",r.sub⟩) r.sl p.1) &&
   (lK.map (·.1)++xs).all fun j=>(r.sub.any fun p=>Nat.beq p.1 j)||(tC r.sl j).isSome)&&(r.sub.all fun p=>(tC r.sl p.1).isSome || !VC lK xs p.2)))
def kindOk(P:Program)(kd:Kind):Prop:=∀aR:lg,aR.aH=some kd.aH->aR.yn=some kd.yn->aR.dm=kd.dm->aR.ql=kd.ql->aR.zR=some kd.zR->ki P aR
theorem Jj{l:List (FuncId×bX)}{g:FuncId}{s:bX}(h:tC l g=some s):∃p∈l,p.1=g:=by
 unfold tC at h;simp only[bN]at h;obtain⟨p,hp,_⟩:=h;exact⟨p,xR hp,by have:=List.find?_some hp;simpa using this⟩
theorem ZY{Wd:World->Prop}{kd:Kind}{lD:Nat->Option bX}{lK:List (Nat×oe)}{xs:List Nat}{k:Nat}{r:oe}(hk:kindOk P kd)(hw:∀w,Wd w->∀g cs,(g,cs)∈kd.y8->∃T z,w.heap[g]?=some (.cells (cs.map fun n=>Value.int .i64 n).toArray T z))
   (h:M7 P kd lD lK xs k r=true) (hr:(im P r).n5 (bP r.s.res)=true):XT P Wd (mN P lK) (fun k=>xs.any (Nat.beq k)) lD k ⟨r.f,im P r,r.sub⟩:=by
 simp only[M7,ade,fnB,ao,aO]at h;obtain⟨⟨c1,c2,c3,c4,c5,c6,c7⟩,hf,⟨hs,yt,Zt⟩,fg⟩:=h;split at hf;rename_i fn mA;simp only[ao,nJ,At]at hf;obtain⟨⟨c,hc⟩,hn⟩:=hf;refine⟨r.aR,fn,c,Fi,r.s,⟨by simpa[oe.aR]using List.isEmpty_iff.1 c7,hr⟩,hs,hk r.aR c1 c2 c3 c4 c5,?_,?_,mA,hc,hn,?_,fun w Ij g cs hg=>hw w Ij g cs (by rw[<- c6];exact hg)⟩;intro g s' hg;have hg:tC r.sl g=some s':=hg;obtain⟨p,hp,rfl⟩:=Jj hg;have:=mE.1 yt p hp;simp only[P8,hg,ao,aO]at this;refine⟨this.1,?_⟩;have e:=yy this.2;show pL (mN P lK) (iU.key ⟨r.f,.stuck "",r.sub⟩ p.1)=p.1;unfold pL mN;split at e;rename_i r' dj;first|exact e|(rw[dj];exact e)
 rename_i dj;first|exact e|(rw[dj];exact e)
 intro g hg;show(tC r.sl g).isSome=true;have hd:VC lK xs (iU.key ⟨r.f,im P r,r.sub⟩ g)=true:=by
   unfold vx mN at hg;unfold VC;cases hl:lV (iU.key ⟨r.f,im P r,r.sub⟩ g) lK with
   |none=>simpa[hl]using hg
   |some r'=>simp
 cases UJ:r.sub.find? (fun p=>p.1==g)with
 | some p=>
   have e:iU.key ⟨r.f,im P r,r.sub⟩ g=p.2:=by simp only[iU.key,UJ]
   have e2:p.1=g:=by have:=List.find?_some UJ;simpa using this
   have:=mE.1 fg p (xR UJ);rw[e]at hd;simp only[hd,Bool.not_true,Bool.or_false]at this;rw[<- e2];exact this
 | none=>
   have e:iU.key ⟨r.f,im P r,r.sub⟩ g=g:=by simp only[iU.key,UJ]
   rw[e]at hd;have hm:g∈lK.map (·.1)++xs:=by
     unfold VC at hd;simp only[hZ]at hd;rcases hd with hd|hd;obtain⟨r',dj⟩:=At.1 hd;exact zO _ (jz.2 ⟨_,DC dj,rfl⟩);obtain⟨x,hx,hb⟩:=la.1 hd;rw[yy hb];exact Es _ hx
   have:=mE.1 Zt g hm;simp only[hZ]at this;rcases this with this|this;obtain⟨p,hp,hb⟩:=la.1 this;have:=List.find?_eq_none.1 UJ p hp;simp[yy hb]at this;exact this
 show prune [] (tA P r.aR r.f fn r.s Fi)=im P r;simp only[im,mA];cases hf
end
section
variable{id:Nat}{bM:List DE}{base:Nat}{c:BE}
def aA.strip(S:BE->Bool):aA->aA
 |.ret bM=>.ret bM
 |.stuck w=>.stuck w
 |.ev (.aH p) t=>if S p then t.strip S else .ev (.aH p) (t.strip S)
 |.ev (.call f g args res base) t=>.ev (.call f g args res base) (t.strip S)
 |.ev (.b8 id op) t=>.ev (.b8 id op) (t.strip S)
 |.ev (.dO p e) t=>.ev (.dO p e) (t.strip S)
 |.ite c a b=>.ite c (a.strip S) (b.strip S)
 |.loop id en ks base t=>.loop id en ks base (t.strip S)
 |.again id bM=>.again id bM
 |.fail e=>.fail e
 |.gA x a b=>.gA x (a.strip S) (b.strip S)
 |.pop t=>.pop (t.strip S)
def aA.np(S:BE->Bool)(H:Nat->List DV->Prop)(E:Nat->List DV->List DV->Prop)(R:List DV->Prop):aA->List (Int->Prop)->aF->(Nat->List DV->Prop)->Prop
 |.ret bM,_,ae,_=>R (bM.map (DE.af ae))
 |.stuck _,_,_,_=>True
 |.ev (.aH p) t,Ps,ae,F=>(S p=true->p.af ae=true)/\(p.af ae=true->t.np S H E R Ps ae F)
 |.ev (.call f g args res base) t,Ps,ae,F=>(g.af ae=true->H f (args.map (DE.af ae))/\∀rs,E f (args.map (DE.af ae)) rs->t.np S H E R Ps (ae.au base rs) F)/\(g.af ae=false->t.np S H E R Ps (ae.au base (defs (bP res))) F)
 |.ev (.b8 id op) t,Ps,ae,F=>t.np S H E R Ps (ae.set id (.l (op.af ae))) F
 |.ev (.dO _ _) _,_,_,_=>True
 |.ite c a b,Ps,ae,F=>(c.af ae=true->a.np S H E R Ps ae F)/\(c.af ae=false->b.np S H E R Ps ae F)
 |.loop id entry _ base body,Ps,ae,F=>∃inv:List DV->Prop,inv (entry.map (DE.af ae))/\∀ds,inv ds->body.np S H E R Ps (ae.au base ds) (kO F id inv)
 |.again id bM,_,ae,F=>F id (bM.map (DE.af ae))
 |.fail e,Ps,ae,_=>kJ Ps (e.af ae)
 |.gA x tp t,Ps,ae,F=>t.np S H E R ((fun n=>tp.np S H E R Ps (ae.set x (.i n)) F)::Ps) ae F
 |.pop t,Ps,ae,F=>t.np S H E R Ps.tail ae F
def Fj:List (Int->Prop)->List (Int->Prop)->List (Int->Prop)->Prop
 | [],[],[]=>True
 |p::ps,q::qs,r::rs=>(∀e,p e->q e->r e)/\Fj ps qs rs
 |_,_,_=>False
theorem Fj.head{ps qs rs:List (Int->Prop)}(h:Fj ps qs rs){e:Int}(h1:kJ ps e)(h2:kJ qs e):kJ rs e:=by
 match ps,qs,rs,h with
 | [],[],[],_=>exact h1
 |p::ps,q::qs,r::rs,h=>exact h.1 e h1 h2
theorem M4{S:BE->Bool}{H:Nat->List DV->Prop}{E1 E:Nat->List DV->List DV->Prop}{R1 R2:List DV->Prop}(hE:∀f ds rs,H f ds->E1 f ds rs->E f ds rs) :
   ∀ {t:aA} {Ps Qs Rs:List (Int->Prop)} {ae:aF} {F G K:Nat->List DV->Prop},(t.strip S).ir E1 R1 Ps ae F->t.np S H E R2 Qs ae G->Fj Ps Qs Rs->(∀j vs,F j vs->G j vs->K j vs)->t.ir E (fun rs=>R1 rs/\R2 rs) Rs ae K:=by
 intro t;induction t with
 |ret bM=>intro Ps Qs Rs ae F G K h1 h2 _ _;exact⟨h1,h2⟩
 |stuck w=>intro Ps Qs Rs ae F G K h1;exact h1.elim
 | ev e t ih=>
   intro Ps Qs Rs ae F G K h1 h2 hP hF;cases e with
   | aH p=>
     simp only[aA.strip]at h1;split at h1;rename_i hs;have hp:=h2.1 hs;exact⟨hp,ih h1 (h2.2 hp) hP hF⟩;exact⟨h1.1,ih h1.2 (h2.2 h1.1) hP hF⟩
   | call f g args res base=>
     refine⟨fun hg=>?_,fun hg=>ih (h1.2 hg) (h2.2 hg) hP hF⟩;obtain⟨rs,he,ht⟩:=h1.1 hg;obtain⟨hh,h3⟩:=h2.1 hg;have he:=hE _ _ _ hh he;exact⟨rs,he,ih ht (h3 rs he) hP hF⟩
   | b8 id op=>
     have H7:(t.strip S).ir E1 R1 Ps (ae.set id (.l (op.af ae))) F:=h1;have Zh:t.np S H E R2 Qs (ae.set id (.l (op.af ae))) G:=h2;exact ih H7 Zh hP hF
   |dO p e=>exact h1.elim
 | ite c a b fz fX=>
   intro Ps Qs Rs ae F G K h1 h2 hP hF;exact⟨fun hc=>fz (h1.1 hc) (h2.1 hc) hP hF,fun hc=>fX (h1.2 hc) (h2.2 hc) hP hF⟩
 | loop id en ks base body ih=>
   intro Ps Qs Rs ae F G K h1 h2 hP hF;obtain⟨inv1,me,a1,b1⟩:=h1;obtain⟨inv2,a2,b2⟩:=h2;refine⟨fun vs=>inv1 vs/\inv2 vs,me,⟨a1,a2⟩,fun ds hd=>ih (b1 ds hd.1) (b2 ds hd.2) hP fun j vs x y=>?_⟩;unfold kO at *;split;rename_i e;rw[if_pos e]at x y;exact⟨⟨x.1,y⟩,x.2⟩;rename_i e;rw[if_neg e]at x y;exact hF j vs x y
 |again id bM=>intro Ps Qs Rs ae F G K h1 h2 _ hF;exact hF _ _ h1 h2
 |fail e=>intro Ps Qs Rs ae F G K h1 h2 hP _;exact hP.head h1 h2
 | gA x a b fz fX=>
   intro Ps Qs Rs ae F G K h1 h2 hP hF;exact fX (Ps:=_::Ps) (Qs:=_::Qs) (Rs:=_::Rs) h1 h2 ⟨fun e p q=>fz p q hP hF,hP⟩ hF
 | pop t ih=>
   intro Ps Qs Rs ae F G K h1 h2 hP hF
   match Ps,Qs,Rs,hP with
   | [],[],[],_=>exact h1.elim
   |p::ps,q::qs,r::rs,hP=>exact ih (Ps:=ps) (Qs:=qs) h1 h2 hP.2 hF
def P6(T:Nat->Option iU)(X:bY)(H:Nat->List DV->Prop)(j:Nat)(c:Cn):Prop:=∀ds,c.il ds->(H j ds->∃rs,cX T X j ds rs/\c.iK ds rs)/\(¬ H j ds->∃rs,c.iK ds rs)
theorem M5{T:Nat->Option iU}{X:bY}{k:Nat}{e:iU}{K:Nat->Option Cn}{an:An}{out:Cn}{S:BE->Bool}{H:Nat->List DV->Prop}{R:List DV->List DV->Prop}(hk:T k=some e)
   (hK:∀j c,K j=some c->P6 T X H j c) (hl:∀l∈an.fM,gM l) (vY:Nat.ble out.args.length R0=true) (hc:(zu K e.key an out (e.tree.strip S)).isEmpty=true)
   (hp:∀ds,out.il ds->e.tree.np S (fun g=>H (e.key g)) (fun g=>cX T X (e.key g)) (R ds) [] (a8.au 0 ds) (fun _ _=>True)):ng T X k out.il (fun ds rs=>out.iK ds rs/\R ds rs):=by
 intro ds hd;refine Bf hk ?_;have h0:(rX out).ok (a8.au 0 ds):=by
   refine mj ⟨fun p xK=>ml hd.1 p xK,fun l hl=>(by cases hl),fun p hp=>(by cases hp)⟩ hd.2
 refine M4 (S:=S) (Ps:=[]) (Qs:=[]) (E1:=fun g ds rs=>H (e.key g) ds->cX T X (e.key g) ds rs) (F:=fun _ _=>False) (G:=fun _ _=>True) (fun f ds rs h1 h2=>h2 h1) ?_ (hp ds hd) trivial fun _ _ h _=>h;refine KI (ZH:=ds) (K:=K) (key:=e.key) (an:=an) (fun f c hc ds hd=>?_) hl (by simpa[Nat.ble_eq]using vY) h0 (List.isEmpty_iff.1 hc) (fun k hk=>tk.2 hk) (fun k _=>rfl) (fun id l h=>by cases h) trivial;obtain⟨w1,w2⟩:=hK _ c hc ds hd;by_cases hh:H (e.key f) ds;obtain⟨rs,g1,g2⟩:=w1 hh;exact⟨rs,fun _=>g1,g2⟩;obtain⟨rs,g2⟩:=w2 hh;exact⟨rs,fun h=>absurd h hh,g2⟩
variable {S:BE->Bool}{H:Nat->List DV->Prop}{E:Nat->List DV->List DV->Prop}{R:List DV->Prop}{Ps:List (Int->Prop)}{ae:aF}{F:Nat->List DV->Prop}{t t':aA}
theorem fC{p:BE}(hs:S p=false)(ht:p.af ae=true->t.np S H E R Ps ae F):(aA.ev (.aH p) t).np S H E R Ps ae F:=⟨fun h=>(by rw[hs]at h;cases h),ht⟩
theorem Fm{p:BE}(hp:p.af ae=true)(ht:t.np S H E R Ps ae F):(aA.ev (.aH p) t).np S H E R Ps ae F:=⟨fun _=>hp,fun _=>ht⟩
theorem qt{op:ew}{M:List (List Int)}(e:op.af ae=M)(ht:t.np S H E R Ps (ae.set id (.l M)) F):(aA.ev (.b8 id op) t).np S H E R Ps ae F:=by subst e;exact ht
theorem s_call{f:FuncId}{args:List DE}{res:List VT}(hh:H f (args.map (DE.af ae)))(ht:∀rs,E f (args.map (DE.af ae)) rs->t.np S H E R Ps (ae.au base rs) F):(aA.ev (.call f (.c true) args res base) t).np S H E R Ps ae F:=
 ⟨fun _=>⟨hh,ht⟩,fun h=>by simp[BE.af]at h⟩
theorem KK(h1:c.af ae=true->t.np S H E R Ps ae F)(h2:c.af ae=false->t'.np S H E R Ps ae F):(aA.ite c t t').np S H E R Ps ae F:=⟨h1,h2⟩
theorem xu{a b:IE}(h1:a.af ae<b.af ae->t.np S H E R Ps ae F)(h2:b.af ae<=a.af ae->t'.np S H E R Ps ae F):(aA.ite (.lt a b) t t').np S H E R Ps ae F:=
 KK (fun h=>h1 (jY h)) (fun h=>h2 (Int.not_lt.1 (Dc h)))
theorem pP{a b:IE}(h1:a.af ae=b.af ae->t.np S H E R Ps ae F)(h2:a.af ae≠b.af ae->t'.np S H E R Ps ae F):(aA.ite (.eq a b) t t').np S H E R Ps ae F:=
 KK (fun h=>h1 (jY h)) (fun h=>h2 (Dc h))
theorem Hj(h1:c.af ae=false->t.np S H E R Ps ae F)(h2:c.af ae=true->t'.np S H E R Ps ae F):(aA.ite (.not c) t t').np S H E R Ps ae F:=
 KK (fun h=>h1 (by simpa[BE.af]using h)) (fun h=>h2 (by simpa[BE.af]using h))
theorem Fo{entry:List DE}{ks:List CT}{body:aA}(inv:List DV->Prop)(h0:inv (entry.map (DE.af ae)))
   (hb:∀ds,inv ds->body.np S H E R Ps (ae.au base ds) (kO F id inv)):(aA.loop id entry ks base body).np S H E R Ps ae F:=⟨inv,h0,hb⟩
theorem Ae{G:List DV->Prop}(h:G (bM.map (DE.af ae))):(aA.again id bM).np S H E R Ps ae (kO F id G):=by
 simpa[aA.np,kO]using h
theorem adb{rs:List DV}(e:bM.map (DE.af ae)=rs)(h:R rs):(aA.ret bM).np S H E R Ps ae F:=by subst e;exact h
theorem Fp{e:IE}{p:Int->Prop}(h:p (e.af ae)):(aA.fail e).np S H E R (p::Ps) ae F:=h
theorem VA{x:Nat}(h:t'.np S H E R ((fun n=>t.np S H E R Ps (ae.set x (.i n)) F)::Ps) ae F):(aA.gA x t t').np S H E R Ps ae F:=h
theorem DH{p:Int->Prop}(h:t.np S H E R Ps ae F):(aA.pop t).np S H E R (p::Ps) ae F:=h
end
section
def aA.fW(K:Nat->Option Cn)(key:FuncId->Nat)(an:An)(out:Cn):aA->List Bool->Sk->List Lc->Nat->List Nat->List Vc
 |.ev (.aH q) t,p,s,ls,d,pr=>if s.pv 0 q then t.fW K key an out p s ls d pr else s.ask an.fM q++t.fW K key an out p (s.ni q) ls d pr
 | .ev (.call f g args res base) t,p,s,ls,d,pr=>match K (key f)with
   |none=>[bad s]
   | some c=>
     let m:=c.res.length
     let s1:=s.ni g
     let vs:=s1.tR an.fM args c.args++s1.asks an.fM (tS args 0 base) c.pre
     let ok:=free pr base m&&(args.all (DE.off base m)&&(g.all (jH base m)&&(rW (bP res) c.res&&Nat.blt args.length R0)))
     let s2:=s.fT (jH base m)
     let σ:=tS args m base
     let s3:Sk:={s2 with g:=oU base (if g.beq (.c true)then c.res else c.res.map fun a=>a.Bh (CN a))++s2.g}
     let s4:=s3.n8 (c.post.filterMap fun p=>(p.put σ).map fun p'=>if g.beq (.c true)then p' else .or (.not g) p')
     vs++((if ok then []else [bad s])++t.fW K key an out p s4 ls d pr)
 |.ev (.b8 id op) t,p,s,ls,d,pr=>
     let x:=s.OG id op
     let s2:=s.fT (jH id 1)
     let s3:Sk:={s2 with g:=(id,x.1)::s2.g}
     (if free pr id 1&&op.all (jH id 1)then []else [bad s])++t.fW K key an out p (s3.n8 x.2) ls d pr
 |.ite c a b,p,s,ls,d,pr=>if s.pv 1 c then a.fW K key an out p (s.ni c) ls d pr else if s.nv 1 c then b.fW K key an out p (s.n7 c) ls d pr
     else match p with
       | []=>a.fW K key an out [] (s.ni c) ls d pr++b.fW K key an out [] (s.n7 c) ls d pr
       |true::p=>a.fW K key an out p (s.ni c) ls d pr
       |false::p=>b.fW K key an out p (s.n7 c) ls d pr
 | .loop id entry tys base body,p,s,ls,d,pr=>match an.loops.find? fun x=>Nat.beq x.1 id&&Nat.beq x.2.1 base with
   |none=>[bad s]
   | some (_,_,v)=>
     let n:=v.as.length
     let s2:=s.fT (jH base n)
     let s3:Sk:={s2 with g:=oU base v.as++s2.g}
     s.tR an.fM entry v.as++(s.asks an.fM (MZ base n entry) v.ex++((if free pr base n then []else [bad s]) ++
       body.fW K key an out p (s3.n8 v.ex) (⟨id,base,v⟩::ls) d (v.names++pr)))
 |.gA x tp t,p,s,ls,d,pr=>
     let s2:=s.fT (jH x 1)
     match p with
     | []=>(if free pr x 1 then []else [bad s])++((if an.er.2<an.er.1 then []else tp.fW K key an out [] {s2 with g:=(x,.i an.er.1 an.er.2)::s2.g} ls d pr)++t.fW K key an out [] s ls (d+1) pr)
     |true::p=>(if free pr x 1 then []else [bad s])++(if an.er.2<an.er.1 then []else tp.fW K key an out p {s2 with g:=(x,.i an.er.1 an.er.2)::s2.g} ls d pr)
     |false::p=>t.fW K key an out p s ls (d+1) pr
 |.pop t,p,s,ls,d,pr=>if d=0 then [bad s]else t.fW K key an out p s ls (d-1) pr
 |t,_,s,ls,d,pr=>t.pM K key an out s ls d pr
variable {K:Nat->Option Cn}{key:FuncId->Nat}{an:An}{out:Cn}
theorem P7:∀(t:aA) (s:Sk) (ls:List Lc) (d:Nat) (pr:List Nat),t.fW K key an out [] s ls d pr=t.pM K key an out s ls d pr:=by
 intro t;induction t with
 |ret bM=>intro s ls d pr;simp only[aA.fW]
 |stuck m=>intro s ls d pr;simp only[aA.fW]
 | ev e t ih=>
   intro s ls d pr;cases e with
   |aH q=>simp only[aA.fW,aA.pM,ih]
   |call f g args res base=>cases hK:K (key f)<;>simp only[aA.fW,aA.pM,ih,hK]
   |b8 id op=>simp only[aA.fW,aA.pM,ih]
   |dO a b=>simp only[aA.fW]
 |ite c a b fz fX=>intro s ls d pr;simp only[aA.fW,aA.pM,fz,fX]
 | loop id entry tys base body ih=>
   intro s ls d pr;cases hL:(an.loops.find? fun x=>Nat.beq x.1 id&&Nat.beq x.2.1 base)<;>simp only[aA.fW,aA.pM,ih,hL]
 |again id bM=>intro s ls d pr;simp only[aA.fW]
 |fail e=>intro s ls d pr;simp only[aA.fW]
 |gA x tp t iht ih=>intro s ls d pr;simp only[aA.fW,aA.pM,iht,ih]
 |pop t ih=>intro s ls d pr;simp only[aA.fW,aA.pM,ih]
theorem fj{α:Type}{a b:List α}:a++b=[]↔a=[]/\b=[]:=List.append_eq_nil_iff
theorem Jh:∀(t:aA) {p:List Bool} {s:Sk} {ls:List Lc} {d:Nat} {pr:List Nat},t.fW K key an out (p++[true]) s ls d pr=[]->t.fW K key an out (p++[false]) s ls d pr=[]->t.fW K key an out p s ls d pr=[]:=by
 intro t;induction t with
 |ret bM=>intro p s ls d pr h1 _;simpa only[aA.fW]using h1
 |stuck m=>intro p s ls d pr h1 _;simpa only[aA.fW]using h1
 | ev e t ih=>
   intro p s ls d pr h1 h2;cases e with
   | aH q=>
     simp only[aA.fW]at h1 h2 ⊢;split at h1;rename_i h;rw[if_pos h]at h2 ⊢;exact ih h1 h2;rename_i h;rw[if_neg h]at h2 ⊢;rw[fj]at h1 h2 ⊢;exact⟨h1.1,ih h1.2 h2.2⟩
   | call f g args res base=>
     cases hK:K (key f);simp only[aA.fW,hK]at h1;cases h1;simp only[aA.fW,hK]at h1 h2 ⊢;have a1:=fj.1 h1;have a2:=fj.1 a1.2;have b2:=fj.1 (fj.1 h2).2;exact fj.2 ⟨a1.1,fj.2 ⟨a2.1,ih a2.2 b2.2⟩⟩
   | b8 id op=>
     simp only[aA.fW]at h1 h2 ⊢;rw[fj]at h1 h2 ⊢;exact⟨h1.1,ih h1.2 h2.2⟩
   |dO a b=>simpa only[aA.fW]using h1
 | ite c a b fz fX=>
   intro p s ls d pr h1 h2;simp only[aA.fW]at h1 h2 ⊢;split at h1;rename_i h;rw[if_pos h]at h2 ⊢;exact fz h1 h2;rename_i h;rw[if_neg h]at h2 ⊢;split at h1;rename_i h;rw[if_pos h]at h2 ⊢;exact fX h1 h2;rename_i h;rw[if_neg h]at h2 ⊢
   match p,h1,h2 with
   | [],h1,h2=>exact fj.2 ⟨h1,h2⟩
   |true::p,h1,h2=>exact fz h1 h2
   |false::p,h1,h2=>exact fX h1 h2
 | loop id entry tys base body ih=>
   intro p s ls d pr h1 h2;cases hL:(an.loops.find? fun x=>Nat.beq x.1 id&&Nat.beq x.2.1 base);simp only[aA.fW,hL]at h1;cases h1;simp only[aA.fW,hL]at h1 h2 ⊢;have a1:=fj.1 h1;have a2:=fj.1 a1.2;have a3:=fj.1 a2.2;have b3:=fj.1 (fj.1 (fj.1 h2).2).2;exact fj.2 ⟨a1.1,fj.2 ⟨a2.1,fj.2 ⟨a3.1,ih a3.2 b3.2⟩⟩⟩
 |again id bM=>intro p s ls d pr h1 _;simpa only[aA.fW]using h1
 |fail e=>intro p s ls d pr h1 _;simpa only[aA.fW]using h1
 | gA x tp t iht ih=>
   intro p s ls d pr h1 h2
   match p,h1,h2 with
   | [],h1,h2=>
     simp only[nM,aA.fW]at h1 h2 ⊢;rw[fj]at h1;exact fj.2 ⟨h1.1,fj.2 ⟨h1.2,h2⟩⟩
   | true::p,h1,h2=>
     simp only[sR,aA.fW]at h1 h2 ⊢;rw[fj]at h1 h2 ⊢;refine⟨h1.1,?_⟩;have a1:=h1.2;have a2:=h2.2;split at a1;rename_i h;rw[if_pos h];rename_i h;rw[if_neg h]at a2 ⊢;exact iht a1 a2
   | false::p,h1,h2=>
     simp only[sR,aA.fW]at h1 h2 ⊢;exact ih h1 h2
 | pop t ih=>
   intro p s ls d pr h1 h2;simp only[aA.fW]at h1 h2 ⊢;split at h1;rename_i h;rw[if_pos h];exact h1;rename_i h;rw[if_neg h]at h2 ⊢;exact ih h1 h2
def M6(P:Program)(r:oe)(K:Nat->Option Cn)(key:FuncId->Nat)(an:An)(out:Cn)(x n:Nat)(p:List Bool):Bool:=
 ((prune (jh (Vx x n) (Uu x [] n)) (xr P r r.aR fun st=>st.fix x n)).fW K key an out p ((sN x (rX out) n).ni (Vx x n)) [] 0 (List.range out.args.length)).isEmpty
theorem gW{P:Program}{r:oe}{x n:Nat}{p:List Bool}(h1:M6 P r K key an out x n (p++[true])=true)(h2:M6 P r K key an out x n (p++[false])=true):M6 P r K key an out x n p=true:=
 List.isEmpty_iff.2 (Jh _ (List.isEmpty_iff.1 h1) (List.isEmpty_iff.1 h2))
def X3(P:Program)(r:oe)(x n:Nat):Bool:=(prune (jh (Vx x n) (Uu x [] n)) (xr P r r.aR fun st=>st.fix x n)).n5 (bP r.s.res)
theorem Ji{P:Program}{r:oe}{x n:Nat}(h:M6 P r K key an out x n []=true)(hr:X3 P r x n=true):DG P r K key an out x n=true:=by
 unfold M6 at h;rw[P7]at h;exact Bool.and_eq_true_iff.2 ⟨h,hr⟩
end
end Go.Sx

/- The range analysis of trees: its soundness. -/
import Derived.Test.YtohebioanhliiaaGreatDoorJA1
import Derived.Test.YtohebioanhliiaaGreatDoorJA2
import Derived.Test.YtohebioanhliiaaGreatDoorJA4
import Derived.Laws.Closers25b
set_option linter.unusedVariables false
set_option linter.unusedSimpArgs false
namespace Go.Sx
def CKb:IntKind->IntKind->Bool:=fun a b=>decide (a=b)
def IE.beq:IE->IE->Bool
 |.v a,.v b=>Nat.beq a b
 |.c a,.c b=>decide (a=b)
 |.add x y,.add z w=>x.beq z&&y.beq w
 |.sub x y,.sub z w=>x.beq z&&y.beq w
 |.mul x y,.mul z w=>x.beq z&&y.beq w
 |.tdiv x y,.tdiv z w=>x.beq z&&y.beq w
 |.tmod x y,.tmod z w=>x.beq z&&y.beq w
 |.ediv a n,.ediv b m=>Nat.beq n m&&a.beq b
 |.emod a n,.emod b m=>Nat.beq n m&&a.beq b
 |.shl x y,.shl z w=>x.beq z&&y.beq w
 |.shr x y,.shr z w=>x.beq z&&y.beq w
 |.wrap k a,.wrap j b=>CKb k j&&a.beq b
 |.max x y,.max z w=>x.beq z&&y.beq w
 |.min x y,.min z w=>x.beq z&&y.beq w
 |.bits o k x y,.bits p j z w=>decide (o=p)&&(CKb k j&&(x.beq z&&y.beq w))
 |.len a,.len b=>Nat.beq a b
 |.get k i j,.get l m n=>Nat.beq k l&&(Nat.beq j n&&i.beq m)
 |.kZ i n x y,.kZ j m z w=>Nat.beq n m&&(i.beq j&&(x.beq z&&y.beq w))
 |_,_=>false
def BE.beq:BE->BE->Bool
 |.v a,.v b=>Nat.beq a b
 |.c a,.c b=>a==b
 |.lt x y,.lt z w=>x.beq z&&y.beq w
 |.le x y,.le z w=>x.beq z&&y.beq w
 |.eq x y,.eq z w=>x.beq z&&y.beq w
 |.not a,.not b=>a.beq b
 |.and x y,.and z w=>x.beq z&&y.beq w
 |.or x y,.or z w=>x.beq z&&y.beq w
 |.iff x y,.iff z w=>x.beq z&&y.beq w
 |.tu a,.tu b=>a.beq b
 |_,_=>false
inductive A where
 |i (lo hi:Int)
 |b
 |l (n0:Int) (n1:Option Int) (cs:List (Int×Int))
 |t
 deriving Inhabited
def cA:List (Int×Int)->Nat->List Int->Prop
 | [],_,_=>True
 |c::cs,j,r=>(c.1<=r.getD j 0/\r.getD j 0<=c.2)/\cA cs (j+1) r
def A.has:A->DV->Prop
 |.i lo hi,.i n=>lo<=n/\n<=hi
 |.b,.b _=>True
 |.l n0 n1 cs,.l xs=>n0<=(xs.length:Int)/\(∀y,n1=some y->(xs.length:Int)<=y)/\∀r∈xs,cA cs 0 r
 |.t,_=>True
 |_,_=>False
def kO:List A->List DV->Prop
 | [],[]=>True
 |a::as,d::ds=>a.has d/\kO as ds
 |_,_=>False
def mn:Int:=-9223372036854775808
def mx:Int:=9223372036854775807
abbrev Lf:=List (Int×IE)×Int
structure Sk where
 g:List (Nat×A)
 q:List Lf
 f:List BE
 deriving Inhabited
def look(k:Nat):List (Nat×A)->Option A
 | []=>none
 |(j,a)::r=>if Nat.beq j k then some a else look k r
def Sk.find(s:Sk)(k:Nat):Option A:=look k s.g
abbrev Rg:=Option Int×Option Int
def o2(f:Int->Int->Int):Option Int->Option Int->Option Int
 |some a,some b=>some (f a b)
 |_,_=>none
def OP(x y z w:Int):Int×Int:=(min (min x y) (min z w),max (max x y) (max z w))
def mulR(a b:Rg):Rg:=match a,b with
 |(some x,some y),(some z,some w)=>(some (OP (x*z) (x*w) (y*z) (y*w)).1,some (OP (x*z) (x*w) (y*z) (y*w)).2)
 |(some x,_),(some z,_)=>if 0<=x/\0<=z then(some (x*z),none)else(none,none)
 |_,_=>(none,none)
def sqR(a:Rg):Rg:=match a with
 |(some x,some y)=>(some (if 0<=x then x*x else if y<=0 then y*y else 0),some (max (x*x) (y*y)))
 |_=>(some 0,none)
def Mc(a:Rg):Rg:=match a with
 |(some x,some y)=>(some (-(max (-x) y)),some (max (-x) y))
 |_=>(none,none)
def OQ(a b:Rg):Rg:=match a,b with
 |(some x,some y),(some z,_)=>if 1<=z then(some (if 0<=x then 0 else -((-x)/z)),some (if y<=0 then 0 else y/z))else Mc a
 |_,_=>Mc a
def OR(a b:Rg):Rg:=match a,b with
 |(some x,some y),(some z,some w)=>if 1<=z then(some (if 0<=x then 0 else max x (1-w)),some (if y<=0 then 0 else min y (w-1)))else Mc a
 |_,_=>Mc a
def YQ(a b:Rg):Rg:=match b with
 |(some z,some w)=>if 0<=z/\w<=128 then mulR a (some (2 ^ z.toNat),some (2 ^ w.toNat))else(none,none)
 |_=>(none,none)
def YR(a b:Rg):Rg:=match a,b with
 |(some x,some y),(some z,some w)=>if 0<=z/\w<=128 then(some (min (x/2 ^ z.toNat) (x/2 ^ w.toNat)),some (max (y/2 ^ z.toNat) (y/2 ^ w.toNat)))else(some (min x 0),some (max y 0))
 |(some x,some y),_=>(some (min x 0),some (max y 0))
 |_,_=>(none,none)
def OS(k:IntKind)(a:Rg):Rg:=match a with
 |(some x,some y)=>if k.min<=x/\y<=k.max then(some x,some y)else(some k.min,some k.max)
 |_=>(some k.min,some k.max)
def WW(a b:Rg):Rg:=(o2 min a.1 b.1,o2 max a.2 b.2)
def Sk.acg(s:Sk)(i:IE)(k:Nat)(r:Rg)(n0:Int):Bool:=(match r.1 with
 |some x=>decide (0<=x)
 |none=>false)&&((match r.2 with
 |some y=>decide (y<n0)
 |none=>false)||(match i with
 |.sub (.len j) (.c m)=>Nat.beq j k&&decide (1<=m)
 |_=>false)||s.f.any fun p=>p.beq (.lt i (.len k)))
def Uu(a b:Rg):Rg:=(o2 min a.1 b.1,match a.2,b.2 with
 |some x,some y=>some (min x y)
 |some x,none=>some x
 |none,y=>y)
def OT(a b:Rg):Rg:=((match a.1,b.1 with
 |some x,some y=>some (max x y)
 |some x,none=>some x
 |none,y=>y),o2 max a.2 b.2)
def IE.isC:IE->Option Int
 |.c n=>some n
 |_=>none
def Sk.iv(s:Sk):IE->Rg
 | .v k=>match s.find k with
   |some (.i lo hi)=>(some lo,some hi)
   |_=>(none,none)
 |.c n=>(some n,some n)
 |.add a b=>(o2 (· + ·) (s.iv a).1 (s.iv b).1,o2 (· + ·) (s.iv a).2 (s.iv b).2)
 |.sub a b=>(o2 (· - ·) (s.iv a).1 (s.iv b).2,o2 (· - ·) (s.iv a).2 (s.iv b).1)
 |.mul a b=>if a.beq b then sqR (s.iv a)else mulR (s.iv a) (s.iv b)
 |.tdiv a b=>OQ (s.iv a) (s.iv b)
 |.tmod a b=>OR (s.iv a) (s.iv b)
 |.ediv a n=>if Nat.beq n 0 then(none,none)else((s.iv a).1.map (· / (n:Int)),(s.iv a).2.map (· / (n:Int)))
 | .emod a n=>if Nat.beq n 0 then(none,none)else match s.iv a with
   |(some x,some y)=>if 0<=x/\y<(n:Int)then(some x,some y)else(some 0,some ((n:Int)-1))
   |_=>(some 0,some ((n:Int)-1))
 |.shl a b=>YQ (s.iv a) (s.iv b)
 |.shr a b=>YR (s.iv a) (s.iv b)
 |.wrap k a=>OS k (s.iv a)
 |.max a b=>OT (s.iv a) (s.iv b)
 |.min a b=>Uu (s.iv a) (s.iv b)
 |.bits _ k _ _=>(some k.min,some k.max)
 | .len k=>match s.find k with
   |some (.l n0 n1 _)=>(some (max n0 0),n1)
   |_=>(some 0,none)
 | .get k i j=>match s.find k with
   | some (.l n0 _ cs)=>match cs[j]? with
     |some (x,y)=>if s.acg i k (s.iv i) n0 then(some x,some y)else(some (min x 0),some (max y 0))
     |none=>(none,none)
   |_=>(none,none)
 |.kZ i n a b=>WW (s.iv a) (s.iv b)
def Md(c:Int)(e:IE):List (Int×IE)->List (Int×IE)
 | []=>[(c,e)]
 |(d,x)::r=>if e.beq x then(if d+c=0 then r else(d+c,x)::r)else(d,x)::Md c e r
def OU(c:Int)(a b:List (Int×IE)):List (Int×IE):=a.foldr (fun t r=>Md (c*t.1) t.2 r) b
def Lf.plus(c:Int)(a b:Lf):Lf:=(OU c a.1 b.1,c*a.2+b.2)
def within(k:IntKind)(a:Rg):Bool:=match a with
 |(some x,some y)=>decide (k.min<=x/\y<=k.max)
 |_=>false
def Sk.tN(s:Sk):IE->Lf
 |.c n=>([],n)
 |.add a b=>Lf.plus 1 (s.tN a) (s.tN b)
 |.sub a b=>Lf.plus (-1) (s.tN b) (s.tN a)
 | .mul a b=>match a.isC,b.isC with
   |some n,_=>Lf.plus n (s.tN b) ([],0)
   |_,some n=>Lf.plus n (s.tN a) ([],0)
   |_,_=>([(1,.mul a b)],0)
 |.wrap k a=>if within k (s.iv a)then s.tN a else([(1,.wrap k a)],0)
 |e=>([(1,e)],0)
def Sk.low(s:Sk):List (Int×IE)->Option Int
 | []=>some 0
 | (c,e)::r=>match s.low r,(if 0<=c then(s.iv e).1 else(s.iv e).2)with
   |some x,some y=>some (x+c*y)
   |_,_=>none
def Sk.vi(s:Sk)(l:Lf):Bool:=match s.low l.1 with
 |some x=>decide (0<=x+l.2)
 |none=>false
def shares(a b:List (Int×IE)):Option Int:=a.findSome? fun x=>b.findSome? fun y=>if decide (0<x.1*y.1)&&x.2.beq y.2 then some ((if 1<=y.1/x.1 then y.1/x.1 else 1))else none
def Sk.fork(s:Sk)(l:Lf):List (Int×IE)->Option (Nat×Lf×Lf)
 | []=>none
 |(c,.max a b)::r=>some (if c<0 then 1 else 0,Lf.plus c (s.tN a) (Lf.plus (-c) ([(1,.max a b)],0) l),Lf.plus c (s.tN b) (Lf.plus (-c) ([(1,.max a b)],0) l))
 |(c,.min a b)::r=>some (if 0<c then 1 else 0,Lf.plus c (s.tN a) (Lf.plus (-c) ([(1,.min a b)],0) l),Lf.plus c (s.tN b) (Lf.plus (-c) ([(1,.min a b)],0) l))
 |(c,.kZ i n a b)::r=>some (2,Lf.plus c (s.tN a) (Lf.plus (-c) ([(1,.kZ i n a b)],0) l),Lf.plus c (s.tN b) (Lf.plus (-c) ([(1,.kZ i n a b)],0) l))
 |_::r=>s.fork l r
def Sk.by(s:Sk):Nat->Lf->Bool
 |0,l=>s.vi l
 | d+1,l=>s.vi l||(s.q.any fun h=>match shares h.1 l.1 with
   |some m=>s.by d (Lf.plus (-m) h l)
   |none=>false)||match s.fork l l.1 with
   |some (0,x,y)=>s.by d x||s.by d y
   |some (_,x,y)=>s.by d x&&s.by d y
   |none=>false
def Sk.diff(s:Sk)(a b:IE):Lf:=Lf.plus (-1) (s.tN a) (s.tN b)
def Sk.iM(s:Sk)(p:BE):Bool:=s.f.any fun x=>x.beq p
mutual
def Sk.pv(s:Sk)(d:Nat):BE->Bool
 |.c x=>x||s.by d ([],-1)
 |.v k=>s.iM (.v k)
 |.lt a b=>s.by d (Lf.plus 1 (s.diff a b) ([],-1))
 |.le a b=>s.by d (s.diff a b)
 |.eq a b=>a.beq b||(s.by d (s.diff a b)&&s.by d (s.diff b a))||s.iM (.eq a b)
 |.not a=>s.nv d a
 |.and a b=>s.pv d a&&s.pv d b
 |.or a b=>s.pv d a||s.pv d b||s.iM (.or a b)
 |.iff a b=>a.beq b||(s.pv d a&&s.pv d b)||(s.nv d a&&s.nv d b)||s.iM (.iff a b)
 |.tu a=>s.by d (Lf.plus 1 (s.tN a) ([],-1))||s.by d (Lf.plus (-1) (s.tN a) ([],-1))||s.iM (.tu a)
def Sk.nv(s:Sk)(d:Nat):BE->Bool
 |.c x=>!x||s.by d ([],-1)
 |.v k=>s.iM (.not (.v k))
 |.lt a b=>s.by d (s.diff b a)
 |.le a b=>s.by d (Lf.plus 1 (s.diff b a) ([],-1))
 |.eq a b=>s.by d (Lf.plus 1 (s.diff a b) ([],-1))||s.by d (Lf.plus 1 (s.diff b a) ([],-1))||s.iM (.not (.eq a b))
 |.not a=>s.pv d a
 |.and a b=>s.nv d a||s.nv d b||s.iM (.not (.and a b))
 |.or a b=>s.nv d a&&s.nv d b
 |.iff a b=>(s.pv d a&&s.nv d b)||(s.nv d a&&s.pv d b)
 |.tu a=>s.by d (s.tN a)&&s.by d (Lf.plus (-1) (s.tN a) ([],0))
end
def En(k:Nat)(a:A):List (Nat×A)->List (Nat×A)
 | []=>[]
 |(j,x)::r=>if Nat.beq j k then(j,a)::r else(j,x)::En k a r
def cdiv(a b:Int):Int:=-((-a)/b)
def Sk.bound(s:Sk)(l:Lf)(c:Int)(e:IE):List (Nat×A):=
 match s.low ((Lf.plus (-1) l ([(c,e)],0)).1)with
 |none=>s.g
 | some nr=>
   let m:=nr+((-1)*l.2+0)
   match e with
   | .v k=>match s.find k with
     |some (.i lo hi)=>if 0<c then En k (.i (max lo (cdiv m c)) hi) s.g else if c<0 then En k (.i lo (min hi ((-m)/(-c)))) s.g else s.g
     |_=>s.g
   | .len k=>match s.find k with
     | some (.l n0 n1 cs)=>if 0<c then En k (.l (max n0 (cdiv m c)) n1 cs) s.g else if c<0 then En k (.l n0 (some (match n1 with
       |some y=>min y ((-m)/(-c))
       |none=>(-m)/(-c))) cs) s.g else s.g
     |_=>s.g
   |_=>s.g
def WX:List (Int×IE)->List (Int×IE)->Bool
 | [],[]=>true
 |x::xs,y::ys=>decide (x.1=y.1)&&(x.2.beq y.2&&WX xs ys)
 |_,_=>false
def Sk.sY(s:Sk)(l:Lf):Sk:=
 if s.vi l||s.q.any (fun h=>decide (h.2<=l.2)&&WX h.1 l.1)then s else
 let s':=l.1.foldr (fun t s=>{s with g:=s.bound l t.1 t.2}) s
 {s' with q:=l::s'.q}
def Sk.sZ(s:Sk):Nat->Lf->Sk
 |0,l=>s.sY l
 | n+1,l=>match s.fork l l.1 with
   |some (1,x,y)=>Sk.sZ (Sk.sZ (s.sY l) n x) n y
   |_=>s.sY l
def Sk.eX(s:Sk)(l:Lf):Sk:=s.sZ 2 l
def WY(a:Rg):Bool:=match a with
 |(some x,some y)=>decide (mn<=x/\y<=mx)
 |_=>false
def leI(a:Rg)(n:Int):Bool:=match a.2 with
 |some y=>decide (y<=n)
 |none=>false
def Sk.n5(s:Sk)(a b:IE)(st:Int):Sk:=match a with
 |.wrap .u64 x=>if WY (s.iv x)&&leI (s.iv b) (mx+st)then(s.eX (s.tN x)).eX (Lf.plus 1 (s.diff x b) ([],-st))else s
 |_=>s
def Sk.fact(s:Sk)(p:BE):Sk:=if s.iM p then s else {s with f:=p::s.f}
mutual
def Sk.add(s:Sk):BE->Sk
 |.c true=>s
 | .lt a b=>(match b with
   |.len k=>Sk.fact (Sk.n5 (s.eX (Lf.plus 1 (s.diff a b) ([],-1))) a b 1) (.lt a b)
   |_=>Sk.n5 (s.eX (Lf.plus 1 (s.diff a b) ([],-1))) a b 1)
 |.le a b=>Sk.n5 (s.eX (s.diff a b)) a b 0
 |.eq a b=>(s.eX (s.diff a b)).eX (s.diff b a)
 |.not a=>s.sub a
 |.and a b=>Sk.add (Sk.add s a) b
 |.or a b=>if s.nv 1 a then s.add b else if s.nv 1 b then s.add a else s.fact (.or a b)
 |.iff a b=>if s.pv 1 a then s.add b else if s.pv 1 b then s.add a else if s.nv 1 a then s.sub b else if s.nv 1 b then s.sub a else s.fact (.iff a b)
 |p=>s.fact p
def Sk.sub(s:Sk):BE->Sk
 |.c false=>s
 |.lt a b=>Sk.n5 (s.eX (s.diff b a)) b a 0
 |.le a b=>Sk.n5 (s.eX (Lf.plus 1 (s.diff b a) ([],-1))) b a 1
 |.eq a b=>if s.by 1 (s.diff a b)then s.eX (Lf.plus 1 (s.diff a b) ([],-1))else if s.by 1 (s.diff b a)then s.eX (Lf.plus 1 (s.diff b a) ([],-1))else s.fact (.not (.eq a b))
 |.not a=>s.add a
 |.and a b=>if s.pv 1 a then s.sub b else if s.pv 1 b then s.sub a else s.fact (.not (.and a b))
 |.or a b=>Sk.sub (Sk.sub s a) b
 |.iff a b=>if s.pv 1 a then s.sub b else if s.pv 1 b then s.sub a else if s.nv 1 a then s.add b else if s.nv 1 b then s.add a else s.fact (.not (.iff a b))
 |.tu a=>(s.eX (s.tN a)).eX (Lf.plus (-1) (s.tN a) ([],0))
 |p=>s.fact (.not p)
end
def Sk.s5(s:Sk):List BE->Sk
 | []=>s
 |.or a b::r=>Sk.s5 (if s.nv 1 a then s.add b else if s.nv 1 b then s.add a else s) r
 |.not (.and a b)::r=>Sk.s5 (if s.pv 1 a then s.sub b else if s.pv 1 b then s.sub a else s) r
 |.iff a b::r=>Sk.s5 (if s.pv 1 a then s.add b else if s.nv 1 a then s.sub b else if s.pv 1 b then s.add a else if s.nv 1 b then s.sub a else s) r
 |.not (.eq a b)::r=>Sk.s5 (s.sub (.eq a b)) r
 |_::r=>Sk.s5 s r
def Sk.again(s:Sk):List Lf->Sk
 | []=>s
 |l::r=>Sk.again (l.1.foldr (fun t s=>{s with g:=s.bound l t.1 t.2}) s) r
def Sk.agq(s:Sk):BE->Bool
 |.or a b=>s.pv 0 a||s.pv 0 b
 |.not (.and a b)=>s.nv 0 a||s.nv 0 b
 |.not (.eq a b)=>s.vi (Lf.plus 1 (s.diff a b) ([],-1))||s.vi (Lf.plus 1 (s.diff b a) ([],-1))
 |_=>false
def Sk.tidy(s:Sk):Sk:={s with f:=s.f.filter fun p=>!s.agq p}
def Sk.close(s:Sk):Sk:=let s':=s.s5 s.f;(s'.again (s'.q.take 24)).tidy
def Sk.ug(s:Sk)(p:BE):Sk:=(s.add p).close
def Sk.nc(s:Sk)(p:BE):Sk:=(s.sub p).close
def Lf.all(p:Nat->Bool)(l:Lf):Bool:=l.1.all fun t=>t.2.all p
def Sk.gF(s:Sk)(p:Nat->Bool):Sk:=⟨s.g.filter fun x=>p x.1,s.q.filter (Lf.all p),s.f.filter (BE.all p)⟩
def jk(base n:Nat):Nat->Bool:=fun k=>Nat.blt k base||Nat.ble (base+n) k
def ig:List (Int×Int)->List (Int×Int)->List (Int×Int)
 |c::cs,d::ds=>(min c.1 d.1,max c.2 d.2)::ig cs ds
 |_,_=>[]
def OV:Option Int->Bool
 |some y=>decide (y<=0)
 |none=>false
def A.AG:A->A->A
 |.i x y,.i z w=>.i (min x z) (max y w)
 |.b,.b=>.b
 |.l x y u,.l z w v=>.l (min x z) (o2 max y w) (if OV y then v else if OV w then u else ig u v)
 |_,_=>.t
def Eo:List Rg->List (Int×Int)
 |(some x,some y)::r=>(x,y)::Eo r
 |_=>[]
def Sk.yD(s:Sk):Sum IE BE->Rg
 |.inl e=>s.iv e
 |.inr _=>(some 0,some 1)
def JK:List (List (Int×Int))->List (Int×Int)
 | []=>[]
 | [c]=>c
 |c::cs=>ig c (JK cs)
def Sk.de(s:Sk):DE->A
 | .i e=>match s.iv e with
   |(some x,some y)=>.i x y
   |_=>.t
 |.b _=>.b
 | .l k=>match s.find k with
   |some (.l a b c)=>.l a b c
   |_=>.l 0 none []
 |.nil=>.l 0 (some 0) []
 |.rows es=>.l es.length (some es.length) (JK (es.map fun e=>Eo [s.iv e]))
 |.uV xs=>.l 1 (some 1) (Eo (xs.map s.yD))
def AH:List (Int×Int)->List (Int×Int)->Bool
 |_,[]=>true
 |c::cs,d::ds=>decide (d.1<=c.1)&&(decide (c.2<=d.2)&&AH cs ds)
 | [],_::_=>false
def DE.OW:DE->Option IE
 |.l k=>some (.len k)
 |.nil=>some (.c 0)
 |.rows es=>some (.c es.length)
 |.uV _=>some (.c 1)
 |_=>none
def Sk.fits(s:Sk)(d:DE):A->Bool
 |.t=>true
 | .i lo hi=>match d with
   |.i e=>s.pv 2 (.le (.c lo) e)&&s.pv 2 (.le e (.c hi))
   |_=>false
 | .b=>match d with
   |.b _=>true
   |_=>false
 | .l n0 n1 cs=>match d.OW,s.de d with
   | some n,.l a b c=>(decide (n0<=a)||s.pv 3 (.le (.c n0) n))&&(match n1 with
     |none=>true
     |some y=>s.pv 3 (.le n (.c y)))&&(AH c cs||(match b with
     |some z=>decide (z<=0)
     |none=>false))
   |_,_=>false
def Sk.mN(s:Sk):List DE->List A->Bool
 | [],[]=>true
 |d::ds,a::as=>s.fits d a&&s.mN ds as
 |_,_=>false
def Ep(cs:List (Int×Int))(j:Nat)(x:Rg):List (Int×Int):=match cs,j with
 | [],_=>[]
 | c::cs,0=>match x with
   |(some a,some b)=>(min c.1 a,max c.2 b)::cs
   |_=>[]
 |c::cs,j+1=>c::Ep cs j x
def Gg(cs:List (Int×Int))(j:Nat):List Rg->List (Int×Int)
 | []=>cs
 |x::xs=>Gg (Ep cs j x) (j+1) xs
def Sk.jv(s:Sk)(k:Nat):Int×Option Int×List (Int×Int):=match s.find k with
 |some (.l a b c)=>(a,b,c)
 |_=>(0,none,[])
def xA(x:Int×Option Int×List (Int×Int)):Bool:=match x.2.1 with
 |some y=>decide (y<=0)
 |none=>false
def xB(id:Nat):List (Sum IE BE)->Nat->List BE
 | [],_=>[]
 |.inl e::r,j=>.eq (.get id (.c 0) j) e::xB id r (j+1)
 |.inr _::r,j=>xB id r (j+1)
def Sk.NW(s:Sk)(id:Nat):cU->A×List BE
 | .lit rows=>(.l rows.length (some rows.length) (JK (rows.map fun r=>Eo (r.map s.yD))),match rows with
   |r::rs=>if rs.length<=1/\r.length<=2 then xB id r 0 else []
   | []=>[])
 | .app a b=>let x:=s.jv a;let y:=s.jv b
   (.l (x.1+y.1) (o2 (· + ·) x.2.1 y.2.1) (if xA x then y.2.2 else if xA y then x.2.2 else ig x.2.2 y.2.2),.eq (.len id) (.add (.len a) (.len b))::if 1<=x.1/\x.2.2.length<=2 then(List.range x.2.2.length).map fun j=>.eq (.get id (.c 0) j) (.get a (.c 0) j)else [])
 | .set a i j x=>let y:=s.jv a
   (.l y.1 y.2.1 (Ep y.2.2 j (s.yD x)),[.eq (.len id) (.len a)])
 | .zM a i xs=>let y:=s.jv a
   (.l y.1 y.2.1 (ig y.2.2 (Eo (xs.map s.yD))),[.eq (.len id) (.len a)])
 | .BG a i j xs=>let y:=s.jv a
   (.l y.1 y.2.1 (Gg y.2.2 j (xs.map s.yD)),[.eq (.len id) (.len a)])
 | .take a n=>let y:=s.jv a
   (.l 0 (Uu (none,y.2.1) (OT (s.iv n) (some 0,some 0))).2 y.2.2,if s.pv 2 (.le n (.len a))&&s.pv 2 (.le (.c 0) n)then [.eq (.len id) n]else [])
 |.rep n row=>(.l 0 (OT (s.iv n) (some 0,some 0)).2 (row.map fun x=>(x,x)),if s.pv 2 (.le (.c 0) n)then [.eq (.len id) n]else [])
 |.cp a=>let y:=s.jv a;(.l y.1 y.2.1 y.2.2,[.eq (.len id) (.len a)])
 | .Nc a b=>let x:=s.jv a;let y:=s.jv b
   (.l x.1 x.2.1 (if xA x then y.2.2 else if xA y then x.2.2 else ig x.2.2 y.2.2),[.eq (.len id) (.len a)])
 | .sub a _ _ j=>(.l 0 (match(s.jv a).2.2[j]? with
   |some c=>some (max c.2 0)
   |none=>none) [],[])
 |.BL rows=>(.l rows.length (some rows.length) [],[])
def DE.asI:DE->Option IE
 |.i e=>some e
 |_=>none
def DE.asB:DE->Option BE
 |.b e=>some e
 |_=>none
def DE.asL:DE->Option Nat
 |.l k=>some k
 |_=>none
inductive Sb where
 |nm (k:Nat)
 |de (d:DE)
 |no
def Sb.int:Sb->Option IE
 |.nm k=>some (.v k)
 |.de d=>d.asI
 |.no=>none
def Sb.bool:Sb->Option BE
 |.nm k=>some (.v k)
 |.de d=>d.asB
 |.no=>none
def Sb.len:Sb->Option IE
 |.nm k=>some (.len k)
 |.de d=>d.OW
 |.no=>none
def Sb.list:Sb->Option Nat
 |.nm k=>some k
 |.de d=>d.asL
 |.no=>none
def Sb.cell:Sb->Option Int->Nat->Option IE
 |.de .nil,_,_=>some (.c 0)
 |.de (.rows es),some m,0=>if 0<=m then es[m.toNat]? else none
 | .de (.uV xs),some 0,j=>match xs[j]? with
   |some (.inl e)=>some e
   |_=>none
 |_,_,_=>none
def p2{α β γ:Type}(f:α->β->γ):Option α->Option β->Option γ
 |some a,some b=>some (f a b)
 |_,_=>none
def p1{α β:Type}(f:α->β):Option α->Option β
 |some a=>some (f a)
 |none=>none
def IE.put(σ:Nat->Sb):IE->Option IE
 |.v k=>(σ k).int
 |.c n=>some (.c n)
 |.add a b=>p2 .add (a.put σ) (b.put σ)
 |.sub a b=>p2 .sub (a.put σ) (b.put σ)
 |.mul a b=>p2 .mul (a.put σ) (b.put σ)
 |.tdiv a b=>p2 .tdiv (a.put σ) (b.put σ)
 |.tmod a b=>p2 .tmod (a.put σ) (b.put σ)
 |.ediv a n=>p1 (.ediv · n) (a.put σ)
 |.emod a n=>p1 (.emod · n) (a.put σ)
 |.shl a b=>p2 .shl (a.put σ) (b.put σ)
 |.shr a b=>p2 .shr (a.put σ) (b.put σ)
 |.wrap k a=>p1 (.wrap k) (a.put σ)
 |.max a b=>p2 .max (a.put σ) (b.put σ)
 |.min a b=>p2 .min (a.put σ) (b.put σ)
 |.bits o k a b=>p2 (.bits o k) (a.put σ) (b.put σ)
 |.len k=>(σ k).len
 | .get k i j=>match(σ k).cell i.isC j with
   |some e=>some e
   |none=>p2 (fun l i=>.get l i j) (σ k).list (i.put σ)
 |.kZ i n a b=>p2 (fun i x=>.kZ i n x.1 x.2) (i.put σ) (p2 Prod.mk (a.put σ) (b.put σ))
def BE.put(σ:Nat->Sb):BE->Option BE
 |.v k=>(σ k).bool
 |.c x=>some (.c x)
 |.lt a b=>p2 .lt (a.put σ) (b.put σ)
 |.le a b=>p2 .le (a.put σ) (b.put σ)
 |.eq a b=>p2 .eq (a.put σ) (b.put σ)
 |.not a=>p1 .not (a.put σ)
 |.and a b=>p2 .and (a.put σ) (b.put σ)
 |.or a b=>p2 .or (a.put σ) (b.put σ)
 |.iff a b=>p2 .iff (a.put σ) (b.put σ)
 |.tu a=>p1 .tu (a.put σ)
def R0:Nat:=1000000
structure Cn where
 args:List A
 pre:List BE
 res:List A
 post:List BE
 deriving Inhabited
structure Iv where
 as:List A
 ex:List BE
 me:IE
 deriving Inhabited
structure Lc where
 id:Nat
 base:Nat
 iv:Iv
structure An where
 loops:List (Nat×Nat×Iv)
 fk:List (List BE×BE)
 er:Int×Int:=(mn,mx)
def IE.names:IE->List Nat
 |.v k=>[k]
 |.c _=>[]
 |.add a b=>a.names++b.names
 |.sub a b=>a.names++b.names
 |.mul a b=>a.names++b.names
 |.tdiv a b=>a.names++b.names
 |.tmod a b=>a.names++b.names
 |.ediv a _=>a.names
 |.emod a _=>a.names
 |.shl a b=>a.names++b.names
 |.shr a b=>a.names++b.names
 |.wrap _ a=>a.names
 |.max a b=>a.names++b.names
 |.min a b=>a.names++b.names
 |.bits _ _ a b=>a.names++b.names
 |.len k=>[k]
 |.get k i _=>k::i.names
 |.kZ i _ a b=>i.names++a.names++b.names
def BE.names:BE->List Nat
 |.v k=>[k]
 |.c _=>[]
 |.lt a b=>a.names++b.names
 |.le a b=>a.names++b.names
 |.eq a b=>a.names++b.names
 |.not a=>a.names
 |.and a b=>a.names++b.names
 |.or a b=>a.names++b.names
 |.iff a b=>a.names++b.names
 |.tu a=>a.names
def Iv.names(v:Iv):List Nat:=v.me.names++v.ex.flatMap BE.names
abbrev Vc:=Sk×BE
def Sk.OX(s:Sk)(d:Nat):Bool:=s.q.any fun h=>s.by d (Lf.plus (-1) h ([],-1))
def Sk.pw(s:Sk)(d:Nat):BE->Bool
 |.and a b=>s.pw d a&&s.pw d b
 |.or a b=>s.pv d (.or a b)||(s.nc a).close.pw d b
 |p=>s.pv d p||s.OX 1
def Sk.so(s:Sk)(fk:List (List BE×BE))(p:BE):Bool:=s.pw 2 p||(fk.any fun l=>l.1.all (s.pv 3)&&(s.ug l.2).pw 3 p)||s.pw 3 p
def Sk.ask(s:Sk)(fk:List (List BE×BE))(p:BE):List Vc:=if s.so fk p then []else [(s,p)]
def bad(s:Sk):Vc:=(s,.c false)
def Sk.H8(s:Sk)(fk:List (List BE×BE))(d:DE):A->List Vc
 | .i lo hi=>match d with
   |.i e=>s.ask fk (.le (.c lo) e)++s.ask fk (.le e (.c hi))
   |_=>[bad s]
 |a=>if s.fits d a then []else [bad s]
def Sk.s6(s:Sk)(fk:List (List BE×BE)):List DE->List A->List Vc
 | [],[]=>[]
 |d::ds,a::as=>s.H8 fk d a++s.s6 fk ds as
 |_,_=>[bad s]
def Sk.asks(s:Sk)(fk:List (List BE×BE))(σ:Nat->Sb)(ps:List BE):List Vc:=ps.flatMap fun p=>match p.put σ with
 |some p'=>s.ask fk p'
 |none=>[bad s]
def n7(base:Nat):List A->List (Nat×A)
 | []=>[]
 |a::as=>(base,a)::n7 (base+1) as
def Ca:A->A
 |.i _ _=>.i 0 0
 |.b=>.b
 |.l _ _ _=>.l 0 (some 0) []
 |.t=>.t
def qW:List CT->List A->Bool
 | [],[]=>true
 | c::cs,a::as=>(match c,a with
   |_,.t=>true
   |.c (.i _),.i _ _=>true
   |.c .f,.i _ _=>true
   |.c .b,.b=>true
   |.s _ _,.l _ _ _=>true
   |.n _ _,.l _ _ _=>true
   |_,_=>false)&&qW cs as
 |_,_=>false
def Me(base n:Nat)(bG:List DE)(k:Nat):Sb:=if Nat.ble base k&&Nat.blt k (base+n)then(match bG[k-base]? with
 |some d=>.de d
 |none=>.no)else .nm k
def s7(args:List DE)(m base:Nat)(k:Nat):Sb:=if Nat.blt k args.length then(match args[k]? with
 |some d=>.de d
 |none=>.no)else if Nat.ble R0 k&&Nat.blt k (R0+m)then .nm (base+(k-R0))else .no
def OY(n:Nat)(bG:List DE)(k:Nat):Sb:=if Nat.blt k n then .nm k else if Nat.ble R0 k then(match bG[k-R0]? with
 |some d=>.de d
 |none=>.no)else .no
def Sk.nd(s:Sk):List BE->Sk
 | []=>s
 |p::ps=>Sk.nd (s.ug p) ps
def free(agr:List Nat)(base n:Nat):Bool:=agr.all (jk base n)
def DE.off(base n:Nat):DE->Bool
 |.i e=>e.all (jk base n)
 |.b e=>e.all (jk base n)
 |.l k=>jk base n k
 |.nil=>true
 |.rows es=>es.all (IE.all (jk base n))
 |.uV xs=>xs.all (jd (jk base n))
def au.oJ(K:Nat->Option Cn)(key:FuncId->Nat)(an:An)(out:Cn):au->Sk->List Lc->Nat->List Nat->List Vc
 |.ret bG,s,_,_,_=>s.s6 an.fk bG out.res++s.asks an.fk (OY out.args.length bG) out.post
 |.stuck _,s,_,_,_=>s.ask an.fk (.c false)
 |.ev (.aG p) t,s,ls,d,pr=>if s.pv 0 p then t.oJ K key an out s ls d pr else s.ask an.fk p++t.oJ K key an out (s.ug p) ls d pr
 | .ev (.call f g args res base) t,s,ls,d,pr=>match K (key f)with
   |none=>[bad s]
   | some c=>
     let m:=c.res.length
     let s1:=s.ug g
     let vs:=s1.s6 an.fk args c.args++s1.asks an.fk (s7 args 0 base) c.pre
     let ok:=free pr base m&&(args.all (DE.off base m)&&(g.all (jk base m)&&(qW (bI res) c.res&&Nat.blt args.length R0)))
     let s2:=s.gF (jk base m)
     let σ:=s7 args m base
     let s3:Sk:={s2 with g:=n7 base (if g.beq (.c true)then c.res else c.res.map fun a=>a.AG (Ca a))++s2.g}
     let s4:=s3.nd (c.post.filterMap fun p=>(p.put σ).map fun p'=>if g.beq (.c true)then p' else .or (.not g) p')
     vs++((if ok then []else [bad s])++t.oJ K key an out s4 ls d pr)
 |.ev (.bW id op) t,s,ls,d,pr=>
     let x:=s.NW id op
     let s2:=s.gF (jk id 1)
     let s3:Sk:={s2 with g:=(id,x.1)::s2.g}
     (if free pr id 1&&op.all (jk id 1)then []else [bad s])++t.oJ K key an out (s3.nd x.2) ls d pr
 |.ev (.du _ _) _,s,_,_,_=>[bad s]
 |.ite c a b,s,ls,d,pr=>if s.pv 1 c then a.oJ K key an out (s.ug c) ls d pr else if s.nv 1 c then b.oJ K key an out (s.nc c) ls d pr
     else a.oJ K key an out (s.ug c) ls d pr++b.oJ K key an out (s.nc c) ls d pr
 | .loop id entry _ base body,s,ls,d,pr=>match an.loops.find? fun x=>Nat.beq x.1 id&&Nat.beq x.2.1 base with
   |none=>[bad s]
   | some (_,_,v)=>
     let n:=v.as.length
     let s2:=s.gF (jk base n)
     let s3:Sk:={s2 with g:=n7 base v.as++s2.g}
     s.s6 an.fk entry v.as++(s.asks an.fk (Me base n entry) v.ex++((if free pr base n then []else [bad s]) ++
       body.oJ K key an out (s3.nd v.ex) (⟨id,base,v⟩::ls) d (v.names++pr)))
 | .again id bG,s,ls,_,_=>match ls.find? fun l=>Nat.beq l.id id with
   |none=>[bad s]
   | some l=>
     let σ:=Me l.base l.iv.as.length bG
     s.s6 an.fk bG l.iv.as++(s.asks an.fk σ l.iv.ex++(s.ask an.fk (.lt (.c 0) l.iv.me)++match l.iv.me.put σ with
       |some me=>s.ask an.fk (.lt me l.iv.me)
       |none=>[bad s]))
 |.fail e,s,_,d,_=>if d=0 then [bad s]else s.ask an.fk (.le (.c an.er.1) e)++s.ask an.fk (.le e (.c an.er.2))
 |.fz x tp t,s,ls,d,pr=>
     let s2:=s.gF (jk x 1)
     (if free pr x 1 then []else [bad s])++((if an.er.2<an.er.1 then []else tp.oJ K key an out {s2 with g:=(x,.i an.er.1 an.er.2)::s2.g} ls d pr)++t.oJ K key an out s ls (d+1) pr)
 |.pop t,s,ls,d,pr=>if d=0 then [bad s]else t.oJ K key an out s ls (d-1) pr
def qX(c:Cn):Sk:=Sk.nd {g:=n7 0 c.args,q:=[],f:=[] } c.pre
def yF(K:Nat->Option Cn)(key:FuncId->Nat)(an:An)(out:Cn)(t:au):List Vc:=t.oJ K key an out (qX out) [] 0 (List.range out.args.length)
end Go.Sx
namespace Go.Sx
def ckA:CK->Int×Int
 |.i k=>(k.min,k.max)
 |.b=>(0,1)
 |.f=>(0,18446744073709551615)
def ctA:CT->A
 |.c (.i k)=>.i k.min k.max
 |.c .b=>.b
 |.c .f=>.i 0 18446744073709551615
 |.s _ ks=>.l 0 none (ks.map ckA)
 |.n _ _=>.l 0 none []
def ach(s:bR):Cn:=⟨(bI s.args).map ctA,[],(bI s.res).map ctA,[]⟩
theorem xC{a b:Nat}(h:Nat.beq a b=true):a=b:=DR h
theorem IE.beq_eq:∀ {a b:IE},a.beq b=true->a=b:=by
 intro a;induction a with
 |v k=>intro b h;cases b<;>simp_all[IE.beq]<;>exact xC h
 |c n=>intro b h;cases b<;>simp_all[IE.beq]
 |ediv a n ih=>intro b h;cases b<;>simp[IE.beq]at h;obtain⟨h1,h2⟩:=h;rw[h1,ih h2]
 |emod a n ih=>intro b h;cases b<;>simp[IE.beq]at h;obtain⟨h1,h2⟩:=h;rw[h1,ih h2]
 |wrap k a ih=>intro b h;cases b<;>simp[IE.beq,CKb]at h;obtain⟨h1,h2⟩:=h;rw[h1,ih h2]
 |bits o k x y M6 Ns=>intro b h;cases b<;>simp[IE.beq,CKb]at h;obtain⟨h1,h2,h3,h4⟩:=h;rw[h1,h2,M6 h3,Ns h4]
 |len k=>intro b h;cases b<;>simp_all[IE.beq]<;>exact xC h
 |get k i j ih=>intro b h;cases b<;>simp[IE.beq]at h;obtain⟨h1,h2,h3⟩:=h;rw[h1,h2,ih h3]
 |kZ i n x y tX tY XT=>intro b h;cases b<;>simp[IE.beq]at h;obtain⟨h1,h2,h3,h4⟩:=h;rw[h1,tX h2,tY h3,XT h4]
 |_ x y M6 Ns=>intro b h;cases b<;>simp[IE.beq]at h;rw[M6 h.1,Ns h.2]
theorem BE.beq_eq:∀ {a b:BE},a.beq b=true->a=b:=by
 intro a;induction a with
 |v k=>intro b h;cases b<;>simp_all[BE.beq]<;>exact xC h
 |c n=>intro b h;cases b<;>simp_all[BE.beq]
 |lt x y=>intro b h;cases b<;>simp[BE.beq]at h;rw[IE.beq_eq h.1,IE.beq_eq h.2]
 |le x y=>intro b h;cases b<;>simp[BE.beq]at h;rw[IE.beq_eq h.1,IE.beq_eq h.2]
 |eq x y=>intro b h;cases b<;>simp[BE.beq]at h;rw[IE.beq_eq h.1,IE.beq_eq h.2]
 |not x ih=>intro b h;cases b<;>simp[BE.beq]at h;rw[ih h]
 |tu x=>intro b h;cases b<;>simp[BE.beq]at h;rw[IE.beq_eq h]
 |_ x y M6 Ns=>intro b h;cases b<;>simp[BE.beq]at h;rw[M6 h.1,Ns h.2]
def In(r:Rg)(n:Int):Prop:=(∀x,r.1=some x->x<=n)/\(∀y,r.2=some y->n<=y)
theorem In.non{n:Int}:In (none,none) n:=⟨fun _ h=>(by cases h),fun _ h=>(by cases h)⟩
theorem qo{x y n:Int}:In (some x,some y) n↔x<=n/\n<=y:=⟨fun h=>⟨h.1 x rfl,h.2 y rfl⟩,fun h=>⟨fun _ e=>by cases e;exact h.1,fun _ e=>by cases e;exact h.2⟩⟩
theorem kC{f:Int->Int->Int}{a b:Option Int}{z:Int}(h:o2 f a b=some z):∃x y,a=some x/\b=some y/\z=f x y:=by
 cases a<;>cases b<;>simp_all[o2]
theorem YS{a b:Rg}{m n:Int}(ha:In a m)(hb:In b n):In (o2 (· + ·) a.1 b.1,o2 (· + ·) a.2 b.2) (m+n):=by
 constructor;intro z h;obtain⟨x,y,h1,h2,rfl⟩:=kC h;have:=ha.1 x h1;have:=hb.1 y h2;show x+y<=_;omega
 intro z h;obtain⟨x,y,h1,h2,rfl⟩:=kC h;have:=ha.2 x h1;have:=hb.2 y h2;show _<=x+y;omega
theorem YT{a b:Rg}{m n:Int}(ha:In a m)(hb:In b n):In (o2 (· - ·) a.1 b.2,o2 (· - ·) a.2 b.1) (m-n):=by
 constructor;intro z h;obtain⟨x,y,h1,h2,rfl⟩:=kC h;have:=ha.1 x h1;have:=hb.2 y h2;show x-y<=_;omega
 intro z h;obtain⟨x,y,h1,h2,rfl⟩:=kC h;have:=ha.2 x h1;have:=hb.1 y h2;show _<=x-y;omega
theorem YU{x y z w m n:Int}(h1:x<=m)(h2:m<=y)(h3:z<=n)(h4:n<=w):(OP (x*z) (x*w) (y*z) (y*w)).1<=m*n/\m*n<=(OP (x*z) (x*w) (y*z) (y*w)).2:=by
 have key:∀(a b c d t:Int),a<=t->t<=b->∀k:Int,min (a*k) (b*k)<=t*k/\t*k<=max (a*k) (b*k):=by
   intro a b c d t ha hb k;rcases Int.le_total 0 k with hk|hk;have e1:=qF ha hk;have e2:=qF hb hk;omega;have e1:=Int.mul_le_mul_of_nonpos_right ha hk;have e2:=Int.mul_le_mul_of_nonpos_right hb hk;omega
 have a1:=key x y 0 0 m h1 h2 n;have a2:=key z w 0 0 n h3 h4 x;have a3:=key z w 0 0 n h3 h4 y;rw[ko n x,ko z x,ko w x]at a2;rw[ko n y,ko z y,ko w y]at a3;unfold OP;constructor;show min (min (x*z) (x*w)) (min (y*z) (y*w))<=_;omega;show _<=max (max (x*z) (x*w)) (max (y*z) (y*w));omega
theorem JL{a b:Rg}{m n:Int}(ha:In a m)(hb:In b n):In (mulR a b) (m*n):=by
 unfold mulR;split;rename_i x y z w;obtain⟨h1,h2⟩:=qo.1 ha;obtain⟨h3,h4⟩:=qo.1 hb;exact qo.2 (YU h1 h2 h3 h4);rename_i x _ z _ _;split;rename_i h;refine⟨fun t e=>?_,fun _ e=>(by cases e)⟩;cases e;have h1:=ha.1 x rfl;have h2:=hb.1 z rfl;exact yX h1 h2 h.2 (by omega);exact In.non;exact In.non
theorem WZ(m:Int):0<=m*m:=by
 rcases Int.le_total 0 m with h|h;exact sy h h;exact Int.mul_nonneg_of_nonpos_of_nonpos h h
theorem YV{a:Rg}{m:Int}(ha:In a m):In (sqR a) (m*m):=by
 unfold sqR;split;rename_i x y;obtain⟨h1,h2⟩:=qo.1 ha;have n0:0<=m*m:=by exact WZ m
 refine qo.2 ⟨?_,?_⟩;split;rename_i h;exact yX h1 h1 h (by omega);split;rename_i h' h;have:=yX (show -y<=-m by omega) (show -y<=-m by omega) (by omega) (by omega);simpa[Int.neg_mul_neg]using this;exact n0;rcases Int.le_total 0 m with h|h;have:=yX h2 h2 h (by omega);omega;have:=yX (show -m<=-x by omega) (show -m<=-x by omega) (by omega) (by omega);simp only[Int.neg_mul_neg]at this;omega;refine⟨fun t e=>?_,fun _ e=>(by cases e)⟩;cases e;exact WZ m
theorem zo{a:Rg}{m t:Int}(ha:In a m)(h:t.natAbs<=m.natAbs):In (Mc a) t:=by
 unfold Mc;split;rename_i x y;obtain⟨h1,h2⟩:=qo.1 ha;exact qo.2 (by omega);exact In.non
theorem OZ{a b:Rg}{m n:Int}(ha:In a m)(hb:In b n):In (OQ a b) (m.tdiv n):=by
 have O0:(m.tdiv n).natAbs<=m.natAbs:=by
   rw[Int.natAbs_tdiv];exact Nat.div_le_self _ _
 unfold OQ;split;rename_i x y z _;split;rename_i hz;obtain⟨h1,h2⟩:=qo.1 ha;have h3:=hb.1 z rfl;have hn:0<n:=by omega
 have hs:n.sign=1:=Int.sign_eq_one_of_pos hn;refine qo.2 ⟨?_,?_⟩;split;rename_i hx;exact Int.tdiv_nonneg (by omega) (by omega);rcases Int.le_total 0 m with h|h;have e1:=Int.tdiv_nonneg h (show 0<=n by omega);have e2:=uU (show 0<=-x by omega) (show 0<=z by omega);omega;have e1:m.tdiv n = -((-m).tdiv n):=by rw[Int.neg_tdiv];omega
 have e2:(-m).tdiv n=(-m)/n:=DQ (by omega);have e3:(-m)/n<=(-x)/z:=by
   have a1:(-m)/n<=(-m)/z:=by
     refine Int.le_ediv_of_mul_le (by omega) ?_;have:=Int.ediv_mul_le (-m) (show n≠0 by omega);have q0:=uU (show 0<=-m by omega) (show 0<=n by omega);have:=o9 h3 q0;omega
   have a2:=Int.ediv_le_ediv (show 0<z by omega) (show -m<=-x by omega);omega
 omega;split;rename_i hy;have e1:m.tdiv n = -((-m).tdiv n):=by rw[Int.neg_tdiv];omega
 have:=Int.tdiv_nonneg (show 0<=-m by omega) (show 0<=n by omega);omega;rcases Int.le_total 0 m with h|h;have e2:m.tdiv n=m/n:=DQ h;have a1:m/n<=m/z:=by
   refine Int.le_ediv_of_mul_le (by omega) ?_;have:=Int.ediv_mul_le m (show n≠0 by omega);have q0:=uU h (show 0<=n by omega);have:=o9 h3 q0;omega
 have a2:=Int.ediv_le_ediv (show 0<z by omega) h2;omega;have e1:m.tdiv n = -((-m).tdiv n):=by rw[Int.neg_tdiv];omega
 have:=Int.tdiv_nonneg (show 0<=-m by omega) (show 0<=n by omega);have:=uU (show 0<=y by omega) (show 0<=z by omega);omega;exact zo ha O0;exact zo ha O0
theorem O1{a b:Rg}{m n:Int}(ha:In a m)(hb:In b n):In (OR a b) (m.tmod n):=by
 have O0:(m.tmod n).natAbs<=m.natAbs:=by
   rw[Int.natAbs_tmod];exact Nat.mod_le _ _
 unfold OR;split;rename_i x y z w;split;rename_i hz;obtain⟨h1,h2⟩:=qo.1 ha;obtain⟨h3,h4⟩:=qo.1 hb;have cJ:(m.tmod n).natAbs<n.natAbs:=by rw[Int.natAbs_tmod];exact Nat.mod_lt _ (by omega)
 have hp:0<=m->0<=m.tmod n:=fun h=>Int.tmod_nonneg n h;have hq:m<=0->m.tmod n<=0:=fun h=>by
   have:=Int.tmod_nonneg n (show 0<=-m by omega);rw[Int.neg_tmod]at this;omega
 refine qo.2 ⟨?_,?_⟩;split;exact hp (by omega);rcases Int.le_total 0 m with h|h;have:=hp h;omega;have:=hq h;omega;split;exact hq (by omega);rcases Int.le_total 0 m with h|h;have:=hp h;omega;have:=hq h;omega;exact zo ha O0;exact zo ha O0
theorem AI{a b:Nat}(h:a<=b):(2:Int) ^ a<=2 ^ b:=by
 have:=Nat.pow_le_pow_right (show 0<2 by omega) h;have e:∀n:Nat,(2:Int) ^ n=((2 ^ n:Nat):Int):=fun n=>by push_cast;rfl
 rw[e,e];exact_mod_cast this
theorem s8(a:Nat):(0:Int)<2 ^ a:=Int.pow_pos (by omega)
theorem Uv{a b:Rg}{m n:Int}(ha:In a m)(hb:In b n):In (YQ a b) (m*2 ^ n.toNat):=by
 unfold YQ;split;rename_i z w;split;rename_i h;obtain⟨h3,h4⟩:=qo.1 hb;exact JL ha (qo.2 ⟨AI (by omega),AI (by omega)⟩);exact In.non;exact In.non
theorem div_pow{m:Int}{a b:Nat}(h:a<=b):(0<=m->m/2 ^ b<=m/2 ^ a)/\(m<=0->m/2 ^ a<=m/2 ^ b):=by
 have pa:=s8 a;have pb:=s8 b;have pm:=AI h;constructor;intro h0;refine Int.le_ediv_of_mul_le pa ?_;have q0:=uU h0 (Int.le_of_lt pb);have:=o9 pm q0;have:=Int.ediv_mul_le m (show(2:Int) ^ b≠0 by omega);omega;intro h0;refine Int.le_ediv_of_mul_le pb ?_;have q0:m/2 ^ a<=0:=Int.ediv_nonpos_of_nonpos_of_neg h0 pa;have e1:=sy (show 0<=-(m/2 ^ a)by omega) (show 0<=(2:Int) ^ b-2 ^ a by omega);have:=Int.ediv_mul_le m (show(2:Int) ^ a≠0 by omega);have e2: -(m/2 ^ a)*((2:Int) ^ b-2 ^ a)=m/2 ^ a*2 ^ a-m/2 ^ a*2 ^ b:=by grind
 omega
theorem JM{m:Int}{k:Nat}{x y:Int}(h1:x<=m)(h2:m<=y):min x 0<=m/2 ^ k/\m/2 ^ k<=max y 0:=by
 have a:=div_pow (m:=m) (show 0<=k by omega);simp only[Int.pow_zero,Int.ediv_one]at a;have pk:=s8 k;rcases Int.le_total 0 m with h|h;have:=a.1 h;have:=uU h (Int.le_of_lt pk);omega
 have:=a.2 h;have:=Int.ediv_nonpos_of_nonpos_of_neg h pk;omega
theorem Uw{a b:Rg}{m n:Int}(ha:In a m)(hb:In b n):In (YR a b) (m/2 ^ n.toNat):=by
 unfold YR;split;rename_i x y z w;obtain⟨h1,h2⟩:=qo.1 ha;split;rename_i h;obtain⟨h3,h4⟩:=qo.1 hb;have c1:=div_pow (m:=x) (show z.toNat<=n.toNat by omega);have c2:=div_pow (m:=x) (show n.toNat<=w.toNat by omega);have c3:=div_pow (m:=y) (show z.toNat<=n.toNat by omega);have c4:=div_pow (m:=y) (show n.toNat<=w.toNat by omega);have d1:=Int.ediv_le_ediv (s8 n.toNat) h1;have d2:=Int.ediv_le_ediv (s8 n.toNat) h2;refine qo.2 ⟨?_,?_⟩;rcases Int.le_total 0 x with h|h;have:=c2.1 h;omega;have:=c1.2 h;omega;rcases Int.le_total 0 y with h|h;have:=c3.1 h;omega;have:=c4.2 h;omega;exact qo.2 (JM h1 h2);rename_i x y _ _ _;obtain⟨h1,h2⟩:=qo.1 ha;exact qo.2 (JM h1 h2);exact In.non
theorem fw{k:IntKind}{n:Int}:k.min<=k.wrap n/\k.wrap n<=k.max:=Go.wrap_within k n
theorem Er{k:IntKind}{n:Int}(h:k.min<=n/\n<=k.max):k.wrap n=n:=by
 obtain⟨h1,h2⟩:=h;cases k<;>simp[IntKind.wrap,IntKind.min,IntKind.max,IntKind.signed,IntKind.bits]at * <;>omega
theorem O2{a:Rg}{k:IntKind}{m:Int}(ha:In a m):In (OS k a) (k.wrap m):=by
 unfold OS;split;rename_i x y;obtain⟨h1,h2⟩:=qo.1 ha;split;rename_i h;rw[Er (by omega)];exact qo.2 ⟨h1,h2⟩;exact qo.2 fw;exact qo.2 fw
theorem Gh{a b:Rg}{m:Int}(h:In a m\/In b m):In (WW a b) m:=by
 constructor;intro z e;obtain⟨x,y,h1,h2,rfl⟩:=kC e;rcases h with h|h;have:=h.1 x h1;show min x y<=_;omega;have:=h.1 y h2;show min x y<=_;omega;intro z e;obtain⟨x,y,h1,h2,rfl⟩:=kC e;rcases h with h|h;have:=h.2 x h1;show _<=max x y;omega;have:=h.2 y h2;show _<=max x y;omega
theorem JN{a b:Rg}{m n:Int}(ha:In a m)(hb:In b n):In (Uu a b) (min m n):=by
 obtain⟨a1,a2⟩:=a;obtain⟨b1,b2⟩:=b;constructor;intro z e;obtain⟨x,y,h1,h2,rfl⟩:=kC e;have:=ha.1 x h1;have:=hb.1 y h2;show min x y<=_;omega
 intro z e;simp only[Uu]at e;split at e;cases e;have:=ha.2 _ rfl;have:=hb.2 _ rfl;omega
 cases e;have:=ha.2 _ rfl;omega
 have:=hb.2 _ e;omega
theorem Es{a b:Rg}{m n:Int}(ha:In a m)(hb:In b n):In (OT a b) (max m n):=by
 obtain⟨a1,a2⟩:=a;obtain⟨b1,b2⟩:=b;constructor;intro z e;simp only[OT]at e;split at e;cases e;have:=ha.1 _ rfl;have:=hb.1 _ rfl;omega
 cases e;have:=ha.1 _ rfl;omega
 have:=hb.1 _ e;omega;intro z e;obtain⟨x,y,h1,h2,rfl⟩:=kC e;have:=ha.2 x h1;have:=hb.2 y h2;show _<=max x y;omega
def pn(ae:az):List (Int×IE)->Int
 | []=>0
 |(c,e)::r=>c*e.af ae+pn ae r
def Lf.af(ae:az)(l:Lf):Int:=pn ae l.1+l.2
structure Sk.ok(s:Sk)(ae:az):Prop where
 g:∀p∈s.g,p.2.has (ae p.1)
 q:∀l∈s.q,0<=Lf.af ae l
 f:∀p∈s.f,p.af ae=true
theorem O3{k:Nat}{a:A}:∀ {g:List (Nat×A)},look k g=some a->(k,a)∈g:=by
 intro g;induction g with
 |nil=>intro h;cases h
 | cons x g ih=>
   intro h;obtain⟨j,y⟩:=x;unfold look at h;split at h;rename_i e;cases h;rw[xC e];exact aK ..;exact bl _ (ih h)
variable {s:Sk}{ae:az}
theorem Sk.ok.find(h:s.ok ae){k:Nat}{a:A}(e:s.find k=some a):a.has (ae k):=h.g _ (O3 e)
theorem JO{lo hi:Int}{d:DV}(h:(A.i lo hi).has d):∃n,d = .i n/\lo<=n/\n<=hi:=by
 cases d with
 |i n=>exact⟨n,rfl,h⟩
 |b x=>exact h.elim
 |l xs=>exact h.elim
theorem uC{a:Int}{b:Option Int}{cs:List (Int×Int)}{d:DV}(h:(A.l a b cs).has d):∃xs,d = .l xs/\a<=(xs.length:Int)/\(∀y,b=some y->(xs.length:Int)<=y)/\∀r∈xs,cA cs 0 r:=by
 cases d with
 |i n=>exact h.elim
 |b x=>exact h.elim
 |l xs=>exact⟨xs,rfl,h⟩
theorem AJ{x y:Int}:∀ {cs:List (Int×Int)} {m j:Nat} {r:List Int},cA cs m r->cs[j]?=some (x,y)->x<=r.getD (m+j) 0/\r.getD (m+j) 0<=y:=by
 intro cs;induction cs with
 |nil=>intro m j r _ h;simp at h
 | cons c cs ih=>
   intro m j r hr h;cases j with
   |zero=>simp only[jZ,ah]at h;subst h;exact hr.1
   | succ j=>
     simp only[zy]at h;have:=ih hr.2 h;rwa[show m+1+j=m+(j+1)by omega]at this
theorem iR(h:s.ok ae){p:BE}(e:s.iM p=true):p.af ae=true:=by
 simp only[Sk.iM,lT]at e;obtain⟨x,hx,e⟩:=e;rw[<- BE.beq_eq e];exact h.f x hx
theorem JP{xs:List (List Int)}{cs:List (Int×Int)}{j:Nat}{x y i:Int}(hr:∀r∈xs,cA cs 0 r)(hc:cs[j]?=some (x,y)):(0<=i/\i<(xs.length:Int)->x<=cellAt xs i j/\cellAt xs i j<=y)/\(min x 0<=cellAt xs i j/\cellAt xs i j<=max y 0):=by
 have key:i.toNat<xs.length->x<=cellAt xs i j/\cellAt xs i j<=y:=by
   intro h;have hm:xs.getD i.toNat []∈xs:=by
     rw[cq,dG h];exact List.getElem_mem h
   have:=AJ (hr _ hm) hc;rw[fC]at this;exact this
 refine⟨fun h=>key (by omega),?_⟩;by_cases h:i.toNat<xs.length;have:=key h;omega;have:cellAt xs i j=0:=by
   unfold cellAt;have e:xs.getD i.toNat []=[]:=by rw[cq,rZ (Nat.le_of_not_lt h)];rfl
   rw[e];simp
 omega
theorem wi(h:s.ok ae):∀e:IE,In (s.iv e) (e.af ae):=by
 intro e;induction e with
 | v k=>
   simp only[Sk.iv,IE.af];split;rename_i lo hi e;obtain⟨n,hn,h1,h2⟩:=JO (h.find e);rw[hn];exact qo.2 ⟨h1,h2⟩;exact In.non
 |c n=>exact qo.2 ⟨Int.le_refl _,Int.le_refl _⟩
 |add a b eW fA=>exact YS eW fA
 |sub a b eW fA=>exact YT eW fA
 | mul a b eW fA=>
   simp only[Sk.iv,IE.af];split;rename_i e;rw[<- IE.beq_eq e];exact YV eW;exact JL eW fA
 |tdiv a b eW fA=>exact OZ eW fA
 |tmod a b eW fA=>exact O1 eW fA
 | ediv a n eW=>
   simp only[Sk.iv,IE.af];split;exact In.non;rename_i hn;have o7:n≠0:=fun e=>hn (by rw[e];rfl);have hp:(0:Int)<n:=by omega
   constructor;intro z e;simp only[bJ]at e;obtain⟨x,hx,rfl⟩:=e;exact Int.ediv_le_ediv hp (eW.1 x hx);intro z e;simp only[bJ]at e;obtain⟨x,hx,rfl⟩:=e;exact Int.ediv_le_ediv hp (eW.2 x hx)
 | emod a n eW=>
   simp only[Sk.iv,IE.af];split;exact In.non;rename_i hn;have o7:n≠0:=fun e=>hn (by rw[e];rfl);have h1:=yM (a.af ae) (show(n:Int)≠0 by omega);have h2:=xp (a.af ae) (show(0:Int)<n by omega);split;rename_i x y e;rw[e]at eW;obtain⟨i1,i2⟩:=qo.1 eW;split;rename_i hc;rw[Int.emod_eq_of_lt (by omega) (by omega)];exact eW;exact qo.2 ⟨h1,by omega⟩;exact qo.2 ⟨h1,by omega⟩
 |shl a b eW fA=>exact Uv eW fA
 |shr a b eW fA=>exact Uw eW fA
 |wrap k a eW=>exact O2 eW
 |max a b eW fA=>exact Es eW fA
 |min a b eW fA=>exact JN eW fA
 |bits op k a b eW fA=>exact qo.2 (Go.bits_within op k _ _)
 | len k=>
   simp only[Sk.iv,IE.af];split;rename_i n0 n1 cs e;obtain⟨xs,hx,h1,h2,_⟩:=uC (h.find e);rw[hx];refine⟨fun z e=>?_,fun z e=>h2 z e⟩;cases e;show max n0 0<=(xs.length:Int);omega;refine⟨fun z e=>?_,fun _ e=>(by cases e)⟩;cases e;omega
 | get k i j ih=>
   simp only[Sk.iv,IE.af];split;rename_i n0 n1 cs e;obtain⟨xs,hx,h1,h2,h3⟩:=uC (h.find e);rw[hx];split;rename_i x y hc;have key:=JP (i:=i.af ae) h3 hc;split;rename_i hZ;refine qo.2 (key.1 ?_);simp only[Sk.acg,ao,fF]at hZ;obtain⟨g1,g2⟩:=hZ;have z0:0<=i.af ae:=by
     split at g1;rename_i x YD;have:=ih.1 x YD;simp only[aC]at g1;omega;cases g1
   refine⟨z0,?_⟩;rcases g2 with(g2|g2)|g2;split at g2;rename_i y hy;have:=ih.2 y hy;simp only[aC]at g2;omega;cases g2;split at g2;rename_i l m;simp only[ao,aC]at g2;have:=xC g2.1;subst this;simp only[IE.af,hx,DV.list];omega;cases g2;simp only[lT]at g2;obtain⟨p,hp,e⟩:=g2;have:=h.f p hp;rw[BE.beq_eq e]at this;simpa[BE.af,IE.af,hx,DV.list]using this;exact qo.2 key.2;exact In.non;exact In.non
 | kZ i n a b ihi eW fA=>
   simp only[Sk.iv,IE.af];split;exact Gh (.inl eW);exact Gh (.inr fA)
end Go.Sx
namespace Go.Sx
section
variable {s:Sk}{ae:az}
theorem O4{c:Int}{e:IE}:∀ {l:List (Int×IE)},pn ae (Md c e l)=c*e.af ae+pn ae l:=by
 intro l;induction l with
 |nil=>simp[Md,pn]
 | cons x r ih=>
   obtain⟨d,x⟩:=x;unfold Md;split;rename_i h;have:=IE.beq_eq h;subst this;split;rename_i h0;have e1:d = -c:=by omega
   subst e1;simp only[pn];grind;simp only[pn];grind;simp only[pn,ih];omega
theorem O5{c:Int}{b:List (Int×IE)}:∀ {a:List (Int×IE)},pn ae (OU c a b)=c*pn ae a+pn ae b:=by
 intro a;induction a with
 |nil=>simp[OU,pn]
 | cons x r ih=>
   have:OU c (x::r) b=Md (c*x.1) x.2 (OU c r b):=rfl;rw[this,O4,ih];obtain⟨d,e⟩:=x;simp only[pn];grind
theorem Lf.dK{c:Int}{a b:Lf}:(Lf.plus c a b).af ae=c*a.af ae+b.af ae:=by
 simp only[Lf.af,Lf.plus,O5];grind
theorem n8{c n:Int}{e:IE}:Lf.af ae ([(c,e)],n)=c*e.af ae+n:=by simp[Lf.af,pn]
theorem fH{n:Int}:Lf.af ae ([],n)=n:=by simp[Lf.af,pn]
theorem Et{e:IE}{n:Int}(h:e.isC=some n):e.af ae=n:=by
 cases e<;>simp_all[IE.isC,IE.af]
theorem jI(h:s.ok ae):∀e:IE,(s.tN e).af ae=e.af ae:=by
 intro e;induction e with
 |c n=>exact fH
 |add a b eW fA=>simp only[Sk.tN,Lf.dK,eW,fA,IE.af];omega
 |sub a b eW fA=>simp only[Sk.tN,Lf.dK,eW,fA,IE.af];omega
 | mul a b eW fA=>
   simp only[Sk.tN,IE.af];split;rename_i hn;rw[Lf.dK,fA,fH,Et hn];omega;rename_i hn _;rw[Lf.dK,eW,fH,Et hn,ko];omega;rw[n8];simp[IE.af]
 | wrap k a eW=>
   simp only[Sk.tN,IE.af];split;rename_i hw;rw[eW];have:=wi h a;unfold within at hw;split at hw;rename_i x y e;rw[e]at this;obtain⟨h1,h2⟩:=qo.1 this;simp only[aC]at hw;rw[Er (by omega)];cases hw;rw[n8];simp[IE.af]
 |_=>simp only[Sk.tN];rw[n8];simp
theorem O6(h:s.ok ae):∀ {l:List (Int×IE)} {x:Int},s.low l=some x->x<=pn ae l:=by
 intro l;induction l with
 |nil=>intro x e;cases e;exact Int.le_refl _
 | cons t r ih=>
   intro x e;obtain⟨c,t⟩:=t;simp only[Sk.low]at e;split at e;rename_i a b ha hb;cases e;have h1:=ih ha;have h2:=wi h t;have:c*b<=c*t.af ae:=by
     split at hb;exact o9 (h2.1 b hb) (by assumption);exact Int.mul_le_mul_of_nonpos_left (by omega) (h2.2 b hb)
   simp only[pn];omega;cases e
theorem AK(h:s.ok ae){l:Lf}(e:s.vi l=true):0<=l.af ae:=by
 unfold Sk.vi at e;split at e;rename_i x hx;have:=O6 h hx;simp only[aC]at e;unfold Lf.af;omega;cases e
theorem AL(h:s.ok ae){l:Lf}:∀ {ts:List (Int×IE)} {o:Nat} {x y:Lf},s.fork l ts=some (o,x,y)->
   (o=1->0<=l.af ae->0<=x.af ae/\0<=y.af ae)/\(0<=x.af ae/\0<=y.af ae->0<=l.af ae)/\(o=0->0<=x.af ae\/0<=y.af ae->0<=l.af ae):=by
 intro ts;induction ts with
 |nil=>intro o x y e;cases e
 | cons t r ih=>
   intro o x y e;obtain⟨c,t⟩:=t;cases t with
   | max a b=>
     simp only[Sk.fork,ah,ay]at e;obtain⟨rfl,rfl,rfl⟩:=e;simp only[Lf.dK,jI h,n8,IE.af];generalize a.af ae=A;generalize b.af ae=B;generalize l.af ae=L;have m1:A<=max A B:=by omega
     have m2:B<=max A B:=by omega
     have m3:max A B=A\/max A B=B:=by omega
     generalize max A B=M at *;simp only[Int.neg_mul,Int.one_mul,Int.add_zero];refine⟨fun hc=>?_,?_,fun hc=>?_⟩
     . have hc:c<0:=by revert hc;split<;>simp_all
       have e1:=Int.mul_le_mul_of_nonpos_left (show c<=0 by omega) m1;have e2:=Int.mul_le_mul_of_nonpos_left (show c<=0 by omega) m2;intro h0;constructor<;>omega
     rintro⟨h1,h2⟩;rcases m3 with rfl|rfl<;>omega
     . have hc:0<=c:=by revert hc;split<;>simp_all
       have e1:=o9 m1 hc;have e2:=o9 m2 hc;intro h1;rcases h1 with h1|h1<;>omega
   | min a b=>
     simp only[Sk.fork,ah,ay]at e;obtain⟨rfl,rfl,rfl⟩:=e;simp only[Lf.dK,jI h,n8,IE.af];generalize a.af ae=A;generalize b.af ae=B;generalize l.af ae=L;have m1:min A B<=A:=by omega
     have m2:min A B<=B:=by omega
     have m3:min A B=A\/min A B=B:=by omega
     generalize min A B=M at *;simp only[Int.neg_mul,Int.one_mul,Int.add_zero];refine⟨fun hc=>?_,?_,fun hc=>?_⟩
     . have hc:0<c:=by revert hc;split<;>simp_all
       have e1:=o9 m1 (show 0<=c by omega);have e2:=o9 m2 (show 0<=c by omega);intro h0;constructor<;>omega
     rintro⟨h1,h2⟩;rcases m3 with rfl|rfl<;>omega
     . have hc:c<=0:=by revert hc;split<;>simp_all
       have e1:=Int.mul_le_mul_of_nonpos_left hc m1;have e2:=Int.mul_le_mul_of_nonpos_left hc m2;intro h1;rcases h1 with h1|h1<;>omega
   | kZ i n a b=>
     simp only[Sk.fork,ah,ay]at e;obtain⟨rfl,rfl,rfl⟩:=e;simp only[Lf.dK,jI h,n8,IE.af,Int.neg_mul,Int.one_mul,Int.add_zero];refine⟨fun hc=>(by cases hc),?_,fun hc=>(by cases hc)⟩;rintro⟨h1,h2⟩;split at h1<;>split at h2<;>first|omega|contradiction
   |_=>exact ih (by simpa only[Sk.fork]using e)
theorem H9{a b:List (Int×IE)}{m:Int}(h:shares a b=some m):1<=m:=by
 unfold shares at h;obtain⟨x,_,h⟩:=List.exists_of_findSome?_eq_some h;obtain⟨y,_,h⟩:=List.exists_of_findSome?_eq_some h;split at h;simp only[ah]at h;subst h;split<;>omega;cases h
theorem s9(h:s.ok ae):∀ {d:Nat} {l:Lf},s.by d l=true->0<=l.af ae:=by
 intro d;induction d with
 |zero=>intro l e;exact AK h e
 | succ d ih=>
   intro l e;simp only[Sk.by,fF]at e;rcases e with(e|e)|e;exact AK h e;simp only[lT]at e;obtain⟨f,hf,e⟩:=e;split at e;rename_i m hm;have h1:=ih e;have h2:=h.q f hf;have h3:=H9 hm;rw[Lf.dK]at h1;have:=sy (show 0<=m by omega) h2;rw[Int.neg_mul]at h1;omega;cases e;split at e;rename_i x y hx;simp only[fF]at e;exact(AL h hx).2.2 rfl (e.imp ih ih);rename_i x y _ hx;simp only[ao]at e;exact(AL h hx).2.1 ⟨ih e.1,ih e.2⟩;cases e
theorem iS(h:s.ok ae)(a b:IE):(s.diff a b).af ae=b.af ae-a.af ae:=by
 unfold Sk.diff;rw[Lf.dK,jI h,jI h];omega
theorem byD(h:s.ok ae){d:Nat}{a b:IE}(e:s.by d (s.diff a b)=true):a.af ae<=b.af ae:=by
 have:=s9 h e;rw[iS h]at this;omega
theorem Ux(h:s.ok ae){d:Nat}{a b:IE}(e:s.by d (Lf.plus 1 (s.diff a b) ([],-1))=true):a.af ae<b.af ae:=by
 have:=s9 h e;rw[Lf.dK,iS h,fH]at this;omega
theorem W0(h:s.ok ae){d:Nat}(e:s.by d ([],-1)=true):False:=by
 have:=s9 h e;rw[fH]at this;omega
theorem byP(h:s.ok ae){d:Nat}{a:IE}(e:s.by d (Lf.plus 1 (s.tN a) ([],-1))=true):0<a.af ae:=by
 have:=s9 h e;rw[Lf.dK,jI h,fH]at this;omega
theorem byN(h:s.ok ae){d:Nat}{a:IE}(e:s.by d (Lf.plus (-1) (s.tN a) ([],-1))=true):a.af ae<0:=by
 have:=s9 h e;rw[Lf.dK,jI h,fH]at this;omega
theorem by0(h:s.ok ae){d:Nat}{a:IE}(e:s.by d (s.tN a)=true):0<=a.af ae:=by
 have:=s9 h e;rwa[jI h]at this
theorem ags(h:s.ok ae){d:Nat}{a:IE}(e:s.by d (Lf.plus (-1) (s.tN a) ([],0))=true):a.af ae<=0:=by
 have:=s9 h e;rw[Lf.dK,jI h,fH]at this;omega
theorem pnv(h:s.ok ae){d:Nat}:∀p:BE,(s.pv d p=true->p.af ae=true)/\(s.nv d p=true->p.af ae=false):=by
 intro p;induction p with
 | v k=>
   refine⟨fun e=>iR h (by simpa only[Sk.pv]using e),fun e=>?_⟩;have:=iR h (p:=.not (.v k)) (by simpa only[Sk.nv]using e);simpa[BE.af]using this
 | c x=>
   constructor;intro e;simp only[Sk.pv,fF]at e;rcases e with e|e;exact e;exact(W0 h e).elim;intro e;simp only[Sk.nv,fF,mg]at e;rcases e with e|e;exact e;exact(W0 h e).elim
 | lt a b=>
   constructor;intro e;simp only[Sk.pv]at e;simpa[BE.af]using Ux h e;intro e;simp only[Sk.nv]at e;simpa[BE.af]using byD h e
 | le a b=>
   constructor;intro e;simp only[Sk.pv]at e;simpa[BE.af]using byD h e;intro e;simp only[Sk.nv]at e;simpa[BE.af]using Ux h e
 | eq a b=>
   constructor;intro e;simp only[Sk.pv,fF,ao]at e;rcases e with(e|e)|e;simp[BE.af,IE.beq_eq e];have h1:=byD h e.1;have h2:=byD h e.2
   simp only[BE.af,aC];omega;exact iR h e;intro e;simp only[Sk.nv,fF]at e;rcases e with(e|e)|e;have:=Ux h e;simp only[BE.af,tZ];omega;have:=Ux h e;simp only[BE.af,tZ];omega;have:=iR h e;simpa[BE.af]using this
 | not a ih=>
   constructor;intro e;simp only[Sk.pv]at e;simp[BE.af,ih.2 e];intro e;simp only[Sk.nv]at e;simp[BE.af,ih.1 e]
 | and a b eW fA=>
   constructor;intro e;simp only[Sk.pv,ao]at e;simp[BE.af,eW.1 e.1,fA.1 e.2];intro e;simp only[Sk.nv,fF]at e;rcases e with(e|e)|e;simp[BE.af,eW.2 e];simp[BE.af,fA.2 e];have:=iR h e;simpa only[BE.af,mg]using this
 | or a b eW fA=>
   constructor;intro e;simp only[Sk.pv,fF]at e;rcases e with(e|e)|e;simp[BE.af,eW.1 e];simp[BE.af,fA.1 e];exact iR h e;intro e;simp only[Sk.nv,ao]at e;simp[BE.af,eW.2 e.1,fA.2 e.2]
 | iff a b eW fA=>
   constructor;intro e;simp only[Sk.pv,fF,ao]at e;rcases e with((e|e)|e)|e;simp[BE.af,BE.beq_eq e];simp[BE.af,eW.1 e.1,fA.1 e.2];simp[BE.af,eW.2 e.1,fA.2 e.2];exact iR h e;intro e;simp only[Sk.nv,fF,ao]at e;rcases e with e|e;simp[BE.af,eW.1 e.1,fA.2 e.2];simp[BE.af,eW.2 e.1,fA.1 e.2]
 | tu a=>
   constructor;intro e;simp only[Sk.pv,fF]at e;rcases e with(e|e)|e;have:=byP h e;simp only[BE.af,aC];omega;have:=byN h e;simp only[BE.af,aC];omega;exact iR h e;intro e;simp only[Sk.nv,ao]at e;have h1:=by0 h e.1;have h2:=ags h e.2
   simp only[BE.af,tZ];omega
theorem fV(h:s.ok ae){d:Nat}{p:BE}(e:s.pv d p=true):p.af ae=true:=(pnv h p).1 e
theorem n9(h:s.ok ae){d:Nat}{p:BE}(e:s.nv d p=true):p.af ae=false:=(pnv h p).2 e
theorem O7{k:Nat}{a:A}{p:Nat×A}:∀ {g:List (Nat×A)},p∈En k a g->p∈g\/p=(k,a):=by
 intro g;induction g with
 |nil=>intro h;simp[En]at h
 | cons x g ih=>
   intro h;obtain⟨j,y⟩:=x;unfold En at h;split at h;rename_i e;rcases bD.1 h with rfl|h;right;rw[xC e];left;exact bl _ h;rcases bD.1 h with rfl|h;left;exact aK ..;rcases ih h with h|h;left;exact bl _ h;right;exact h
theorem Sk.ok.put(h:s.ok ae){k:Nat}{a:A}(ha:a.has (ae k)):∀p∈En k a s.g,p.2.has (ae p.1):=by
 intro p hp;rcases O7 hp with hp|rfl;exact h.g p hp;exact ha
theorem cdiv_le{m c n:Int}(hc:0<c)(h:m<=c*n):cdiv m c<=n:=by
 unfold cdiv;have: -n<=(-m)/c:=Int.le_ediv_of_mul_le hc (by rw[Int.neg_mul,ko];omega);omega
theorem JQ{m c n:Int}(hc:c<0)(h:m<=c*n):n<=(-m)/(-c):=
 Int.le_ediv_of_mul_le (by omega) (by rw[Int.mul_neg,ko];omega)
theorem O8(h:s.ok ae){l:Lf}(hl:0<=l.af ae){c:Int}{e:IE}:∀p∈s.bound l c e,p.2.has (ae p.1):=by
 unfold Sk.bound;split;exact h.g;rename_i nr hn;have h1:=O6 h hn;have h2:Lf.af ae (Lf.plus (-1) l ([(c,e)],0))=(-1)*l.af ae+(c*e.af ae+0):=by rw[Lf.dK,n8]
 have h3:Lf.af ae (Lf.plus (-1) l ([(c,e)],0))=pn ae (Lf.plus (-1) l ([(c,e)],0)).1+((-1)*l.2+0):=rfl;have hm:nr+((-1)*l.2+0)<=c*e.af ae:=by omega
 generalize hmm:nr+((-1)*l.2+0)=m at hm;simp only[hmm];split;rename_i k;split;rename_i lo hi hf;obtain⟨n,hn,g1,g2⟩:=JO (h.find hf);simp only[IE.af,hn,DV.int]at hm;split;rename_i hc;refine h.put ?_;rw[hn];have:=cdiv_le hc hm;exact⟨by omega,g2⟩;split;rename_i hc;refine h.put ?_;rw[hn];have:=JQ hc hm;exact⟨g1,by omega⟩;exact h.g;exact h.g;rename_i k;split;rename_i n0 n1 cs hf;obtain⟨xs,hx,g1,g2,g3⟩:=uC (h.find hf);simp only[IE.af,hx,DV.list]at hm;split;rename_i hc;refine h.put ?_;rw[hx];have:=cdiv_le hc hm;exact⟨by omega,g2,g3⟩;split;rename_i hc;refine h.put ?_;rw[hx];have:=JQ hc hm;refine⟨g1,fun y e=>?_,g3⟩;split at e;rename_i z;have:=g2 _ rfl;simp only[ah]at e;omega;simp only[ah]at e;omega;exact h.g;exact h.g;exact h.g
theorem tO(h:s.ok ae){l:Lf}(hl:0<=l.af ae):∀ts:List (Int×IE),(ts.foldr (fun t (s:Sk)=>{s with g:=s.bound l t.1 t.2}) s).ok ae:=by
 intro ts;induction ts with
 |nil=>exact h
 |cons t ts ih=>exact⟨O8 ih hl,ih.q,ih.f⟩
theorem ta(h:s.ok ae){l:Lf}(hl:0<=l.af ae):(s.sY l).ok ae:=by
 unfold Sk.sY;split;exact h;have k:=tO h hl l.1;refine⟨k.g,fun x hx=>?_,k.f⟩;rcases bD.1 hx with rfl|hx;exact hl;exact k.q x hx
theorem Gi:∀ {n:Nat} {s:Sk} {l:Lf},s.ok ae->0<=l.af ae->(s.sZ n l).ok ae:=by
 intro n;induction n with
 |zero=>intro s l h hl;exact ta h hl
 | succ n ih=>
   intro s l h hl;simp only[Sk.sZ];split;rename_i x y hx;obtain⟨h1,h2⟩:=(AL h hx).1 rfl hl;exact ih (ih (ta h hl) h1) h2;exact ta h hl
theorem fm(h:s.ok ae){l:Lf}(hl:0<=l.af ae):(s.eX l).ok ae:=Gi h hl
theorem ng(h:s.ok ae){p:BE}(hp:p.af ae=true):(s.fact p).ok ae:=by
 unfold Sk.fact;split;exact h;refine⟨h.g,h.q,fun x hx=>?_⟩;rcases bD.1 hx with rfl|hx;exact hp;exact h.f x hx
theorem oK(h:s.ok ae){a b:IE}{st:Int}(hs:a.af ae+st<=b.af ae)(h0:0<=st)(h1:st<=1):(Sk.n5 s a b st).ok ae:=by
 unfold Sk.n5;split;rename_i x;split;rename_i hc;simp only[ao]at hc;have hx:=wi h x;have hb:=wi h b;have e1:mn<=x.af ae/\x.af ae<=mx:=by
   have:=hc.1;unfold WY at this;split at this;rename_i u v e;rw[e]at hx;obtain⟨g1,g2⟩:=qo.1 hx;simp only[aC]at this;omega;cases this
 have e2:b.af ae<=mx+st:=by
   have:=hc.2;unfold leI at this;split at this;rename_i y e;have:=hb.2 y e;rename_i aci;simp only[aC]at aci;omega;cases this
 have e3:IntKind.u64.wrap (x.af ae)<=mx:=by simp only[IE.af]at hs;omega
 have e4:0<=x.af ae/\IntKind.u64.wrap (x.af ae)=x.af ae:=by
   have:IntKind.u64.wrap (x.af ae)=x.af ae%18446744073709551616:=by simp[IntKind.wrap,IntKind.signed,IntKind.bits]
   unfold mn mx at *;omega
 have k1:(s.eX (s.tN x)).ok ae:=fm h (by rw[jI h];exact e4.1);refine fm k1 ?_;rw[Lf.dK,iS h,fH];simp only[IE.af]at hs;omega;exact h;exact h
theorem JR:∀(p:BE) {s:Sk},s.ok ae->(p.af ae=true->(s.add p).ok ae)/\(p.af ae=false->(s.sub p).ok ae):=by
 intro p;induction p with
 |v k=>intro s h;exact⟨fun e=>by simpa only[Sk.add]using ng h e,fun e=>by simpa only[Sk.sub]using ng h (p:=.not (.v k)) (by simpa[BE.af]using e)⟩
 | c x=>
   intro s h;cases x;exact⟨fun e=>(by cases e),fun _=>(by simpa only[Sk.sub]using h)⟩;exact⟨fun _=>(by simpa only[Sk.add]using h),fun e=>(by cases e)⟩
 | lt a b=>
   intro s h;constructor;intro e;have e':a.af ae<b.af ae:=by simpa[BE.af]using e
   have k1:(s.eX (Lf.plus 1 (s.diff a b) ([],-1))).ok ae:=fm h (by rw[Lf.dK,iS h,fH];omega);have k2:=oK k1 (a:=a) (b:=b) (st:=1) (by omega) (by omega) (by omega);simp only[Sk.add];split;exact ng k2 e;exact k2;intro e;have e':b.af ae<=a.af ae:=by simpa[BE.af]using e
   have k1:(s.eX (s.diff b a)).ok ae:=fm h (by rw[iS h];omega);simpa only[Sk.sub]using oK k1 (a:=b) (b:=a) (st:=0) (by omega) (by omega) (by omega)
 | le a b=>
   intro s h;constructor;intro e;have e':a.af ae<=b.af ae:=by simpa[BE.af]using e
   have k1:(s.eX (s.diff a b)).ok ae:=fm h (by rw[iS h];omega);simpa only[Sk.add]using oK k1 (a:=a) (b:=b) (st:=0) (by omega) (by omega) (by omega);intro e;have e':b.af ae<a.af ae:=by simpa[BE.af]using e
   have k1:(s.eX (Lf.plus 1 (s.diff b a) ([],-1))).ok ae:=fm h (by rw[Lf.dK,iS h,fH];omega);simpa only[Sk.sub]using oK k1 (a:=b) (b:=a) (st:=1) (by omega) (by omega) (by omega)
 | eq a b=>
   intro s h;constructor;intro e;have e':a.af ae=b.af ae:=by simpa[BE.af]using e
   have k1:(s.eX (s.diff a b)).ok ae:=fm h (by rw[iS h];omega);simp only[Sk.add];exact fm k1 (by rw[iS h];omega);intro e;have e':a.af ae≠b.af ae:=by simpa[BE.af]using e
   simp only[Sk.sub];split;rename_i hb;have:=byD h hb;exact fm h (by rw[Lf.dK,iS h,fH];omega);split;rename_i hb;have:=byD h hb;exact fm h (by rw[Lf.dK,iS h,fH];omega);exact ng h (by simpa[BE.af]using e)
 | not a ih=>
   intro s h;constructor;intro e;simp only[Sk.add];exact(ih h).2 (by simpa[BE.af]using e);intro e;simp only[Sk.sub];exact(ih h).1 (by simpa[BE.af]using e)
 | and a b eW fA=>
   intro s h;constructor;intro e;simp only[BE.af,ao]at e;simp only[Sk.add];exact(fA ((eW h).1 e.1)).1 e.2;intro e;simp only[Sk.sub];have e':=e;simp only[BE.af]at e;split;rename_i hp;rw[fV h hp,Bool.true_and]at e;exact(fA h).2 e;split;rename_i hp;rw[fV h hp,Bool.and_true]at e;exact(eW h).2 e;exact ng h (by simp only[BE.af,e,Bool.not_false])
 | or a b eW fA=>
   intro s h;constructor;intro e;simp only[Sk.add];have e':=e;simp only[BE.af]at e;split;rename_i hp;rw[n9 h hp,Bool.false_or]at e;exact(fA h).1 e;split;rename_i hp;rw[n9 h hp,Bool.or_false]at e;exact(eW h).1 e;exact ng h e';intro e;simp only[BE.af,uL]at e;simp only[Sk.sub];exact(fA ((eW h).2 e.1)).2 e.2
 | iff a b eW fA=>
   intro s h;constructor;intro e;simp only[Sk.add];have e':=e;simp only[BE.af,beq_iff_eq]at e;split;rename_i hp;exact(fA h).1 (by rw[<- e];exact fV h hp);split;rename_i hp;exact(eW h).1 (by rw[e];exact fV h hp);split;rename_i hp;exact(fA h).2 (by rw[<- e];exact n9 h hp);split;rename_i hp;exact(eW h).2 (by rw[e];exact n9 h hp);exact ng h e';intro e;simp only[Sk.sub];have e':=e;simp only[BE.af]at e;split;rename_i hp;have:=fV h hp;exact(fA h).2 (by rw[this]at e;revert e;cases b.af ae<;>simp);split;rename_i hp;have:=fV h hp;exact(eW h).2 (by rw[this]at e;revert e;cases a.af ae<;>simp);split;rename_i hp;have:=n9 h hp;exact(fA h).1 (by rw[this]at e;revert e;cases b.af ae<;>simp);split;rename_i hp;have:=n9 h hp;exact(eW h).1 (by rw[this]at e;revert e;cases a.af ae<;>simp);exact ng h (by simp only[BE.af,e,Bool.not_false])
 | tu a=>
   intro s h;constructor;intro e;simp only[Sk.add];exact ng h e;intro e;have e':a.af ae=0:=by simpa[BE.af]using e
   simp only[Sk.sub];have k1:(s.eX (s.tN a)).ok ae:=fm h (by rw[jI h];omega);exact fm k1 (by rw[Lf.dK,jI h,fH];omega)
theorem AM(h:s.ok ae){p:BE}(e:p.af ae=true):(s.add p).ok ae:=(JR p h).1 e
theorem xD(h:s.ok ae){p:BE}(e:p.af ae=false):(s.sub p).ok ae:=(JR p h).2 e
theorem Mf:∀ {l:List BE} {s:Sk},s.ok ae->(∀p∈l,p.af ae=true)->(s.s5 l).ok ae:=by
 intro l;induction l with
 |nil=>intro s h _;exact h
 | cons p l ih=>
   intro s h hl;have hp:=hl p (aK ..);have hr:∀q∈l,q.af ae=true:=fun q hq=>hl q (bl _ hq);unfold Sk.s5;split;cases ‹_=_›;rename_i heq;injection heq with h1 h2;subst h1;subst h2;refine ih ?_ hr;simp only[BE.af]at hp;split;rename_i hn;rw[n9 h hn,Bool.false_or]at hp;exact AM h hp;split;rename_i hn;rw[n9 h hn,Bool.or_false]at hp;exact AM h hp;exact h;rename_i heq;injection heq with h1 h2;subst h1;subst h2;refine ih ?_ hr;simp only[BE.af,mg]at hp;split;rename_i hn;rw[fV h hn,Bool.true_and]at hp;exact xD h hp;split;rename_i hn;rw[fV h hn,Bool.and_true]at hp;exact xD h hp;exact h;rename_i heq;injection heq with h1 h2;subst h1;subst h2;refine ih ?_ hr;simp only[BE.af,beq_iff_eq]at hp;split;rename_i hn;exact AM h (by rw[<- hp];exact fV h hn);split;rename_i hn;exact xD h (by rw[<- hp];exact n9 h hn);split;rename_i hn;exact AM h (by rw[hp];exact fV h hn);split;rename_i hn;exact xD h (by rw[hp];exact n9 h hn);exact h;rename_i heq;injection heq with h1 h2;subst h1;subst h2;exact ih (xD h (by simpa[BE.af]using hp)) hr;rename_i heq;injection heq with h1 h2;subst h2;exact ih h hr
theorem O9:∀ {ls:List Lf} {s:Sk},s.ok ae->(∀l∈ls,0<=l.af ae)->(s.again ls).ok ae:=by
 intro ls;induction ls with
 |nil=>intro s h _;exact h
 |cons l ls ih=>intro s h hl;exact ih (tO h (hl l (aK ..)) _) fun x hx=>hl x (bl _ hx)
theorem Uy(h:s.ok ae):s.tidy.ok ae:=⟨h.g,h.q,fun p hp=>h.f p (jA.mp hp).1⟩
theorem AN(h:s.ok ae):s.close.ok ae:=by
 have h1:=Mf h h.f;exact Uy (O9 h1 fun l hl=>h1.q l (List.mem_of_mem_take hl))
theorem tP(h:s.ok ae){p:BE}(e:p.af ae=true):(s.ug p).ok ae:=by
 exact AN (AM h e)
theorem vj(h:s.ok ae){p:BE}(e:p.af ae=false):(s.nc p).ok ae:=by
 exact AN (xD h e)
theorem O'(h:s.ok ae){d:Nat}(e:s.OX d=true):False:=by
 simp only[Sk.OX,lT]at e;obtain⟨f,hf,e⟩:=e;have h1:=s9 h e;have h2:=h.q f hf;rw[Lf.dK,fH]at h1;omega
theorem Ia{d:Nat}:∀(p:BE) {s:Sk},s.ok ae->s.pw d p=true->p.af ae=true:=by
 intro p;induction p with
 | and a b eW fA=>
   intro s h e;simp only[Sk.pw,ao]at e;simp[BE.af,eW h e.1,fA h e.2]
 | or a b eW fA=>
   intro s h e;simp only[Sk.pw,fF]at e;rcases e with e|e;exact fV h e;cases ha:a.af ae with
   |true=>simp[BE.af,ha]
   |false=>simp[BE.af,fA (AN (vj h ha)) e]
 | _=>
   intro s h e;simp only[Sk.pw,fF]at e;rcases e with e|e;exact fV h e;exact(O' h e).elim
def gb(l:List BE×BE):Prop:=∀ae:az,(∀p∈l.1,p.af ae=true)->l.2.af ae=true
theorem YW(h:s.ok ae){fk:List (List BE×BE)}(hl:∀l∈fk,gb l){p:BE}(e:s.so fk p=true):p.af ae=true:=by
 simp only[Sk.so,fF,lT,ao,jE]at e;rcases e with(e|⟨l,hm,h1,h2⟩)|e;exact Ia p h e;exact Ia p (tP h (hl l hm ae fun q hq=>fV h (h1 q hq))) h2;exact Ia p h e
theorem lC:∀ {l:List BE} {s:Sk},s.ok ae->(∀p∈l,p.af ae=true)->(s.nd l).ok ae:=by
 intro l;induction l with
 |nil=>intro s h _;exact h
 |cons p l ih=>intro s h hl;exact ih (tP h (hl p (aK ..))) fun q hq=>hl q (bl _ hq)
end
section
variable {s:Sk}{ae aq:az}
theorem Gj{base n k:Nat}:jk base n k=true↔k<base\/base+n<=k:=by
 simp[jk,Nat.blt_eq,Nat.ble_eq]
theorem Lf.ar{p:Nat->Bool}(h:∀k,p k=true->ae k=aq k){l:Lf}(e:l.all p=true):l.af ae=l.af aq:=by
 obtain⟨ts,n⟩:=l;simp only[Lf.all]at e;have:pn ae ts=pn aq ts:=by
   induction ts with
   |nil=>rfl
   | cons t ts ih=>
     obtain⟨c,t⟩:=t;simp only[List.all_cons,ao]at e;simp only[pn,ih e.2,IE.ar h e.1]
 simp only[Lf.af,this]
theorem JS(h:s.ok ae){p:Nat->Bool}(he:∀k,p k=true->ae k=aq k):(s.gF p).ok aq:=by
 refine⟨fun x hx=>?_,fun l hl=>?_,fun q hq=>?_⟩;obtain⟨h1,h2⟩:=jA.1 hx;rw[<- he _ h2];exact h.g x h1;obtain⟨h1,h2⟩:=jA.1 hl;rw[<- Lf.ar he h2];exact h.q l h1;obtain⟨h1,h2⟩:=jA.1 hq;rw[<- BE.ar he h2];exact h.f q h1
theorem tc{base n:Nat}{ds:List DV}(hn:ds.length=n){k:Nat}(h:jk base n k=true):ae k=ae.av base ds k:=by
 rcases Gj.1 h with h|h;exact(az.bd h).symm;exact(az.fg (by omega)).symm
theorem Eu{k j:Nat}{d:DV}(h:jk j 1 k=true):ae k=ae.set j d k:=by
 have:=Gj.1 h;simp only[az.set];rw[if_neg (by omega)]
theorem kO.len:∀ {as:List A} {ds:List DV},kO as ds->as.length=ds.length:=by
 intro as;induction as with
 | nil=>intro ds h;cases ds with
   |nil=>rfl
   |cons d ds=>exact h.elim
 | cons a as ih=>intro ds h;cases ds with
   |nil=>exact h.elim
   |cons d ds=>simp[ih h.2]
theorem kO.at:∀ {as:List A} {ds:List DV} {i:Nat} {a:A},kO as ds->as[i]?=some a->∃d,ds[i]?=some d/\a.has d:=by
 intro as;induction as with
 |nil=>intro ds i a _ h;simp at h
 | cons x as ih=>
   intro ds i a h hi;cases ds with
   |nil=>exact h.elim
   | cons d ds=>
     cases i with
     |zero=>simp only[jZ,ah]at hi;subst hi;exact⟨d,rfl,h.1⟩
     |succ i=>simp only[zy]at hi ⊢;exact ih h.2 hi
theorem Ib:∀ {as:List A} {base:Nat} {p:Nat×A},p∈n7 base as->∃i,p.1=base+i/\as[i]?=some p.2:=by
 intro as;induction as with
 |nil=>intro base p h;simp[n7]at h
 | cons a as ih=>
   intro base p h;rcases bD.1 h with rfl|h;exact⟨0,rfl,rfl⟩;obtain⟨i,h1,h2⟩:=ih h;exact⟨i+1,by omega,by simpa using h2⟩
theorem oa{as:List A}{ds:List DV}{base:Nat}(h:kO as ds):∀p∈n7 base as,p.2.has (ae.av base ds p.1):=by
 intro p hp;obtain⟨i,h1,h2⟩:=Ib hp;obtain⟨d,h3,h4⟩:=h.at h2;rw[h1,az.c8 h3];exact h4
theorem AO:∀ {cs ds:List (Int×Int)} {j:Nat} {r:List Int},cA cs j r->cA (ig cs ds) j r:=by
 intro cs;induction cs with
 |nil=>intro ds j r h;simp[ig,cA]
 | cons c cs ih=>
   intro ds j r h;cases ds with
   |nil=>simp[ig,cA]
   | cons d ds=>
     have:=h.1;refine⟨?_,ih h.2⟩;show min c.1 d.1<=_/\_<=max c.2 d.2;omega
theorem AP:∀ {cs ds:List (Int×Int)} {j:Nat} {r:List Int},cA ds j r->cA (ig cs ds) j r:=by
 intro cs;induction cs with
 |nil=>intro ds j r h;simp[ig,cA]
 | cons c cs ih=>
   intro ds j r h;cases ds with
   |nil=>simp[ig,cA]
   | cons d ds=>
     have:=h.1;refine⟨?_,ih h.2⟩;show min c.1 d.1<=_/\_<=max c.2 d.2;omega
theorem Gk:∀ {rs:List Rg} {xs:List Int} {j:Nat} {row:List Int},(∀i r,rs[i]?=some r->In r (row.getD (j+i) 0))->cA (Eo rs) j row:=by
 intro rs;induction rs with
 |nil=>intro xs j row h;simp[Eo,cA]
 | cons r rs ih=>
   intro xs j row h;unfold Eo;split;rename_i x y r' e;injection e with e1 e2;subst e1;subst e2;have:=h 0 _ rfl;refine⟨qo.1 this,ih (xs:=[]) fun i r hi=>?_⟩;have:=h (i+1) r (by simpa using hi);rwa[show j+(i+1)=j+1+i by omega]at this;simp[cA]
theorem AQ(h:s.ok ae)(x:Sum IE BE):In (s.yD x) (b9 ae x):=by
 cases x with
 |inl e=>exact wi h e
 |inr b=>simp only[Sk.yD,b9];split<;>exact qo.2 (by omega)
theorem xE(h:s.ok ae)(xs:List (Sum IE BE)):cA (Eo (xs.map s.yD)) 0 (xs.map (b9 ae)):=by
 refine Gk (xs:=[]) fun i r hi=>?_;simp only[jt,bJ]at hi;obtain⟨x,hx,rfl⟩:=hi;rw[fC,cq,jt,hx];exact AQ h x
theorem CX:∀ {cs:List (List (Int×Int))} {c:List (Int×Int)} {r:List Int},c∈cs->cA c 0 r->cA (JK cs) 0 r:=by
 intro cs;induction cs with
 |nil=>intro c r h;cases h
 | cons d cs ih=>
   intro c r hm h;cases cs with
   | nil => rcases bD.1 hm with rfl|hm
            exact h;cases hm
   | cons e cs=>
     rcases bD.1 hm with rfl|hm;exact AO h;exact AP (ih hm h)
theorem YX(h:s.ok ae)(d:DE):(s.de d).has (d.af ae):=by
 cases d with
 | i e=>
   simp only[Sk.de,DE.af];have:=wi h e;split;rename_i x y he;rw[he]at this;exact qo.1 this;trivial
 |b e=>trivial
 | l k=>
   simp only[Sk.de,DE.af];split;rename_i a b c e;obtain⟨xs,hx,h1⟩:=uC (h.find e);rw[hx];exact h1;exact⟨by omega,fun _ e=>(by cases e),fun _ _=>trivial⟩
 |nil=>exact⟨by simp,fun y e=>(by cases e;simp),fun r hr=>(by cases hr)⟩
 | rows es=>
   refine⟨by simp,fun y e=>(by cases e;simp),fun r hr=>?_⟩;obtain⟨e,he,rfl⟩:=jb.1 hr;refine CX (jb.2 ⟨e,he,rfl⟩) (Gk (xs:=[]) fun i r hi=>?_);cases i with
   |zero=>simp only[jZ,ah]at hi;subst hi;exact wi h e
   |succ i=>simp at hi
 | uV xs=>
   refine⟨by simp,fun y e=>(by cases e;simp),fun r hr=>?_⟩;rcases lg.1 hr with rfl;exact xE h xs
theorem Gl{d:DE}{n:IE}(h:d.OW=some n):∃xs,d.af ae = .l xs/\n.af ae=(xs.length:Int):=by
 cases d<;>simp[DE.OW]at h<;>subst h;exact⟨_,rfl,rfl⟩;exact⟨_,rfl,rfl⟩;exact⟨_,rfl,by simp[IE.af]⟩;exact⟨_,rfl,by simp[IE.af]⟩
theorem Ic:∀ {cs ds:List (Int×Int)} {j:Nat} {r:List Int},AH cs ds=true->cA cs j r->cA ds j r:=by
 intro cs;induction cs with
 | nil=>intro ds j r h _;cases ds with
   |nil=>trivial
   |cons d ds=>simp[AH]at h
 | cons c cs ih=>
   intro ds j r h hr;cases ds with
   |nil=>trivial
   | cons d ds=>
     simp only[AH,ao,aC]at h;have:=hr.1;exact⟨by omega,ih h.2.2 hr.2⟩
theorem AR(h:s.ok ae){d:DE}{a:A}(e:s.fits d a=true):a.has (d.af ae):=by
 cases a with
 |t=>cases d<;>trivial
 | i lo hi=>
   cases d with
   | i x=>
     simp only[Sk.fits,ao]at e;exact⟨mC (fV h e.1),mC (fV h e.2)⟩
   |_=>simp[Sk.fits]at e
 | b=>cases d with
   |b x=>trivial
   |_=>simp[Sk.fits]at e
 | l n0 n1 cs=>
   simp only[Sk.fits]at e;split at e;rename_i n a b c hn hd;obtain⟨xs,hx,hl⟩:=Gl (ae:=ae) hn;have hde:=YX h d;rw[hd,hx]at hde;obtain⟨g1,g2,g3⟩:=hde;simp only[ao,fF,aC]at e;rw[hx];refine⟨?_,fun y hy=>?_,fun r hr=>?_⟩;rcases e.1.1 with e|e;omega;have:n0<=n.af ae:=mC (fV h e);omega;have:=e.1.2;subst hy;have:n.af ae<=y:=mC (fV h this);omega;rcases e.2 with e|e;exact Ic e (g3 r hr);cases b with
   |none=>cases e
   | some z=>
     have:=g2 z rfl;have e:=mC e;have:xs.length=0:=by omega
     rw[List.length_eq_zero_iff]at this;subst this;cases hr
   cases e
theorem oL{r:List Int}{j:Nat}{x:Int}(k:Nat):(nL r j x).getD k 0=if k=j then x else r.getD k 0:=by
 unfold nL;split;rename_i h;simp only[cq,List.getElem?_set];split;rename_i e;subst e;simp[h];rename_i e;rw[if_neg (fun e'=>e e'.symm)];rename_i h;simp only[cq];by_cases h1:k<r.length;rw[mJ h1,if_neg (by omega)];rw[pB (by omega)];rw[rZ (l:=r) (by omega)];by_cases h2:k=j;rw[if_pos h2,pB (by simp;omega)];simp only[List.length_replicate];rw[show k-r.length-(j-r.length)=0 by omega];rfl;rw[if_neg h2];by_cases h3:k<j;rw[mJ (by simp;omega),Fu,if_pos (by omega)];rfl;rw[rZ (by simp;omega)]
theorem Gm:∀ {cs:List (Int×Int)} {j m:Nat} {x:Rg} {r r':List Int},cA cs m r->In x (r'.getD (m+j) 0)->(∀k,k≠m+j->r'.getD k 0=r.getD k 0)->cA (Ep cs j x) m r':=by
 intro cs;induction cs with
 |nil=>intro j m x r r' _ _ _;cases j<;>simp[Ep,cA]
 | cons c cs ih=>
   intro j m x r r' h hx hr;cases j with
   | zero=>
     simp only[Ep];split;rename_i a b;obtain⟨g1,g2⟩:=qo.1 hx;rw[gP]at g1 g2;refine⟨⟨by show min c.1 a<=_;omega,by show _<=max c.2 b;omega⟩,?_⟩;have:∀ {cs:List (Int×Int)} {n:Nat},m<n->cA cs n r->cA cs n r':=by
       intro cs;induction cs with
       |nil=>intro n _ _;trivial
       | cons d ds ihd=>
         intro n hn h;refine⟨?_,ihd (by omega) h.2⟩;rw[hr n (by omega)];exact h.1
     exact this (by omega) h.2;trivial
   | succ j=>
     refine⟨?_,ih h.2 ?_ fun k hk=>hr k (by omega)⟩;rw[hr m (by omega)];exact h.1;rwa[show m+1+j=m+(j+1)by omega]
theorem Mg:∀ {xs:List Rg} {vs:List Int} {cs:List (Int×Int)} {j:Nat} {r:List Int},cA cs 0 r->(xs.length=vs.length/\∀(i:Nat) (x:Rg) (v:Int),xs[i]?=some x->vs[i]?=some v->In x v)->cA (Gg cs j xs) 0 (jG r j vs):=by
 intro xs;induction xs with
 | nil=>intro vs cs j r h hx;cases vs with
   |nil=>exact h
   |cons v vs=>simp at hx
 | cons x xs ih=>
   intro vs cs j r h hx;cases vs with
   |nil=>simp at hx
   | cons v vs=>
     simp only[Gg,jG];refine ih (Gm h ?_ fun k hk=>?_) ⟨by simpa using hx.1,fun i x v h1 h2=>hx.2 (i+1) x v (by simpa using h1) (by simpa using h2)⟩;rw[oL,if_pos (by omega)];exact hx.2 0 x v rfl rfl;rw[oL,if_neg (by omega)]
theorem vk{xs:List (List Int)}{cs ds:List (Int×Int)}{i:Nat}{f:List Int->List Int}(h:∀r∈xs,cA cs 0 r)(hw:∀r,cA cs 0 r->cA ds 0 r)(hf:∀r∈xs,cA ds 0 (f r)):∀r∈xs.modify i f,cA ds 0 r:=by
 intro r hr;obtain⟨n,hn,rfl⟩:=List.getElem_of_mem hr;rw[List.getElem_modify];rw[List.length_modify]at hn;split;exact hf _ (List.getElem_mem hn);exact hw _ (h _ (List.getElem_mem hn))
theorem gl(h:s.ok ae)(k:Nat):(s.jv k).1<=((ae k).list.length:Int)/\(∀y,(s.jv k).2.1=some y->((ae k).list.length:Int)<=y)/\∀r∈(ae k).list,cA (s.jv k).2.2 0 r:=by
 unfold Sk.jv;split;rename_i a b c e;obtain⟨xs,hx,h1⟩:=uC (h.find e);rw[hx];exact h1;exact⟨by simp,fun _ e=>(by cases e),fun _ _=>trivial⟩
theorem CY{cs:List (Int×Int)}{j m:Nat}{x:Rg}{r:List Int}(h:cA cs m r):cA (Ep cs j x) m r:=by
 induction cs generalizing j m with
 |nil=>cases j<;>simp[Ep,cA]
 | cons c cs ih=>
   cases j with
   | zero=>
     simp only[Ep];split;rename_i a b;have:=h.1;exact⟨⟨by show min c.1 a<=_;omega,by show _<=max c.2 b;omega⟩,h.2⟩;trivial
   |succ j=>exact⟨h.1,ih h.2⟩
theorem Ie:∀ {xs:List Rg} {cs:List (Int×Int)} {j:Nat} {r:List Int},cA cs 0 r->cA (Gg cs j xs) 0 r:=by
 intro xs;induction xs with
 |nil=>intro cs j r h;exact h
 |cons x xs ih=>intro cs j r h;exact ih (CY h)
theorem qY{x:Int×Option Int×List (Int×Int)}{n:List (List Int)}(e:xA x=true)(h:∀y,x.2.1=some y->(n.length:Int)<=y):n=[]:=by
 unfold xA at e;split at e;rename_i y hy;have:=h y hy;simp only[aC]at e;exact List.length_eq_zero_iff.1 (by omega);cases e
theorem Pa:∀ {aN:List NK} {hs rest:List Int} {j:Nat},(o8 aN hs rest j).length<=(hs.getD j 0).toNat:=by
 intro aN;induction aN with
 |nil=>intro hs rest j;simp[o8]
 | cons k aN ih=>
   intro hs rest j;cases k with
   | c x=>
     cases j with
     |zero=>simp[o8]
     | succ j=>
       have:=ih (hs:=hs.tail) (rest:=rest) (j:=j);simp only[o8];cases hs with
       |nil=>simpa using this
       |cons h hs=>simpa using this
   | s e x=>
     cases j with
     | zero=>
       simp only[o8];cases hs with
       |nil=>simp
       |cons h hs=>simp;omega
     | succ j=>
       have:=ih (hs:=hs.tail) (rest:=rest.drop (hs.headD 0).toNat) (j:=j);simp only[o8];cases hs with
       |nil=>simpa using this
       |cons h hs=>simpa using this
theorem Ig{aN:List NK}{r:List Int}{j:Nat}:(ew aN r j).length<=(r.getD j 0).toNat:=by
 unfold ew;refine kL Pa ?_;simp only[cq,zI];split;exact fu _;simp
theorem Uz(h:s.ok ae){id:Nat}{op:cU}(ho:op.all (jk id 1)=true):(s.NW id op).1.has (.l (op.af ae))/\∀p∈(s.NW id op).2,p.af (ae.set id (.l (op.af ae)))=true:=by
 have kT:∀k,jk id 1 k=true->ae.set id (.l (op.af ae)) k=ae k:=fun k hk=>(Eu hk).symm;have hi:(ae.set id (.l (op.af ae)) id) = .l (op.af ae):=by simp[az.set]
 have key:∀ {n:IE} {m:Int},((op.af ae).length:Int)=m->n.af (ae.set id (.l (op.af ae)))=m->∀p∈[BE.eq (.len id) n],p.af (ae.set id (.l (op.af ae)))=true:=by
   intro n m h1 h2 p hp;rcases lg.1 hp with rfl;simp only[BE.af,IE.af,hi,DV.list,aC];omega
 have hlen:∀k,jk id 1 k=true->IE.af (ae.set id (.l (op.af ae))) (.len k)=((ae k).list.length:Int):=fun k hk=>by simp only[IE.af,kT k hk]
 have ien:∀ {e:IE},e.all (jk id 1)=true->e.af (ae.set id (.l (op.af ae)))=e.af ae:=fun {e} he=>IE.ar (fun k hk=>kT k hk) he;cases op with
 | lit rows=>
   refine⟨⟨by simp[cU.af],fun y e=>(by cases e;simp[cU.af]),fun r hr=>?_⟩,fun p hp=>?_⟩;obtain⟨x,hx,rfl⟩:=jb.1 hr;exact CX (jb.2 ⟨x,hx,rfl⟩) (xE h x);simp only[Sk.NW]at hp;split at hp;rename_i r rs;split at hp;simp only[cU.all,List.all_cons,ao]at ho;have hc:∀(l:List (Sum IE BE)) (j:Nat),l.all (jd (jk id 1))=true->(∀i,(r.map (b9 ae)).getD (j+i) 0=(l.map (b9 ae)).getD i 0)->∀p∈xB id l j,p.af (ae.set id (.l (cU.af ae (.lit (r::rs)))))=true:=by
     intro l;induction l with
     |nil=>intro j _ _ p hp;cases hp
     | cons x l ih=>
       intro j ha hg p hp;simp only[List.all_cons,ao]at ha;have Ww:=ih (j+1) ha.2 fun i=>by
         have:=hg (i+1);rw[show j+1+i=j+(i+1)by omega,this];simp
       cases x with
       |inr b=>exact Ww p (by simpa[xB]using hp)
       | inl e=>
         simp only[xB,bD]at hp;rcases hp with rfl|hp;have h0:=hg 0;simp only[gP,jK,List.getD_cons_zero,b9]at h0;refine gQ ?_;have e1:IE.af (ae.set id (.l (cU.af ae (.lit (r::rs))))) e=e.af ae:=ien ha.1;rw[e1,<- h0];show cellAt ((ae.set id (.l (cU.af ae (.lit (r::rs))))) id).list 0 j=_;rw[hi];rfl;exact Ww p hp
   exact hc r 0 ho.1 (fun i=>by rw[fC]) p hp;cases hp;cases hp
 | app a b=>
   simp only[cU.all,ao]at ho;obtain⟨a1,a2,a3⟩:=gl h a;obtain⟨b1,b2,b3⟩:=gl h b;refine⟨⟨by simp only[cU.af,eY];omega,fun y e=>?_,fun r hr=>?_⟩,?_⟩;obtain⟨u,v,hu,hv,rfl⟩:=kC e;have:=a2 u hu;have:=b2 v hv
   simp only[cU.af,eY];show _<=u+v;omega;rcases lQ.1 hr with hr|hr;split;rename_i he;rw[qY he a2]at hr;cases hr;split;exact a3 r hr;exact AO (a3 r hr);split;exact b3 r hr;split;rename_i he;rw[qY he b2]at hr;cases hr;exact AP (b3 r hr);intro p hp;rcases bD.1 hp with rfl|hp;refine key (m:=((ae a).list.length:Int)+((ae b).list.length:Int)) (by simp[cU.af]) ?_ _ (lg.2 rfl);have e1:=hlen a ho.1;have e2:=hlen b ho.2;simp only[IE.af]at e1 e2 ⊢;rw[e1,e2];split at hp;rename_i hc;obtain⟨j,_,rfl⟩:=jb.1 hp;refine gQ ?_;show cellAt ((ae.set id (.l (cU.af ae (.app a b)))) id).list 0 j=cellAt ((ae.set id (.l (cU.af ae (.app a b)))) a).list 0 j;rw[hi,kT a ho.1];show cellAt ((ae a).list++(ae b).list) 0 j=_;unfold cellAt;have hl:0<(ae a).list.length:=by omega
   have e3:((ae a).list++(ae b).list).getD (0:Int).toNat []=(ae a).list.getD (0:Int).toNat []:=by
     rw[cq,cq,mJ (by simpa using hl)]
   rw[e3];cases hp
 | set a i j x=>
   simp only[cU.all,ao]at ho;obtain⟨a1,a2,a3⟩:=gl h a;have hl:(cU.af ae (.set a i j x)).length=(ae a).list.length:=by simp[cU.af,setAt]
   refine⟨⟨by rw[hl];exact a1,fun y e=>(by rw[hl];exact a2 y e),?_⟩,key (m:=((ae a).list.length:Int)) (by rw[hl]) (hlen a ho.1)⟩;refine vk a3 (fun r hr=>CY hr) fun r hr=>Gm (a3 r hr) ?_ fun k hk=>?_;rw[oL,if_pos (by omega)];exact AQ h x;rw[oL,if_neg (by omega)]
 | zM a i xs=>
   simp only[cU.all,ao]at ho;obtain⟨a1,a2,a3⟩:=gl h a;have hl:(cU.af ae (.zM a i xs)).length=(ae a).list.length:=by simp[cU.af]
   refine⟨⟨by rw[hl];exact a1,fun y e=>(by rw[hl];exact a2 y e),?_⟩,key (m:=((ae a).list.length:Int)) (by rw[hl]) (hlen a ho.1)⟩;exact vk a3 (fun r hr=>AO hr) fun r hr=>AP (xE h xs)
 | BG a i j xs=>
   simp only[cU.all,ao]at ho;obtain⟨a1,a2,a3⟩:=gl h a;have hl:(cU.af ae (.BG a i j xs)).length=(ae a).list.length:=by simp[cU.af]
   refine⟨⟨by rw[hl];exact a1,fun y e=>(by rw[hl];exact a2 y e),?_⟩,key (m:=((ae a).list.length:Int)) (by rw[hl]) (hlen a ho.1)⟩;refine vk a3 (fun r hr=>Ie hr) fun r hr=>Mg (a3 r hr) ⟨by simp,fun k x v h1 h2=>?_⟩;simp only[jt,bJ]at h1 h2;obtain⟨u,hu,rfl⟩:=h1;obtain⟨v,hv,rfl⟩:=h2;rw[hu]at hv;cases hv;exact AQ h u
 | take a n=>
   simp only[cU.all,ao]at ho;obtain⟨a1,a2,a3⟩:=gl h a;have hn:=Es (wi h n) (show In (some 0,some 0) 0 from qo.2 (by omega));have hl:((cU.af ae (.take a n)).length:Int)=min ((ae a).list.length:Int) (max (n.af ae) 0):=by simp only[cU.af,ua];omega
   refine⟨⟨Int.natCast_nonneg _,fun y e=>?_,fun r hr=>a3 r (List.mem_of_mem_take hr)⟩,?_⟩;rw[hl];exact(JN (a:=(none,(s.jv a).2.1)) ⟨fun _ e=>(by cases e),a2⟩ hn).2 y e;simp only[Sk.NW];split;rename_i hc;simp only[ao]at hc;have h1:n.af ae<=((ae a).list.length:Int):=mC (fV h hc.1);have h2:0<=n.af ae:=mC (fV h hc.2);exact key (m:=n.af ae) (by rw[hl];omega) (ien ho.2);intro p hp;cases hp
 | rep n row=>
   simp only[cU.all]at ho;have hn:=Es (wi h n) (show In (some 0,some 0) 0 from qo.2 (by omega));have hl:((cU.af ae (.rep n row)).length:Int)=max (n.af ae) 0:=by simp only[cU.af,List.length_replicate];omega
   refine⟨⟨Int.natCast_nonneg _,fun y e=>(by rw[hl];exact hn.2 y e),fun r hr=>?_⟩,?_⟩;have:=List.eq_of_mem_replicate hr;subst this;have gen:∀ {l:List Int} {m:Nat},(∀i,r.getD (m+i) 0=l.getD i 0)->cA (l.map fun x=>(x,x)) m r:=by
     intro l;induction l with
     |nil=>intro m _;trivial
     | cons x l ih=>
       intro m hm;refine⟨?_,ih fun i=>?_⟩;have:=hm 0;simp only[gP]at this;rw[this];simp;have:=hm (i+1);rw[show m+1+i=m+(i+1)by omega,this];simp
   exact gen fun i=>by rw[fC]
   simp only[Sk.NW];split;rename_i hc;have h1:0<=n.af ae:=mC (fV h hc);exact key (m:=n.af ae) (by rw[hl];omega) (ien ho);intro p hp;cases hp
 | cp a=>
   simp only[cU.all]at ho;obtain⟨a1,a2,a3⟩:=gl h a;exact⟨⟨a1,a2,a3⟩,key (m:=((ae a).list.length:Int)) rfl (hlen a ho)⟩
 | sub a i aN j=>
   refine⟨⟨by omega,fun y e=>?_,fun _ _=>trivial⟩,fun p hp=>(by cases hp)⟩;obtain⟨a1,a2,a3⟩:=gl h a;split at e;rename_i c hc;cases e;have:=(JP (i:=i.af ae) a3 (show(s.jv a).2.2[j]?=some (c.1,c.2)from hc)).2.2;have hl:=Ig (aN:=aN) (r:=(ae a).list.getD (i.af ae).toNat []) (j:=j);simp only[cU.af,ot];unfold cellAt at this;omega;cases e
 | Nc a b=>
   simp only[cU.all,ao]at ho;obtain⟨a1,a2,a3⟩:=gl h a;obtain⟨b1,b2,b3⟩:=gl h b;have hl:(cU.af ae (.Nc a b)).length=(ae a).list.length:=by simp only[cU.af,eY,ua,List.length_drop];omega
   refine⟨⟨by rw[hl];exact a1,fun y e=>(by rw[hl];exact a2 y e),fun r hr=>?_⟩,key (m:=((ae a).list.length:Int)) (by rw[hl]) (hlen a ho.1)⟩;rcases lQ.1 hr with hr|hr;have cO:=List.mem_of_mem_take hr;split;exact b3 r cO;split;rename_i he;rw[qY he b2]at cO;cases cO;exact AP (b3 r cO);have cO:=List.mem_of_mem_drop hr;split;rename_i he;rw[qY he a2]at cO;cases cO;split;exact a3 r cO;exact AO (a3 r cO)
 |BL rows=>exact⟨⟨by simp[cU.af],fun y e=>(by cases e;simp[cU.af]),fun _ _=>trivial⟩,fun p hp=>(by cases hp)⟩
def Sb.is(ae:az):Sb->DV->Prop
 |.nm k,d=>ae k=d
 |.de x,d=>x.af ae=d
 |.no,_=>True
variable {σ:Nat->Sb}{fU:az}
theorem nh{α β γ:Type}{f:α->β->γ}{a:Option α}{b:Option β}{z:γ}(h:p2 f a b=some z):∃x y,a=some x/\b=some y/\z=f x y:=by
 cases a<;>cases b<;>simp_all[p2]
theorem wj{α β:Type}{f:α->β}{a:Option α}{z:β}(h:p1 f a=some z):∃x,a=some x/\z=f x:=by
 cases a<;>simp_all[p1]
theorem acj{b:Sb}{d:DV}{e:IE}(h:b.is ae d)(he:b.int=some e):e.af ae=d.int:=by
 cases b with
 |nm k=>simp only[Sb.int,ah]at he;subst he;simp only[IE.af];rw[show ae k=d from h]
 | de x=>
   cases x<;>simp[Sb.int,DE.asI]at he;subst he;rw[<- (show _=d from h)];rfl
 |no=>simp[Sb.int]at he
theorem YY{b:Sb}{d:DV}{e:BE}(h:b.is ae d)(he:b.bool=some e):e.af ae=d.bool:=by
 cases b with
 |nm k=>simp only[Sb.bool,ah]at he;subst he;simp only[BE.af];rw[show ae k=d from h]
 | de x=>
   cases x<;>simp[Sb.bool,DE.asB]at he;subst he;rw[<- (show _=d from h)];rfl
 |no=>simp[Sb.bool]at he
theorem ack{b:Sb}{d:DV}{e:IE}(h:b.is ae d)(he:b.len=some e):e.af ae=(d.list.length:Int):=by
 cases b with
 |nm k=>simp only[Sb.len,ah]at he;subst he;simp only[IE.af];rw[show ae k=d from h]
 | de x=>
   obtain⟨xs,h1,h2⟩:=Gl (ae:=ae) (show x.OW=some e from he);rw[h2,<- (show _=d from h),h1];rfl
 |no=>simp[Sb.len]at he
theorem YZ{b:Sb}{d:DV}{k:Nat}(h:b.is ae d)(he:b.list=some k):(ae k).list=d.list:=by
 cases b with
 |nm j=>simp only[Sb.list,ah]at he;subst he;rw[show ae j=d from h]
 | de x=>
   cases x<;>simp[Sb.list,DE.asL]at he;subst he;rw[<- (show _=d from h)];rfl
 |no=>simp[Sb.list]at he
theorem Y0{b:Sb}{d:DV}{m:Option Int}{j:Nat}{e i:IE}(h:b.is ae d)(hm:i.isC=m)(he:b.cell m j=some e)(hi:i.af fU=i.af fU):e.af ae=cellAt d.list (i.af fU) j:=by
 unfold Sb.cell at he;split at he;cases he;rw[<- (show _=d from h)];simp[DE.af,DV.list,cellAt,IE.af];rename_i es m;split at he;rename_i h0;rw[Et hm,<- (show _=d from h)];have e2:(es.map fun e=>[e.af ae]).getD m.toNat []=[e.af ae]:=by
   rw[cq,jt,he];rfl
 show _=((es.map fun e=>[e.af ae]).getD m.toNat []).getD 0 0;rw[e2];rfl;cases he;rename_i xs;rw[Et hm,<- (show _=d from h)];split at he;rename_i e' hx;cases he;simp only[DE.af,DV.list,cellAt];show _=(List.map (b9 ae) xs).getD j 0;rw[cq,jt,hx];rfl;cases he;cases he
theorem Gn(h:∀k,(σ k).is ae (fU k)):∀ {e e':IE},e.put σ=some e'->e'.af ae=e.af fU:=by
 intro e;induction e with
 |v k=>intro e' he;exact acj (h k) he
 |c n=>intro e' he;cases he;rfl
 |ediv a n ih=>intro e' he;obtain⟨x,hx,rfl⟩:=wj he;simp only[IE.af,ih hx]
 |emod a n ih=>intro e' he;obtain⟨x,hx,rfl⟩:=wj he;simp only[IE.af,ih hx]
 |wrap k a ih=>intro e' he;obtain⟨x,hx,rfl⟩:=wj he;simp only[IE.af,ih hx]
 |len k=>intro e' he;exact ack (h k) he
 | get k i j ih=>
   intro e' he;simp only[IE.put]at he;split at he;rename_i x hx;cases he;exact Y0 (h k) rfl hx rfl;obtain⟨x,y,hx,hy,rfl⟩:=nh he;simp only[IE.af,ih hy,YZ (h k) hx]
 | kZ i n a b ihi eW fA=>
   intro e' he;obtain⟨x,y,hx,hy,rfl⟩:=nh he;obtain⟨u,v,hu,hv,rfl⟩:=nh hy;simp only[IE.af,ihi hx,eW hu,fA hv]
 |bits o k a b eW fA=>intro e' he;obtain⟨x,y,hx,hy,rfl⟩:=nh he;simp only[IE.af,eW hx,fA hy]
 |_ a b eW fA=>intro e' he;obtain⟨x,y,hx,hy,rfl⟩:=nh he;simp only[IE.af,eW hx,fA hy]
theorem acm(h:∀k,(σ k).is ae (fU k)):∀ {e e':BE},e.put σ=some e'->e'.af ae=e.af fU:=by
 intro e;induction e with
 |v k=>intro e' he;exact YY (h k) he
 |c n=>intro e' he;cases he;rfl
 |not a ih=>intro e' he;obtain⟨x,hx,rfl⟩:=wj he;simp only[BE.af,ih hx]
 |tu a=>intro e' he;obtain⟨x,hx,rfl⟩:=wj he;simp only[BE.af,Gn h hx]
 |lt a b=>intro e' he;obtain⟨x,y,hx,hy,rfl⟩:=nh he;simp only[BE.af,Gn h hx,Gn h hy]
 |le a b=>intro e' he;obtain⟨x,y,hx,hy,rfl⟩:=nh he;simp only[BE.af,Gn h hx,Gn h hy]
 |eq a b=>intro e' he;obtain⟨x,y,hx,hy,rfl⟩:=nh he;simp only[BE.af,Gn h hx,Gn h hy]
 |_ a b eW fA=>intro e' he;obtain⟨x,y,hx,hy,rfl⟩:=nh he;simp only[BE.af,eW hx,fA hy]
theorem qZ(e:IE):(∀k∈e.names,ae k=aq k)->e.af ae=e.af aq:=by
 induction e with
 |v k=>intro h;simp only[IE.af,h k (by simp[IE.names])]
 |c n=>intro _;rfl
 |len k=>intro h;simp only[IE.af,h k (by simp[IE.names])]
 |get k i j ih=>intro h;simp only[IE.names,bD,forall_eq_or_imp]at h;simp only[IE.af,h.1,ih h.2]
 |kZ i n a b tX tY XT=>intro h;simp only[IE.names,lQ]at h;simp only[IE.af,tX fun k hk=>h k (.inl (.inl hk)),tY fun k hk=>h k (.inl (.inr hk)),XT fun k hk=>h k (.inr hk)]
 |ediv a n ih=>intro h;simp only[IE.af,ih h]
 |emod a n ih=>intro h;simp only[IE.af,ih h]
 |wrap k a ih=>intro h;simp only[IE.af,ih h]
 |bits o k a b tX tY=>intro h;simp only[IE.names,lQ]at h;simp only[IE.af,tX fun k hk=>h k (.inl hk),tY fun k hk=>h k (.inr hk)]
 |_ a b tX tY=>intro h;simp only[IE.names,lQ]at h;simp only[IE.af,tX fun k hk=>h k (.inl hk),tY fun k hk=>h k (.inr hk)]
theorem Y1(e:BE):(∀k∈e.names,ae k=aq k)->e.af ae=e.af aq:=by
 induction e with
 |v k=>intro h;simp only[BE.af,h k (by simp[BE.names])]
 |c n=>intro _;rfl
 |not a ih=>intro h;simp only[BE.af,ih h]
 |tu a=>intro h;simp only[BE.af,qZ a h]
 |lt a b=>intro h;simp only[BE.names,lQ]at h;simp only[BE.af,qZ a fun k hk=>h k (.inl hk),qZ b fun k hk=>h k (.inr hk)]
 |le a b=>intro h;simp only[BE.names,lQ]at h;simp only[BE.af,qZ a fun k hk=>h k (.inl hk),qZ b fun k hk=>h k (.inr hk)]
 |eq a b=>intro h;simp only[BE.names,lQ]at h;simp only[BE.af,qZ a fun k hk=>h k (.inl hk),qZ b fun k hk=>h k (.inr hk)]
 |_ a b tX tY=>intro h;simp only[BE.names,lQ]at h;simp only[BE.af,tX fun k hk=>h k (.inl hk),tY fun k hk=>h k (.inr hk)]
end
section
variable {s:Sk}{ae:az}
def Cn.gN(c:Cn)(ds:List DV):Prop:=kO c.args ds/\∀p∈c.pre,p.af (aR.av 0 ds)=true
def fU(ds rs:List DV):az:=(aR.av 0 ds).av R0 rs
def Cn.ij(c:Cn)(ds rs:List DV):Prop:=kO c.res rs/\∀p∈c.post,p.af (fU ds rs)=true
theorem append_nil{α:Type}{a b:List α}(h:a++b=[]):a=[]/\b=[]:=by
 cases a<;>simp_all
theorem ni(h:s.ok ae){fk:List (List BE×BE)}(hl:∀l∈fk,gb l){p:BE}(e:s.ask fk p=[]):p.af ae=true:=by
 unfold Sk.ask at e;split at e;rename_i hs;exact YW h hl hs;cases e
theorem Pb(h:s.ok ae){fk:List (List BE×BE)}(hl:∀l∈fk,gb l){d:DE}{a:A}(e:s.H8 fk d a=[]):a.has (d.af ae):=by
 cases a with
 | i lo hi=>
   cases d with
   | i x=>
     simp only[Sk.H8]at e;obtain⟨e1,e2⟩:=append_nil e;exact⟨mC (ni h hl e1),mC (ni h hl e2)⟩
   |_=>simp[Sk.H8]at e
 | b => simp only[Sk.H8]at e;split at e
        rename_i hf;exact AR h hf;cases e
 | t => simp only[Sk.H8]at e;split at e
        rename_i hf;exact AR h hf;cases e
 | l x y z => simp only[Sk.H8]at e;split at e
              rename_i hf;exact AR h hf;cases e
theorem tQ(h:s.ok ae){fk:List (List BE×BE)}(hl:∀l∈fk,gb l):∀ {ds:List DE} {as:List A},s.s6 fk ds as=[]->kO as (ds.map (DE.af ae)):=by
 intro ds;induction ds with
 | nil=>intro as e;cases as with
   |nil=>trivial
   |cons a as=>simp[Sk.s6]at e
 | cons d ds ih=>
   intro as e;cases as with
   |nil=>simp[Sk.s6]at e
   | cons a as=>
     simp only[Sk.s6]at e;obtain⟨e1,e2⟩:=append_nil e;exact⟨Pb h hl e1,ih e2⟩
theorem wm(h:s.ok ae){fk:List (List BE×BE)}(hl:∀l∈fk,gb l){σ:Nat->Sb}{e2:az}(hσ:∀k,(σ k).is ae (e2 k)){ps:List BE}(e:s.asks fk σ ps=[]):∀p∈ps,p.af e2=true:=by
 intro p hp;unfold Sk.asks at e;rw[List.flatMap_eq_nil_iff]at e;have:=e p hp;split at this;rename_i p' xx;rw[<- acm hσ xx];exact ni h hl this;cases this
theorem UA{a c:A}{d:DV}(h:a.has d):(a.AG c).has d:=by
 cases a with
 | i x y=>cases c with
   |i z w=>obtain⟨n,rfl,g1,g2⟩:=JO h;exact⟨by omega,by omega⟩
   |_=>cases d<;>trivial
 | b=>cases c with
   |b=>exact h
   |_=>cases d<;>trivial
 |t=>cases c<;>cases d<;>trivial
 | l x y u=>cases c with
   | l z w v=>
     obtain⟨xs,rfl,g1,g2,g3⟩:=uC h;refine⟨by omega,fun t e=>?_,fun r hr=>?_⟩;obtain⟨p,q,hp,hq,rfl⟩:=kC e;have:=g2 p hp;show _<=max p q;omega;split;rename_i hn;cases y with
     |none=>cases hn
     | some y=>
       have:=g2 y rfl;have hn:=mC hn;have:xs=[]:=List.length_eq_zero_iff.1 (by omega);subst this;cases hr
     split;exact g3 r hr;exact AO (g3 r hr)
   |_=>cases d<;>trivial
theorem UB{a c:A}{d:DV}(h:c.has d):(a.AG c).has d:=by
 cases a with
 | i x y=>cases c with
   |i z w=>obtain⟨n,rfl,g1,g2⟩:=JO h;exact⟨by omega,by omega⟩
   |_=>cases d<;>trivial
 | b=>cases c with
   |b=>exact h
   |_=>cases d<;>trivial
 |t=>cases c<;>cases d<;>trivial
 | l x y u=>cases c with
   | l z w v=>
     obtain⟨xs,rfl,g1,g2,g3⟩:=uC h;refine⟨by omega,fun t e=>?_,fun r hr=>?_⟩;obtain⟨p,q,hp,hq,rfl⟩:=kC e;have:=g2 q hq;show _<=max p q;omega;split;exact g3 r hr;split;rename_i hn;cases w with
     |none=>cases hn
     | some w=>
       have:=g2 w rfl;have hn:=mC hn;have:xs=[]:=List.length_eq_zero_iff.1 (by omega);subst this;cases hr
     exact AP (g3 r hr)
   |_=>cases d<;>trivial
theorem UC:∀ {as:List A} {ds:List DV},kO as ds->kO (as.map fun a=>a.AG (Ca a)) ds:=by
 intro as;induction as with
 |nil=>intro ds h;exact h
 | cons a as ih=>intro ds h;cases ds with
   |nil=>exact h.elim
   |cons d ds=>exact⟨UA h.1,ih h.2⟩
theorem UD:∀ {cs:List CT} {as:List A},qW cs as=true->kO (as.map fun a=>a.AG (Ca a)) (defs cs):=by
 intro cs;induction cs with
 | nil=>intro as h;cases as with
   |nil=>trivial
   |cons a as=>simp[qW]at h
 | cons c cs ih=>
   intro as h;cases as with
   |nil=>simp[qW]at h
   | cons a as=>
     simp only[qW,ao]at h;have hr:=ih h.2;have h1:=h.1;have key:∀d:DV,(Ca a).has d->defs (c::cs)=d::defs cs->kO (List.map (fun a=>a.AG (Ca a)) (a::as)) (defs (c::cs)):=fun d hd e=>by
       rw[e];exact⟨UB hd,hr⟩
     cases c with
     | c k=>cases k with
       | i k=>cases a with
         |i x y=>exact key (.i 0) ⟨by omega,by omega⟩ rfl
         |t=>exact key (.i 0) trivial rfl
         |_=>simp at h1
       | b=>cases a with
         |b=>exact key (.b false) trivial rfl
         |t=>exact key (.b false) trivial rfl
         |_=>simp at h1
       | f=>cases a with
         |i x y=>exact key (.i 0) ⟨by omega,by omega⟩ rfl
         |t=>exact key (.i 0) trivial rfl
         |_=>simp at h1
     | s e ks=>cases a with
       |l x y z=>exact key (.l []) ⟨by simp,fun y e=>(by cases e;simp),fun r hr=>(by cases hr)⟩ rfl
       |t=>exact key (.l []) trivial rfl
       |_=>simp at h1
     | n e ks=>cases a with
       |l x y z=>exact key (.l []) ⟨by simp,fun y e=>(by cases e;simp),fun r hr=>(by cases hr)⟩ rfl
       |t=>exact key (.l []) trivial rfl
       |_=>simp at h1
def UE(ae:az)(pr:List Nat)(ls:List Lc)(F:Nat->List DV->Prop):Prop:=
 ∀id l,ls.find? (fun l=>Nat.beq l.id id)=some l->(∀k∈l.iv.names,k∈pr)/\∀vs,kO l.iv.as vs->(∀p∈l.iv.ex,p.af (ae.av l.base vs)=true)->(l.iv.me.af (ae.av l.base vs)).toNat<(l.iv.me.af ae).toNat->F id vs
def acn(er:Int×Int):Nat->List (Int->Prop)->Prop
 |0,_=>True
 |d+1,p::ps=>(∀n,er.1<=n->n<=er.2->p n)/\acn er d ps
 |_+1,[]=>False
theorem CZ{base:Nat}{vs:List DV}{aq:az}{k:Nat}(h:ae k=aq k):ae.av base vs k=aq.av base vs k:=by
 by_cases h1:k<base;rw[az.bd h1,az.bd h1,h];by_cases h2:base+vs.length<=k;rw[az.fg h2,az.fg h2,h];have e:vs[k-base]?=some (vs[k-base]'(by omega)):=dG _;rw[show k=base+(k-base)by omega,az.c8 e,az.c8 e]
theorem UE.move{aq:az}{pr:List Nat}{ls:List Lc}{F:Nat->List DV->Prop}(h:UE ae pr ls F)(he:∀k∈pr,ae k=aq k):UE aq pr ls F:=by
 intro id l hl;obtain⟨h1,h2⟩:=h id l hl;refine⟨h1,fun vs hv hx hm=>h2 vs hv (fun p hp=>?_) ?_⟩;rw[Y1 p (aq:=aq.av l.base vs) fun k hk=>CZ (he k (h1 k ?_))];exact hx p hp;exact BJ _ (List.mem_flatMap.2 ⟨p,hp,hk⟩);have e1:l.iv.me.af (ae.av l.base vs)=l.iv.me.af (aq.av l.base vs):=qZ _ fun k hk=>CZ (he k (h1 k (yV _ hk)));have e2:l.iv.me.af ae=l.iv.me.af aq:=qZ _ fun k hk=>he k (h1 k (yV _ hk));rw[e1,e2];exact hm
theorem qd{pr:List Nat}{base n:Nat}(h:free pr base n=true){ds:List DV}(hn:ds.length=n):∀k∈pr,ae k=ae.av base ds k:=by
 intro k hk;exact tc hn (jE.1 h k hk)
theorem tR{pr:List Nat}{base:Nat}(h:free pr base 1=true){d:DV}:∀k∈pr,ae k=ae.set base d k:=by
 intro k hk;exact Eu (jE.1 h k hk)
theorem UF{base n:Nat}{ds:List DV}(hn:ds.length=n){d:DE}(h:d.off base n=true):d.af (ae.av base ds)=d.af ae:=by
 have he:∀k,jk base n k=true->ae.av base ds k=ae k:=fun k hk=>(tc hn hk).symm;cases d with
 |i e=>simp only[DE.af,IE.ar he h]
 |b e=>simp only[DE.af,BE.ar he h]
 |l k=>simp only[DE.af,he k h]
 |nil=>rfl
 | rows es=>
   simp only[DE.af];congr 1;exact rm fun e hm=>by rw[IE.ar he (jE.1 h e hm)]
 | uV xs=>
   simp only[DE.af];congr 2;refine rm fun e hm=>?_;have:=jE.1 h e hm;cases e with
   |inl e=>simp only[b9];exact IE.ar he this
   |inr e=>simp only[b9,BE.ar he (show e.all _=true from this)]
theorem Pd{ds:List DV}{k:Nat}{d:DV}(h:ds[k]?=some d):aR.av 0 ds k=d:=by
 have:=az.c8 (ae:=aR) (k:=0) h;rwa[fC]at this
theorem JT{ds rs:List DV}{k:Nat}(h:k<R0):fU ds rs k=aR.av 0 ds k:=az.bd h
theorem JU{ds rs:List DV}{k:Nat}{d:DV}(h:rs[k]?=some d):fU ds rs (R0+k)=d:=az.c8 h
theorem C0{args:List DE}{base:Nat}{rs:List DV}{aq:az}{ds:List DV}(hd:ds=args.map (DE.af aq))(hsm:args.length<R0)(hr:∀j d,rs[j]?=some d->aq (base+j)=d) :
   ∀k,(s7 args rs.length base k).is aq (fU ds rs k):=by
 intro k;unfold s7;split;rename_i h1;have h1:k<args.length:=by simpa[Nat.blt_eq]using h1
 split;rename_i d hk;show d.af aq=_;rw[JT (by omega)];refine(Pd ?_).symm;rw[hd,jt,hk];rfl;trivial;split;rename_i h1;simp only[ao,Nat.ble_eq,Nat.blt_eq]at h1;show aq _=_;have e:rs[k-R0]?=some (rs[k-R0]'(by omega)):=dG _;rw[hr _ _ e];have:=JU (ds:=ds) e;rw[show R0+(k-R0)=k by omega]at this;rw[this];trivial
theorem JV{base:Nat}{bG:List DE}:∀k,(Me base bG.length bG k).is ae (ae.av base (bG.map (DE.af ae)) k):=by
 intro k;unfold Me;split;rename_i h;simp only[ao,Nat.ble_eq,Nat.blt_eq]at h;split;rename_i d hd;have e:(bG.map (DE.af ae))[k-base]?=some (d.af ae):=by rw[jt,hd];rfl
 show d.af ae=_;have:=az.c8 (ae:=ae) (k:=base) e;rw[show base+(k-base)=k by omega]at this;exact this.symm;trivial;rename_i h;simp only[ao,Nat.ble_eq,Nat.blt_eq]at h;show ae k=_;by_cases h1:k<base;exact(az.bd h1).symm;exact(az.fg (by simp;omega)).symm
theorem Pe{n:Nat}{bG:List DE}{ds:List DV}(hn:n<=R0)(ha:∀k,k<n->ae k=aR.av 0 ds k):∀k,(OY n bG k).is ae (fU ds (bG.map (DE.af ae)) k):=by
 intro k;unfold OY;split;rename_i h;have h:k<n:=by simpa[Nat.blt_eq]using h
 show ae k=_;rw[JT (by omega),ha k h];split;rename_i h;simp only[Nat.ble_eq]at h;split;rename_i d hd;have e:(bG.map (DE.af ae))[k-R0]?=some (d.af ae):=by rw[jt,hd];rfl
 show d.af ae=_;have:=JU (ds:=ds) e;rw[show R0+(k-R0)=k by omega]at this;exact this.symm;trivial;trivial
theorem xF(h:s.ok ae){as:List A}{base:Nat}{ds:List DV}(ha:kO as ds):({s.gF (jk base as.length)with g:=n7 base as++(s.gF (jk base as.length)).g}:Sk).ok (ae.av base ds):=by
 have hk:=JS (aq:=ae.av base ds) h (p:=jk base as.length) fun k hk=>tc ha.len.symm hk;refine⟨fun p hp=>?_,hk.q,hk.f⟩;rcases lQ.1 hp with hp|hp;exact oa ha p hp;exact hk.g p hp
theorem Gp(h:s.ok ae){a:A}{id:Nat}{d:DV}(ha:a.has d):({s.gF (jk id 1)with g:=(id,a)::(s.gF (jk id 1)).g}:Sk).ok (ae.set id d):=by
 have hk:=JS (aq:=ae.set id d) h (p:=jk id 1) fun k hk=>Eu hk;refine⟨fun p hp=>?_,hk.q,hk.f⟩;rcases bD.1 hp with rfl|hp;simpa[az.set]using ha;exact hk.g p hp
theorem JW{c:Bool}{v:Vc}(h:(if c=true then []else [v])=[]):c=true:=by
 cases c;cases h;rfl
theorem JX{K:Nat->Option Cn}{key:FuncId->Nat}{an:An}{out:Cn}{E:Nat->List DV->List DV->Prop}{YM:List DV}
   (hK:∀f c,K (key f)=some c->∀ds,c.gN ds->∃rs,E f ds rs/\c.ij ds rs) (hl:∀l∈an.fk,gb l) (ve:out.args.length<=R0) :
   ∀ {t:au} {s:Sk} {ls:List Lc} {d:Nat} {pr:List Nat} {ae:az} {Ps:List (Int->Prop)} {F:Nat->List DV->Prop},
     s.ok ae->t.oJ K key an out s ls d pr=[]->(∀k,k<out.args.length->k∈pr)->(∀k,k<out.args.length->ae k=aR.av 0 YM k)->UE ae pr ls F->acn an.er d Ps->t.gC E (out.ij YM) Ps ae F:=by
 intro t;induction t with
 | ret bG=>
   intro s ls d pr ae Ps F h e hp ha hL hP;simp only[au.oJ]at e;obtain⟨e1,e2⟩:=append_nil e;exact⟨tQ h hl e1,wm h hl (Pe ve ha) e2⟩
 | stuck w=>
   intro s ls d pr ae Ps F h e hp ha hL hP;have:=ni h hl (by simpa only[au.oJ]using e);cases this
 | ev ev t ih=>
   intro s ls d pr ae Ps F h e hp ha hL hP;cases ev with
   | aG p=>
     simp only[au.oJ]at e;split at e;rename_i hpv;exact⟨fV h hpv,ih h e hp ha hL hP⟩;obtain⟨e1,e2⟩:=append_nil e;have hd:=ni h hl e1;exact⟨hd,ih (tP h hd) e2 hp ha hL hP⟩
   |du p x=>simp[au.oJ]at e
   | bW id op=>
     simp only[au.oJ]at e;obtain⟨e1,e2⟩:=append_nil e;have hc:=JW e1;simp only[ao]at hc;obtain⟨l1,l2⟩:=Uz h hc.2;have k:=lC (Gp h l1) l2;exact ih k e2 hp (fun j hj=>by rw[<- tR hc.1 j (hp j hj)];exact ha j hj) (hL.move (tR hc.1)) hP
   | call f g args res base=>
     simp only[au.oJ]at e;split at e;cases e;rename_i c hc;obtain⟨ea,e⟩:=append_nil e;obtain⟨eb,e⟩:=append_nil e;obtain⟨ea1,ea2⟩:=append_nil ea;have gD:=JW eb;simp only[ao,Nat.blt_eq]at gD;obtain⟨aW,aco,W4,uP,hsm⟩:=gD;refine⟨fun hg=>?_,fun hg=>?_⟩;have h1:=tP h hg;have hd:∀k,(s7 args 0 base k).is ae (fU (args.map (DE.af ae)) [] k):=C0 (rs:=[]) rfl hsm (fun j d hj=>by simp at hj);have BT:c.gN (args.map (DE.af ae)):=⟨tQ h1 hl ea1,wm (e2:=aR.av 0 (args.map (DE.af ae))) h1 hl (fun k=>by
       have:=hd k;rwa[show fU (args.map (DE.af ae)) [] k=aR.av 0 (args.map (DE.af ae)) k from rfl]at this) ea2⟩
     obtain⟨rs,hE,ue,Ga⟩:=hK f c hc _ BT;refine⟨rs,hE,?_⟩;have hlen:=ue.len;have hA:kO (if g.beq (.c true)then c.res else c.res.map fun a=>a.AG (Ca a)) rs:=by
       split;exact ue;exact UC ue
     have Ou:(if g.beq (.c true)then c.res else c.res.map fun a=>a.AG (Ca a)).length=c.res.length:=by split<;>simp
     have k3:=xF h (base:=base) hA;rw[Ou]at k3;have ff:args.map (DE.af (ae.av base rs))=args.map (DE.af ae):=rm fun x hx=>UF hlen.symm (jE.1 aco x hx);have hσ:∀k,(s7 args c.res.length base k).is (ae.av base rs) (fU (args.map (DE.af ae)) rs k):=by
       rw[hlen];exact C0 ff.symm hsm fun j d hj=>az.c8 hj
     have lJ:g.af (ae.av base rs)=true:=by
       rw[BE.ar (fun k hk=>(tc hlen.symm hk).symm) W4];exact hg
     refine ih (lC k3 fun p hp=>?_) e hp (fun j hj=>by rw[<- qd aW hlen.symm j (hp j hj)];exact ha j hj) (hL.move (qd aW hlen.symm)) hP;obtain⟨q,hq,xo⟩:=xq.1 hp;simp only[bJ]at xo;obtain⟨q',Nb,rfl⟩:=xo;have:q'.af (ae.av base rs)=true:=by rw[acm hσ Nb];exact Ga q hq
     split;exact this;simp[BE.af,this];have hA:kO (c.res.map fun a=>a.AG (Ca a)) (defs (bI res)):=UD uP;have hlen:c.res.length=(defs (bI res)).length:=by have:=hA.len;simpa using this
     have hng:g.beq (.c true)=false:=by
       cases hb:g.beq (.c true)with
       |false=>rfl
       |true=>rw[BE.beq_eq hb]at hg;cases hg
     have k3:=xF h (base:=base) hA;simp only[ot]at k3;have lJ:g.af (ae.av base (defs (bI res)))=false:=by
       rw[BE.ar (fun k hk=>(tc hlen.symm hk).symm) W4];exact hg
     simp only[hng]at e;refine ih (lC k3 fun p hp=>?_) e hp (fun j hj=>by rw[<- qd aW hlen.symm j (hp j hj)];exact ha j hj) (hL.move (qd aW hlen.symm)) hP;obtain⟨q,hq,xo⟩:=xq.1 hp;simp only[bJ]at xo;obtain⟨q',Nb,rfl⟩:=xo;simp[BE.af,lJ]
 | ite c a b eW fA=>
   intro s ls d pr ae Ps F h e hp ha hL hP;simp only[au.oJ]at e;split at e;rename_i hpv;have:=fV h hpv;exact⟨fun hc=>eW (tP h hc) e hp ha hL hP,fun hc=>(by rw[this]at hc;cases hc)⟩;split at e;rename_i hnv;have:=n9 h hnv;exact⟨fun hc=>(by rw[this]at hc;cases hc),fun hc=>fA (vj h hc) e hp ha hL hP⟩;obtain⟨e1,e2⟩:=append_nil e;exact⟨fun hc=>eW (tP h hc) e1 hp ha hL hP,fun hc=>fA (vj h hc) e2 hp ha hL hP⟩
 | loop id entry ks base body ih=>
   intro s ls d pr ae Ps F h e hp ha hL hP;simp only[au.oJ]at e;split at e;cases e;rename_i _ _ v _;obtain⟨e1,e⟩:=append_nil e;obtain⟨e2,e⟩:=append_nil e;obtain⟨e3,e⟩:=append_nil e;have aW:=JW e3;have hen:=tQ h hl e1;have hlen:entry.length=v.as.length:=by have:=hen.len;simpa using this.symm
   refine⟨fun vs=>kO v.as vs/\∀p∈v.ex,p.af (ae.av base vs)=true,fun vs=>(v.me.af (ae.av base vs)).toNat,⟨hen,?_⟩,fun vs hi=>?_⟩;refine wm h hl (fun k=>?_) e2;have:=JV (ae:=ae) (base:=base) (bG:=entry) k;rwa[hlen]at this;obtain⟨Ji,Pf⟩:=hi;have Ct:=Ji.len;refine ih (lC (xF h Ji) Pf) e (fun k hk=>BJ _ (hp k hk)) (fun j hj=>by rw[<- qd aW Ct.symm j (hp j hj)];exact ha j hj) ?_ hP;intro vA l uM;by_cases kT:vA=id;subst kT;have:(Lc.mk vA base v)=l:=by simpa[List.find?]using uM
   subst this;refine⟨fun k hk=>yV _ hk,fun us hu hx hm=>?_⟩;simp only[lN,if_pos];have e5:∀us:List DV,us.length=vs.length->(ae.av base vs).av base us=ae.av base us:=fun us hl=>by
     funext k;by_cases h1:k<base;rw[az.bd h1,az.bd h1,az.bd h1];by_cases h2:base+us.length<=k;rw[az.fg h2,az.fg (by omega),az.fg h2];have e:us[k-base]?=some (us[k-base]'(by omega)):=dG _;rw[show k=base+(k-base)by omega,az.c8 e,az.c8 e]
   have hul:us.length=vs.length:=by have:=hu.len;simp only at this;omega
   simp only at hx hm;rw[e5 us hul]at hx hm;exact⟨⟨hu,hx⟩,hm⟩;have:ls.find? (fun l=>Nat.beq l.id vA)=some l:=by
     have cQ:Nat.beq id vA=false:=by
       cases hb:Nat.beq id vA with
       |false=>rfl
       |true=>exact absurd (xC hb).symm kT
     simpa[List.find?,cQ]using uM
   obtain⟨g1,g2⟩:=(hL.move (qd aW Ct.symm)) vA l this;refine⟨fun k hk=>BJ _ (g1 k hk),fun us hu hx hm=>?_⟩;simp only[lN,if_neg kT];exact g2 us hu hx hm
 | again id bG=>
   intro s ls d pr ae Ps F h e hp ha hL hP;simp only[au.oJ]at e;split at e;cases e;rename_i l hf;obtain⟨e1,e⟩:=append_nil e;obtain⟨e2,e⟩:=append_nil e;obtain⟨e3,e⟩:=append_nil e;obtain⟨g1,g2⟩:=hL id l hf;have hv:=tQ h hl e1;have hlen:bG.length=l.iv.as.length:=by have:=hv.len;simpa using this.symm
   have hσ:∀k,(Me l.base l.iv.as.length bG k).is ae (ae.av l.base (bG.map (DE.af ae)) k):=fun k=>by
     have:=JV (ae:=ae) (base:=l.base) (bG:=bG) k;rwa[hlen]at this
   refine g2 _ hv (wm h hl hσ e2) ?_;have h3:=mC (ni h hl e3);split at e;rename_i me hme;have h4:=mC (ni h hl e);rw[Gn hσ hme]at h4;simp only[IE.af]at h3;omega;cases e
 | fail x=>
   intro s ls d pr ae Ps F h e hp ha hL hP;simp only[au.oJ]at e;split at e;cases e;rename_i hd;obtain⟨e1,e2⟩:=append_nil e;cases d with
   |zero=>exact absurd rfl hd
   | succ d=>
     cases Ps with
     |nil=>exact hP.elim
     | cons p ps=>
       exact hP.1 _ (mC (ni h hl e1)) (mC (ni h hl e2))
 | fz x tp t B9 ih=>
   intro s ls d pr ae Ps F h e hp ha hL hP;simp only[au.oJ]at e;obtain⟨e1,e⟩:=append_nil e;obtain⟨e2,e3⟩:=append_nil e;have aW:=JW e1;refine ih (Ps:=_::Ps) h e3 hp ha hL ⟨fun n h1 h2=>?_,hP⟩;rw[if_neg (by omega)]at e2;exact B9 (Gp h (a:=.i an.er.1 an.er.2) (d:=.i n) ⟨h1,h2⟩) e2 hp (fun j hj=>by rw[<- tR aW j (hp j hj)];exact ha j hj) (hL.move (tR aW)) hP
 | pop t ih=>
   intro s ls d pr ae Ps F h e hp ha hL hP;simp only[au.oJ]at e;split at e;cases e;rename_i hd;cases d with
   |zero=>exact absurd rfl hd
   | succ d=>
     cases Ps with
     |nil=>exact hP.elim
     |cons p ps=>exact ih h e hp ha hL hP.2
theorem JY{T:Nat->Option iG}{X:bH}{k:Nat}{e:iG}{K:Nat->Option Cn}{an:An}{out:Cn}(hk:T k=some e)
   (hK:∀j c,K j=some c->mb T X j c.gN c.ij) (hl:∀l∈an.fk,gb l) (ve:Nat.ble out.args.length R0=true) (hc:(yF K e.key an out e.tree).isEmpty=true):mb T X k out.gN out.ij:=by
 intro ds hp;refine AE hk ?_;have h0:(qX out).ok (aR.av 0 ds):=by
   refine lC ⟨fun p xx=>oa hp.1 p xx,fun l hl=>(by cases hl),fun p hp=>(by cases hp)⟩ hp.2
 exact JX (YM:=ds) (fun f c hc ds hd=>hK _ c hc ds hd) hl (by simpa[Nat.ble_eq]using ve) h0 (List.isEmpty_iff.1 hc) (fun k hk=>lx.2 hk) (fun k _=>rfl) (fun id l h=>by cases h) trivial
end
section
def kW{α:Type}(k:Nat):List (Nat×α)->Option α
 | []=>none
 |(j,a)::r=>if Nat.beq j k then some a else kW k r
theorem C1{α:Type}{k:Nat}{a:α}:∀ {l:List (Nat×α)},kW k l=some a->(k,a)∈l:=by
 intro l;induction l with
 |nil=>intro h;cases h
 | cons x l ih=>
   intro h;obtain⟨j,b⟩:=x;unfold kW at h;split at h;rename_i e;cases h;rw[xC e];exact aK ..;exact bl _ (ih h)
structure nj where
 f:FuncId
 acp:kp
 sl:List (FuncId×bR)
 s:bR
 sub:List (FuncId×Nat)
def nj.aM(r:nj):kp:={r.acp with sig:=sM r.sl}
def Ew:Nat:=6000
def gO(P:Program)(r:nj):au:=match P.funcs[r.f]? with
 |some fn=>prune [] (sK P r.aM r.f fn r.s Ew)
 |none=>.stuck ""
def lZ(P:Program)(t:List (Nat×nj))(k:Nat):Option iG:=match kW k t with
 |some r=>some ⟨r.f,gO P r,r.sub⟩
 |none=>none
def UG(kc:Nat->Cn)(ks:List Nat)(j:Nat):Option Cn:=if ks.any (Nat.beq j)then some (kc j)else none
def oc(T:Nat->Option iG)(X:bH)(kc:Nat->Cn)(ks:List Nat):Prop:=∀j∈ks,mb T X j (kc j).gN (kc j).ij
def Pg(T:Nat->Option iG)(kc:Nat->Cn)(an:Nat->An)(ks:List Nat)(k:Nat):Bool:=match T k with
 |some e=>Nat.ble (kc k).args.length R0&&(yF (UG kc ks) e.key (an k) (kc k) e.tree).isEmpty
 |none=>false
theorem Ih{T:Nat->Option iG}{X:bH}{kc:Nat->Cn}{ks:List Nat}(h:oc T X kc ks):∀j c,UG kc ks j=some c->mb T X j c.gN c.ij:=fun j c hj=>by
 unfold UG at hj;split at hj;rename_i hm;cases hj;obtain⟨x,hx,hb⟩:=lT.1 hm;rw[xC hb];exact h x hx;cases hj
theorem ax{T:Nat->Option iG}{X:bH}{kc:Nat->Cn}{an:Nat->An}(hl:∀k,∀l∈(an k).fk,gb l){ks:List Nat}{k:Nat}(h:oc T X kc ks)(e:Pg T kc an ks k=true):mb T X k (kc k).gN (kc k).ij:=by
 unfold Pg at e;split at e;rename_i en hk;simp only[ao]at e;exact JY (X:=X) hk (Ih h) (hl k) e.1 e.2;cases e
theorem oc.next{T:Nat->Option iG}{X:bH}{kc:Nat->Cn}{l:List Nat}{i k:Nat}(h:oc T X kc (l.take i))(hk:l[i]?=some k)(g:mb T X k (kc k).gN (kc k).ij):oc T X kc (l.take (i+1)):=fun j hj=>by
 rw[List.take_add_one,hk]at hj;rcases lQ.1 hj with hj|hj;exact h j hj;rcases lg.1 hj with rfl;exact g
theorem oc.mono{T:Nat->Option iG}{X:bH}{kc:Nat->Cn}{ks ls:List Nat}(h:oc T X kc ks)(hs:(ls.all fun j=>ks.any (Nat.beq j))=true):oc T X kc ls:=fun j hj=>by
 obtain⟨x,hx,hb⟩:=lT.1 (jE.1 hs j hj);rw[xC hb];exact h x hx
theorem oc.and{T:Nat->Option iG}{X:bH}{kc:Nat->Cn}{k:Nat}{ks:List Nat}(h:oc T X kc ks)(g:mb T X k (kc k).gN (kc k).ij):oc T X kc (k::ks):=fun j hj=>by
 rcases bD.1 hj with rfl|hj;exact g;exact h j hj
end
section
def fN{α:Type}(n:Nat)(k:Nat->α):α:=match n with
 |0=>k 0
 |.succ m=>k (.succ m)
theorem acs{α:Type}(n:Nat)(k:Nat->α):fN n k=k n:=by cases n<;>rfl
def fI{α:Type}(n:Int)(k:Int->α):α:=match n with
 |.ofNat m=>fN m fun m=>k (.ofNat m)
 |.negSucc m=>fN m fun m=>k (.negSucc m)
theorem Pr{α:Type}(n:Int)(k:Int->α):fI n k=k n:=by cases n<;>simp only[fI,acs]
def fL{α β:Type}(f:β->(β->α)->α):List β->(List β->α)->α
 | [],k=>k []
 |x::xs,k=>f x fun x=>fL f xs fun xs=>k (x::xs)
theorem Pu{α β:Type}{f:β->(β->α)->α}(h:∀x k,f x k=k x):∀(xs:List β) (k:List β->α),fL f xs k=k xs:=by
 intro xs;induction xs with
 |nil=>intro k;rfl
 |cons x xs ih=>intro k;simp only[fL,h,ih]
def fD{α:Type}(d:DV)(k:DV->α):α:=match d with
 |.i n=>fI n fun n=>k (.i n)
 | .b b=>match b with
   |true=>k (.b true)
   |false=>k (.b false)
 |.l xs=>fL (fL fI) xs fun xs=>k (.l xs)
theorem W8{α:Type}(d:DV)(k:DV->α):fD d k=k d:=by
 cases d with
 |i n=>simp only[fD,Pr]
 |b b=>cases b<;>rfl
 | l xs=>
   simp only[fD];exact Pu (f:=fL fI) (fun x k=>Pu (fun x k=>Pr x k) x k) xs (fun xs=>k (.l xs))
def Y3{α:Type}(ds:List DV)(k:List DV->α):α:=fL fD ds k
theorem ED{α:Type}(ds:List DV)(k:List DV->α):Y3 ds k=k ds:=Pu (fun x k=>W8 x k) _ _
def qe:List (Nat×DV)->az
 | [],k=>aR k
 | (j,d)::r,k=>match Nat.beq j k with
   |true=>d
   |false=>qe r k
theorem xH(j:Nat)(d:DV)(E:List (Nat×DV)):qe ((j,d)::E)=(qe E).set j d:=by
 funext k;unfold qe az.set;split;rename_i h;rw[if_pos (DR h).symm];rename_i h;rw[if_neg (fun e=>by rw[e,Nat.beq_refl]at h;cases h)]
def AT(E:List (Nat×DV))(k:Nat):List DV->List (Nat×DV)
 | []=>E
 |d::ds=>AT ((k,d)::E) (k+1) ds
theorem AU:∀(ds:List DV) (E:List (Nat×DV)) (k:Nat),qe (AT E k ds)=(qe E).av k ds:=by
 intro ds;induction ds with
 |nil=>intro E k;rfl
 |cons d ds ih=>intro E k;rw[AT,ih,xH];rfl
def au.ow(C:bH)(N:Nat):au->List (Int->Option (List DV))->List (Nat×DV)->rH->Option (List DV)
 |.ret bG,_,E,_=>Y3 (bG.map (DE.af (qe E))) some
 |.stuck _,_,_,_=>none
 | .ev (.aG p) t,Ps,E,F=>match p.af (qe E)with
   |true=>t.ow C N Ps E F
   |false=>none
 | .ev (.call f g args res base) t,Ps,E,F=>match g.af (qe E)with
   | true=>Y3 (args.map (DE.af (qe E))) fun as=>match C f as with
     |some rs=>Y3 rs fun rs=>t.ow C N Ps (AT E base rs) F
     |none=>none
   |false=>t.ow C N Ps (AT E base (defs (bI res))) F
 |.ev (.bW id op) t,Ps,E,F=>fD (.l (op.af (qe E))) fun d=>t.ow C N Ps ((id,d)::E) F
 |.ev (.du _ _) _,_,_,_=>none
 | .ite c a b,Ps,E,F=>match c.af (qe E)with
   |true=>a.ow C N Ps E F
   |false=>b.ow C N Ps E F
 |.loop id entry _ base body,Ps,E,F=>Y3 (entry.map (DE.af (qe E))) fun ds=>iter (fun rec ds=>Y3 ds fun ds=>body.ow C N Ps (AT E base ds) (Bx F id rec)) N ds
 |.again id bG,_,E,F=>Y3 (bG.map (DE.af (qe E))) fun ds=>F id ds
 | .fail e,Ps,E,_=>match Ps with
   |p::_=>fI (e.af (qe E)) fun n=>p n
   | []=>none
 |.fz x tp t,Ps,E,F=>t.ow C N ((fun n=>tp.ow C N Ps ((x,.i n)::E) F)::Ps) E F
 | .pop t,Ps,E,F=>match Ps with
   |_::YF=>t.ow C N YF E F
   | []=>none
theorem UO{C:bH}{N:Nat}:∀(t:au) (Ps:List (Int->Option (List DV))) (E:List (Nat×DV)) (F:rH),t.ow C N Ps E F=t.run C N Ps (qe E) F:=by
 intro t;induction t with
 |ret bG=>intro Ps E F;simp only[au.ow,au.run,ED]
 |stuck s=>intro Ps E F;rfl
 | ev e t ih=>
   intro Ps E F;cases e with
   | aG p=>
     simp only[au.ow,au.run,Ev.run];cases h:p.af (qe E);simp;simp[ih]
   | call f g args res base=>
     simp only[au.ow,au.run,Ev.run,ED,ih,AU];cases h:g.af (qe E);simp;simp only[if_true];cases C f (List.map (DE.af (qe E)) args)<;>rfl
   |bW id op=>simp only[au.ow,au.run,Ev.run,W8,ih,xH]
   |du p e=>rfl
 | ite c a b eW fA=>
   intro Ps E F;simp only[au.ow,au.run,eW,fA];cases h:c.af (qe E)<;>simp
 | loop id es ks base body ih=>
   intro Ps E F;simp only[au.ow,au.run,ED,ih,AU]
 |again id bG=>intro Ps E F;simp only[au.ow,au.run,ED]
 |fail e=>intro Ps E F;cases Ps<;>simp only[au.ow,au.run,Pr]
 | fz x tp t B9 ih=>
   intro Ps E F;simp only[au.ow,au.run,ih,B9,xH]
 |pop t ih=>intro Ps E F;cases Ps<;>simp only[au.ow,au.run,ih]
def eqI:Int->Int->Bool
 |.ofNat a,.ofNat b=>Nat.beq a b
 |.negSucc a,.negSucc b=>Nat.beq a b
 |_,_=>false
theorem Pv{a b:Int}(h:eqI a b=true):a=b:=by
 cases a<;>cases b<;>simp only[eqI]at h;rw[DR h];cases h;cases h;rw[DR h]
def W9{α:Type}(f:α->α->Bool):List α->List α->Bool
 | [],[]=>true
 | a::as,b::bs=>match f a b with
   |true=>W9 f as bs
   |false=>false
 |_,_=>false
theorem EE{α:Type}{f:α->α->Bool}(hf:∀a b,f a b=true->a=b):∀ {as bs:List α},W9 f as bs=true->as=bs:=by
 intro as;induction as with
 | nil=>intro bs h;cases bs with
   |nil=>rfl
   |cons b bs=>cases h
 | cons a as ih=>intro bs h;cases bs with
   |nil=>cases h
   | cons b bs=>
     unfold W9 at h;split at h;rename_i e;rw[hf _ _ e,ih h];cases h
def eqD:DV->DV->Bool
 |.i a,.i b=>eqI a b
 | .b a,.b b=>match a,b with
   |true,true=>true
   |false,false=>true
   |_,_=>false
 |.l a,.l b=>W9 (W9 eqI) a b
 |_,_=>false
theorem Pw{a b:DV}(h:eqD a b=true):a=b:=by
 cases a<;>cases b<;>simp only[eqD]at h<;>first|cases h|skip
 rw[Pv h]
 . rename_i x y;cases x<;>cases y<;>simp_all
 rw[EE (fun a b h=>EE (fun a b h=>Pv h) h) h]
def eqO:Option (List DV)->List DV->Bool
 |some a,b=>W9 eqD a b
 |none,_=>false
theorem Y4{a:Option (List DV)}{b:List DV}(h:eqO a b=true):a=some b:=by
 cases a with
 |none=>cases h
 |some a=>rw[EE (fun a b h=>Pw h) (show W9 eqD a b=true from h)]
abbrev aZ:=Nat×List DV×List DV
def C6(k:Nat)(ds:List DV):List aZ->Option (List DV)
 | []=>none
 | (j,as,rs)::r=>match Nat.beq j k with
   | true=>match W9 eqD as ds with
     |true=>some rs
     |false=>C6 k ds r
   |false=>C6 k ds r
theorem Mn{k:Nat}{ds rs:List DV}:∀ {tb:List aZ},C6 k ds tb=some rs->(k,ds,rs)∈tb:=by
 intro tb;induction tb with
 |nil=>intro h;cases h
 | cons x tb ih=>
   intro h;obtain⟨j,as,r⟩:=x;unfold C6 at h;split at h;rename_i e;split at h;rename_i e';cases h;rw[DR e,EE (fun a b h=>Pw h) e'];exact aK ..;exact bl _ (ih h);exact bl _ (ih h)
def Px(T:Nat->Option iG)(X:bH):List aZ->Prop
 | []=>True
 |x::r=>cK T X x.1 x.2.1 x.2.2/\Px T X r
theorem Px.fuel{T:Nat->Option iG}{X:bH}:∀ {tb:List aZ},Px T X tb->∃n,∀x∈tb,ev T X n x.1 x.2.1=some x.2.2:=by
 intro tb;induction tb with
 |nil=>intro _;exact⟨0,fun x h=>(by cases h)⟩
 | cons x tb ih=>
   intro h;obtain⟨⟨n,hn⟩,hr⟩:=h;obtain⟨m,hm⟩:=ih hr;refine⟨max n m,fun y hy=>?_⟩;rcases bD.1 hy with rfl|hy;exact nE n _ _ _ (Nat.le_max_left ..) _ hn;exact nE m _ _ _ (Nat.le_max_right ..) _ (hm y hy)
def EF(T:Nat->Option iG)(k:Nat)(tb:List aZ)(N:Nat)(ds rs:List DV):Bool:=match T k with
 |some e=>eqO (e.tree.ow (fun g as=>C6 (e.key g) as tb) N [] (AT [] 0 ds) (fun _ _=>none)) rs
 |none=>false
theorem lD{T:Nat->Option iG}{X:bH}{tb:List aZ}(htb:Px T X tb){k N:Nat}{ds rs:List DV}(h:EF T k tb N ds rs=true):cK T X k ds rs:=by
 unfold EF at h;split at h;rename_i e hk;have h:=Y4 h;rw[UO,AU]at h;obtain⟨n,hn⟩:=htb.fuel;refine⟨max n N+1,?_⟩;simp only[ev,hk];refine qc (C:=fun g as=>C6 (e.key g) as tb) (fun f as r hr=>?_) (Nat.le_max_right ..) wg.refl (fun _ _ _ h=>h) rs h;exact nE n _ _ _ (Nat.le_max_left ..) _ (hn _ (Mn hr));cases h
end
section
variable {K:Nat->Option Cn}{key:FuncId->Nat}{an:An}{out:Cn}
def UH(x n:Nat):BE:=.eq (.v x) (.c (n:Int))
def TD(x:Nat)(ks:List BE):Nat->List BE
 |0=>ks
 |n+1=>(BE.not (UH x n)).mk::TD x ks n
def sN(x:Nat)(s:Sk):Nat->Sk
 |0=>s
 |n+1=>(sN x s n).nc (UH x n)
theorem UI{c:BE}{a b:au}{s:Sk}{ls:List Lc}{d:Nat}{pr:List Nat}(h1:a.oJ K key an out (s.ug c) ls d pr=[])(h2:b.oJ K key an out (s.nc c) ls d pr=[]):(au.ite c a b).oJ K key an out s ls d pr=[]:=by
 simp only[au.oJ];split;exact h1;split;exact h2;rw[h1,h2];rfl
theorem Ii{x m:Nat}{f:Int->au}{dt:au}{s0:Sk}{ks0:List BE}{ls:List Lc}{d:Nat}{pr:List Nat}
   (hf:∀n,n<m->(prune (iN (UH x n) (TD x ks0 n)) (f n)).oJ K key an out ((sN x s0 n).ug (UH x n)) ls d pr=[]) (hd:(prune (TD x ks0 m) dt).oJ K key an out (sN x s0 m) ls d pr=[]) :
   ∀(j n:Nat),n+j=m->(prune (TD x ks0 n) (va x f dt (List.range' n j))).oJ K key an out (sN x s0 n) ls d pr=[]:=by
 intro j;induction j with
 | zero=>
   intro n hn;have:n=m:=by omega
   subst this;exact hd
 | succ j ih=>
   intro n hn;show(prune (TD x ks0 n) (.ite (.eq (.v x) (.c (n:Int))) (f n) (va x f dt (List.range' (n+1) j)))).oJ K key an out (sN x s0 n) ls d pr=[];exact UI (hf n (by omega)) (ih (n+1) (by omega))
def wo(P:Program)(r:nj)(aM:kp)(g:St->St):au:=match P.funcs[r.f]? with
 | some fn=>match fn.body with
   |some c=>exec P aM Ew none [] r.f fn [.code c] (g (start fn r.s.args)) (if r.s.cons=0 then qK r.s.res else nU r.s)
   |none=>.stuck "no body"
 |none=>.stuck ""
def UJ(x m:Nat):List (Nat×Int):=(List.range m).map fun(v:Nat)=>(x,(v:Int))
def C2(K:Nat->Option Cn)(key:FuncId->Nat)(an:An)(out:Cn)(rs:List CT)(s:Sk)(t:au):Bool:=(t.oJ K key an out s [] 0 (List.range out.args.length)).isEmpty&&t.na rs
def C3(P:Program)(r:nj)(K:Nat->Option Cn)(key:FuncId->Nat)(an:An)(out:Cn)(x n:Nat):Bool:=
 C2 K key an out (bI r.s.res) ((sN x (qX out) n).ug (UH x n)) (prune (iN (UH x n) (TD x [] n)) (wo P r r.aM fun st=>st.fix x n))
def Gq(P:Program)(r:nj)(K:Nat->Option Cn)(key:FuncId->Nat)(an:An)(out:Cn)(x m:Nat):Bool:=
 C2 K key an out (bI r.s.res) (sN x (qX out) m) (prune (TD x [] m) (wo P r {r.aM with no:=UJ x m} id))
theorem wq{P:Program}{r:nj}{x m:Nat}{fn:Func}{c:Code}(lL:P.funcs[r.f]?=some fn)(hc:fn.body=some c)(hs:r.aM.zW=some (x,m))(hx:decide (x<(start fn r.s.args).next)=true) :
   gO P r=prune [] (va x (fun v=>wo P r r.aM fun st=>st.fix x v) (wo P r {r.aM with no:=UJ x m} id) (List.range' 0 m)):=by
 rw[<- List.range_eq_range'];simp only[gO,lL,sK,hc,hs,hx,if_true,wo,UJ,id]
theorem Mh{P:Program}{r:nj}{x m:Nat}{fn:Func}{c:Code}(lL:P.funcs[r.f]?=some fn)(hc:fn.body=some c)(hs:r.aM.zW=some (x,m))(hx:decide (x<(start fn r.s.args).next)=true)
   (hp:∀n,n<m->C3 P r K key an out x n=true) (hr:Gq P r K key an out x m=true):(yF K key an out (gO P r)).isEmpty=true:=by
 rw[List.isEmpty_iff,wq lL hc hs hx];unfold yF;refine Ii (m:=m) (s0:=qX out) (ks0:=[]) (fun n hn=>?_) ?_ m 0 (by omega);have:=hp n hn;simp only[C3,C2,ao]at this;exact List.isEmpty_iff.1 this.1;simp only[Gq,C2,ao]at hr;exact List.isEmpty_iff.1 hr.1
theorem Ij{P:Program}{r:nj}{x m:Nat}{fn:Func}{c:Code}(lL:P.funcs[r.f]?=some fn)(hc:fn.body=some c)(hs:r.aM.zW=some (x,m))(hx:decide (x<(start fn r.s.args).next)=true)
   (hp:∀n,n<m->C3 P r K key an out x n=true) (hr:Gq P r K key an out x m=true):(gO P r).na (bI r.s.res)=true:=by
 rw[wq lL hc hs hx];have key:∀(j n:Nat),n+j=m->(prune (TD x [] n) (va x (fun v=>wo P r r.aM fun st=>st.fix x v) (wo P r {r.aM with no:=UJ x m} id) (List.range' n j))).na (bI r.s.res)=true:=by
   intro j;induction j with
   | zero=>
     intro n hn;have:n=m:=by omega
     subst this;simp only[Gq,C2,ao]at hr;exact hr.2
   | succ j ih=>
     intro n hn;have h1:=hp n (by omega);simp only[C3,C2,ao]at h1;have h2:=ih (n+1) (by omega);show(au.ite _ _ _).na _=true;simp only[au.na,ao];exact⟨h1.2,h2⟩
 exact key m 0 (by omega)
end
section
variable {P:Program}
def Pm(kI:Nat->Option bR)(kH:List (Nat×nj))(key:FuncId->Nat)(sl:List (FuncId×bR))(g:FuncId):Bool:=match sM sl g with
 | some s'=>decide (kI (key g)=some s')&&Nat.beq (match kW (key g) kH with
   |some r=>r.f
   |none=>key g) g
 |none=>false
def UM(kH:List (Nat×nj))(xs:List Nat)(k:Nat):Bool:=(kW k kH).isSome||xs.any (Nat.beq k)
structure Kind where
 aG:FuncId
 xr:FuncId
 cR:TypeId
 pc:TypeId
 yY:FuncId
 yd:List (Nat×List Int)
def acr(k:Kind)(c:kp):Bool:=decide (c.aG=some k.aG)&&(decide (c.xr=some k.xr)&&(decide (c.cR=k.cR)&&(decide (c.pc=k.pc)&&(decide (c.yY=some k.yY)&&(decide (c.yd=k.yd)&&c.no.isEmpty)))))
def fnB(P:Program)(f:FuncId):Bool:=match P.funcs[f]? with
 |some fn=>fn.body.isSome && !(fn.name == "runtime.NumGoroutine")
 |none=>false
def Ml(P:Program)(kd:Kind)(kI:Nat->Option bR)(kH:List (Nat×nj))(xs:List Nat)(k:Nat)(r:nj):Bool:=
 acr kd r.acp && (fnB P r.f && (decide (kI k=some r.s)&&(r.sl.all (fun p=>Pm kI kH (iG.key ⟨r.f,.stuck "",r.sub⟩) r.sl p.1) &&
   (kH.map (·.1)++xs).all fun j=>(r.sub.any fun p=>Nat.beq p.1 j)||(sM r.sl j).isSome)&&(r.sub.all fun p=>(sM r.sl p.1).isSome || !UM kH xs p.2)))
def kindOk(P:Program)(kd:Kind):Prop:=∀aM:kp,aM.aG=some kd.aG->aM.xr=some kd.xr->aM.cR=kd.cR->aM.pc=kd.pc->aM.yY=some kd.yY->jN P aM
theorem Im{l:List (FuncId×bR)}{g:FuncId}{s:bR}(h:sM l g=some s):∃p∈l,p.1=g:=by
 unfold sM at h;simp only[bJ]at h;obtain⟨p,hp,_⟩:=h;exact⟨p,Dv hp,by have:=List.find?_some hp;simpa using this⟩
theorem Y2{Wd:World->Prop}{kd:Kind}{kI:Nat->Option bR}{kH:List (Nat×nj)}{xs:List Nat}{k:Nat}{r:nj}(hk:kindOk P kd)(hw:∀w,Wd w->∀g cs,(g,cs)∈kd.yd->∃T z,w.heap[g]?=some (.cells (cs.map fun n=>Value.int .i64 n).toArray T z))
   (h:Ml P kd kI kH xs k r=true) (hr:(gO P r).na (bI r.s.res)=true):WV P Wd (lZ P kH) (fun k=>xs.any (Nat.beq k)) kI k ⟨r.f,gO P r,r.sub⟩:=by
 simp only[Ml,acr,fnB,ao,aC]at h;obtain⟨⟨c1,c2,c3,c4,c5,c6,c7⟩,hf,⟨hs,xv,Yy⟩,eJ⟩:=h;split at hf;rename_i fn lL;simp only[ao,mg,zF]at hf;obtain⟨⟨c,hc⟩,hn⟩:=hf;refine⟨r.aM,fn,c,Ew,r.s,⟨by simpa[nj.aM]using List.isEmpty_iff.1 c7,hr⟩,hs,hk r.aM c1 c2 c3 c4 c5,?_,?_,lL,hc,hn,?_,fun w Hp g cs hg=>hw w Hp g cs (by rw[<- c6];exact hg)⟩;intro g s' hg;have hg:sM r.sl g=some s':=hg;obtain⟨p,hp,rfl⟩:=Im hg;have:=jE.1 xv p hp;simp only[Pm,hg,ao,aC]at this;refine⟨this.1,?_⟩;have e:=xC this.2;show oH (lZ P kH) (iG.key ⟨r.f,.stuck "",r.sub⟩ p.1)=p.1;unfold oH lZ;split at e;rename_i r' cO;first|exact e|(rw[cO];exact e)
 rename_i cO;first|exact e|(rw[cO];exact e)
 intro g hg;show(sM r.sl g).isSome=true;have hd:UM kH xs (iG.key ⟨r.f,gO P r,r.sub⟩ g)=true:=by
   unfold uB lZ at hg;unfold UM;cases hl:kW (iG.key ⟨r.f,gO P r,r.sub⟩ g) kH with
   |none=>simpa[hl]using hg
   |some r'=>simp
 cases TS:r.sub.find? (fun p=>p.1==g)with
 | some p=>
   have e:iG.key ⟨r.f,gO P r,r.sub⟩ g=p.2:=by simp only[iG.key,TS]
   have e2:p.1=g:=by have:=List.find?_some TS;simpa using this
   have:=jE.1 eJ p (Dv TS);rw[e]at hd;simp only[hd,Bool.not_true,Bool.or_false]at this;rw[<- e2];exact this
 | none=>
   have e:iG.key ⟨r.f,gO P r,r.sub⟩ g=g:=by simp only[iG.key,TS]
   rw[e]at hd;have hm:g∈kH.map (·.1)++xs:=by
     unfold UM at hd;simp only[fF]at hd;rcases hd with hd|hd;obtain⟨r',cO⟩:=zF.1 hd;exact yV _ (jb.2 ⟨_,C1 cO,rfl⟩);obtain⟨x,hx,hb⟩:=lT.1 hd;rw[xC hb];exact BJ _ hx
   have:=jE.1 Yy g hm;simp only[fF]at this;rcases this with this|this;obtain⟨p,hp,hb⟩:=lT.1 this;have:=List.find?_eq_none.1 TS p hp;simp[xC hb]at this;exact this
 show prune [] (sK P r.aM r.f fn r.s Ew)=gO P r;simp only[gO,lL];cases hf
end
section
def au.strip(S:BE->Bool):au->au
 |.ret bG=>.ret bG
 |.stuck w=>.stuck w
 |.ev (.aG p) t=>if S p then t.strip S else .ev (.aG p) (t.strip S)
 |.ev (.call f g args res base) t=>.ev (.call f g args res base) (t.strip S)
 |.ev (.bW id op) t=>.ev (.bW id op) (t.strip S)
 |.ev (.du p e) t=>.ev (.du p e) (t.strip S)
 |.ite c a b=>.ite c (a.strip S) (b.strip S)
 |.loop id en ks base t=>.loop id en ks base (t.strip S)
 |.again id bG=>.again id bG
 |.fail e=>.fail e
 |.fz x a b=>.fz x (a.strip S) (b.strip S)
 |.pop t=>.pop (t.strip S)
def au.mv(S:BE->Bool)(H:Nat->List DV->Prop)(E:Nat->List DV->List DV->Prop)(R:List DV->Prop):au->List (Int->Prop)->az->(Nat->List DV->Prop)->Prop
 |.ret bG,_,ae,_=>R (bG.map (DE.af ae))
 |.stuck _,_,_,_=>True
 |.ev (.aG p) t,Ps,ae,F=>(S p=true->p.af ae=true)/\(p.af ae=true->t.mv S H E R Ps ae F)
 |.ev (.call f g args res base) t,Ps,ae,F=>(g.af ae=true->H f (args.map (DE.af ae))/\∀rs,E f (args.map (DE.af ae)) rs->t.mv S H E R Ps (ae.av base rs) F)/\(g.af ae=false->t.mv S H E R Ps (ae.av base (defs (bI res))) F)
 |.ev (.bW id op) t,Ps,ae,F=>t.mv S H E R Ps (ae.set id (.l (op.af ae))) F
 |.ev (.du _ _) _,_,_,_=>True
 |.ite c a b,Ps,ae,F=>(c.af ae=true->a.mv S H E R Ps ae F)/\(c.af ae=false->b.mv S H E R Ps ae F)
 |.loop id entry _ base body,Ps,ae,F=>∃inv:List DV->Prop,inv (entry.map (DE.af ae))/\∀ds,inv ds->body.mv S H E R Ps (ae.av base ds) (lN F id inv)
 |.again id bG,_,ae,F=>F id (bG.map (DE.af ae))
 |.fail e,Ps,ae,_=>jY Ps (e.af ae)
 |.fz x tp t,Ps,ae,F=>t.mv S H E R ((fun n=>tp.mv S H E R Ps (ae.set x (.i n)) F)::Ps) ae F
 |.pop t,Ps,ae,F=>t.mv S H E R Ps.tail ae F
def Ey:List (Int->Prop)->List (Int->Prop)->List (Int->Prop)->Prop
 | [],[],[]=>True
 |p::ps,q::qs,r::rs=>(∀e,p e->q e->r e)/\Ey ps qs rs
 |_,_,_=>False
theorem Ey.head{ps qs rs:List (Int->Prop)}(h:Ey ps qs rs){e:Int}(h1:jY ps e)(h2:jY qs e):jY rs e:=by
 match ps,qs,rs,h with
 | [],[],[],_=>exact h1
 |p::ps,q::qs,r::rs,h=>exact h.1 e h1 h2
theorem Mi{S:BE->Bool}{H:Nat->List DV->Prop}{E1 E:Nat->List DV->List DV->Prop}{R1 R2:List DV->Prop}(hE:∀f ds rs,H f ds->E1 f ds rs->E f ds rs) :
   ∀ {t:au} {Ps Qs Rs:List (Int->Prop)} {ae:az} {F G K:Nat->List DV->Prop},(t.strip S).gC E1 R1 Ps ae F->t.mv S H E R2 Qs ae G->Ey Ps Qs Rs->(∀j vs,F j vs->G j vs->K j vs)->t.gC E (fun rs=>R1 rs/\R2 rs) Rs ae K:=by
 intro t;induction t with
 |ret bG=>intro Ps Qs Rs ae F G K h1 h2 _ _;exact⟨h1,h2⟩
 |stuck w=>intro Ps Qs Rs ae F G K h1;exact h1.elim
 | ev e t ih=>
   intro Ps Qs Rs ae F G K h1 h2 hP hF;cases e with
   | aG p=>
     simp only[au.strip]at h1;split at h1;rename_i hs;have hp:=h2.1 hs;exact⟨hp,ih h1 (h2.2 hp) hP hF⟩;exact⟨h1.1,ih h1.2 (h2.2 h1.1) hP hF⟩
   | call f g args res base=>
     refine⟨fun hg=>?_,fun hg=>ih (h1.2 hg) (h2.2 hg) hP hF⟩;obtain⟨rs,he,ht⟩:=h1.1 hg;obtain⟨hh,h3⟩:=h2.1 hg;have he:=hE _ _ _ hh he;exact⟨rs,he,ih ht (h3 rs he) hP hF⟩
   | bW id op=>
     have uK:(t.strip S).gC E1 R1 Ps (ae.set id (.l (op.af ae))) F:=h1;have Hi:t.mv S H E R2 Qs (ae.set id (.l (op.af ae))) G:=h2;exact ih uK Hi hP hF
   |du p e=>exact h1.elim
 | ite c a b eW fA=>
   intro Ps Qs Rs ae F G K h1 h2 hP hF;exact⟨fun hc=>eW (h1.1 hc) (h2.1 hc) hP hF,fun hc=>fA (h1.2 hc) (h2.2 hc) hP hF⟩
 | loop id en ks base body ih=>
   intro Ps Qs Rs ae F G K h1 h2 hP hF;obtain⟨inv1,me,a1,b1⟩:=h1;obtain⟨inv2,a2,b2⟩:=h2;refine⟨fun vs=>inv1 vs/\inv2 vs,me,⟨a1,a2⟩,fun ds hd=>ih (b1 ds hd.1) (b2 ds hd.2) hP fun j vs x y=>?_⟩;unfold lN at *;split;rename_i e;rw[if_pos e]at x y;exact⟨⟨x.1,y⟩,x.2⟩;rename_i e;rw[if_neg e]at x y;exact hF j vs x y
 |again id bG=>intro Ps Qs Rs ae F G K h1 h2 _ hF;exact hF _ _ h1 h2
 |fail e=>intro Ps Qs Rs ae F G K h1 h2 hP _;exact hP.head h1 h2
 | fz x a b eW fA=>
   intro Ps Qs Rs ae F G K h1 h2 hP hF;exact fA (Ps:=_::Ps) (Qs:=_::Qs) (Rs:=_::Rs) h1 h2 ⟨fun e p q=>eW p q hP hF,hP⟩ hF
 | pop t ih=>
   intro Ps Qs Rs ae F G K h1 h2 hP hF
   match Ps,Qs,Rs,hP with
   | [],[],[],_=>exact h1.elim
   |p::ps,q::qs,r::rs,hP=>exact ih (Ps:=ps) (Qs:=qs) h1 h2 hP.2 hF
def Pj(T:Nat->Option iG)(X:bH)(H:Nat->List DV->Prop)(j:Nat)(c:Cn):Prop:=∀ds,c.gN ds->(H j ds->∃rs,cK T X j ds rs/\c.ij ds rs)/\(¬ H j ds->∃rs,c.ij ds rs)
theorem Mj{T:Nat->Option iG}{X:bH}{k:Nat}{e:iG}{K:Nat->Option Cn}{an:An}{out:Cn}{S:BE->Bool}{H:Nat->List DV->Prop}{R:List DV->List DV->Prop}(hk:T k=some e)
   (hK:∀j c,K j=some c->Pj T X H j c) (hl:∀l∈an.fk,gb l) (ve:Nat.ble out.args.length R0=true) (hc:(yF K e.key an out (e.tree.strip S)).isEmpty=true)
   (hp:∀ds,out.gN ds->e.tree.mv S (fun g=>H (e.key g)) (fun g=>cK T X (e.key g)) (R ds) [] (aR.av 0 ds) (fun _ _=>True)):mb T X k out.gN (fun ds rs=>out.ij ds rs/\R ds rs):=by
 intro ds hd;refine AE hk ?_;have h0:(qX out).ok (aR.av 0 ds):=by
   refine lC ⟨fun p xx=>oa hd.1 p xx,fun l hl=>(by cases hl),fun p hp=>(by cases hp)⟩ hd.2
 refine Mi (S:=S) (Ps:=[]) (Qs:=[]) (E1:=fun g ds rs=>H (e.key g) ds->cK T X (e.key g) ds rs) (F:=fun _ _=>False) (G:=fun _ _=>True) (fun f ds rs h1 h2=>h2 h1) ?_ (hp ds hd) trivial fun _ _ h _=>h;refine JX (YM:=ds) (K:=K) (key:=e.key) (an:=an) (fun f c hc ds hd=>?_) hl (by simpa[Nat.ble_eq]using ve) h0 (List.isEmpty_iff.1 hc) (fun k hk=>lx.2 hk) (fun k _=>rfl) (fun id l h=>by cases h) trivial;obtain⟨w1,w2⟩:=hK _ c hc ds hd;by_cases hh:H (e.key f) ds;obtain⟨rs,g1,g2⟩:=w1 hh;exact⟨rs,fun _=>g1,g2⟩;obtain⟨rs,g2⟩:=w2 hh;exact⟨rs,fun h=>absurd h hh,g2⟩
variable {S:BE->Bool}{H:Nat->List DV->Prop}{E:Nat->List DV->List DV->Prop}{R:List DV->Prop}{Ps:List (Int->Prop)}{ae:az}{F:Nat->List DV->Prop}{t t':au}
theorem fc{p:BE}(hs:S p=false)(ht:p.af ae=true->t.mv S H E R Ps ae F):(au.ev (.aG p) t).mv S H E R Ps ae F:=⟨fun h=>(by rw[hs]at h;cases h),ht⟩
theorem Ez{p:BE}(hp:p.af ae=true)(ht:t.mv S H E R Ps ae F):(au.ev (.aG p) t).mv S H E R Ps ae F:=⟨fun _=>hp,fun _=>ht⟩
theorem po{id:Nat}{op:cU}{M:List (List Int)}(e:op.af ae=M)(ht:t.mv S H E R Ps (ae.set id (.l M)) F):(au.ev (.bW id op) t).mv S H E R Ps ae F:=by subst e;exact ht
theorem s_call{f:FuncId}{args:List DE}{res:List VT}{base:Nat}(hh:H f (args.map (DE.af ae)))(ht:∀rs,E f (args.map (DE.af ae)) rs->t.mv S H E R Ps (ae.av base rs) F):(au.ev (.call f (.c true) args res base) t).mv S H E R Ps ae F:=
 ⟨fun _=>⟨hh,ht⟩,fun h=>by simp[BE.af]at h⟩
theorem JZ{c:BE}(h1:c.af ae=true->t.mv S H E R Ps ae F)(h2:c.af ae=false->t'.mv S H E R Ps ae F):(au.ite c t t').mv S H E R Ps ae F:=⟨h1,h2⟩
theorem wv{a b:IE}(h1:a.af ae<b.af ae->t.mv S H E R Ps ae F)(h2:b.af ae<=a.af ae->t'.mv S H E R Ps ae F):(au.ite (.lt a b) t t').mv S H E R Ps ae F:=
 JZ (fun h=>h1 (mC h)) (fun h=>h2 (Int.not_lt.1 (Fc h)))
theorem oM{a b:IE}(h1:a.af ae=b.af ae->t.mv S H E R Ps ae F)(h2:a.af ae≠b.af ae->t'.mv S H E R Ps ae F):(au.ite (.eq a b) t t').mv S H E R Ps ae F:=
 JZ (fun h=>h1 (mC h)) (fun h=>h2 (Fc h))
theorem Gr{c:BE}(h1:c.af ae=false->t.mv S H E R Ps ae F)(h2:c.af ae=true->t'.mv S H E R Ps ae F):(au.ite (.not c) t t').mv S H E R Ps ae F:=
 JZ (fun h=>h1 (by simpa[BE.af]using h)) (fun h=>h2 (by simpa[BE.af]using h))
theorem EA{id:Nat}{entry:List DE}{ks:List CT}{base:Nat}{body:au}(inv:List DV->Prop)(h0:inv (entry.map (DE.af ae)))
   (hb:∀ds,inv ds->body.mv S H E R Ps (ae.av base ds) (lN F id inv)):(au.loop id entry ks base body).mv S H E R Ps ae F:=⟨inv,h0,hb⟩
theorem zp{id:Nat}{bG:List DE}{G:List DV->Prop}(h:G (bG.map (DE.af ae))):(au.again id bG).mv S H E R Ps ae (lN F id G):=by
 simpa[au.mv,lN]using h
theorem acq{bG:List DE}{rs:List DV}(e:bG.map (DE.af ae)=rs)(h:R rs):(au.ret bG).mv S H E R Ps ae F:=by subst e;exact h
theorem EB{e:IE}{p:Int->Prop}(h:p (e.af ae)):(au.fail e).mv S H E R (p::Ps) ae F:=h
theorem UK{x:Nat}(h:t'.mv S H E R ((fun n=>t.mv S H E R Ps (ae.set x (.i n)) F)::Ps) ae F):(au.fz x t t').mv S H E R Ps ae F:=h
theorem C4{p:Int->Prop}(h:t.mv S H E R Ps ae F):(au.pop t).mv S H E R (p::Ps) ae F:=h
end
section
def au.fx(K:Nat->Option Cn)(key:FuncId->Nat)(an:An)(out:Cn):au->List Bool->Sk->List Lc->Nat->List Nat->List Vc
 |.ev (.aG q) t,p,s,ls,d,pr=>if s.pv 0 q then t.fx K key an out p s ls d pr else s.ask an.fk q++t.fx K key an out p (s.ug q) ls d pr
 | .ev (.call f g args res base) t,p,s,ls,d,pr=>match K (key f)with
   |none=>[bad s]
   | some c=>
     let m:=c.res.length
     let s1:=s.ug g
     let vs:=s1.s6 an.fk args c.args++s1.asks an.fk (s7 args 0 base) c.pre
     let ok:=free pr base m&&(args.all (DE.off base m)&&(g.all (jk base m)&&(qW (bI res) c.res&&Nat.blt args.length R0)))
     let s2:=s.gF (jk base m)
     let σ:=s7 args m base
     let s3:Sk:={s2 with g:=n7 base (if g.beq (.c true)then c.res else c.res.map fun a=>a.AG (Ca a))++s2.g}
     let s4:=s3.nd (c.post.filterMap fun p=>(p.put σ).map fun p'=>if g.beq (.c true)then p' else .or (.not g) p')
     vs++((if ok then []else [bad s])++t.fx K key an out p s4 ls d pr)
 |.ev (.bW id op) t,p,s,ls,d,pr=>
     let x:=s.NW id op
     let s2:=s.gF (jk id 1)
     let s3:Sk:={s2 with g:=(id,x.1)::s2.g}
     (if free pr id 1&&op.all (jk id 1)then []else [bad s])++t.fx K key an out p (s3.nd x.2) ls d pr
 |.ite c a b,p,s,ls,d,pr=>if s.pv 1 c then a.fx K key an out p (s.ug c) ls d pr else if s.nv 1 c then b.fx K key an out p (s.nc c) ls d pr
     else match p with
       | []=>a.fx K key an out [] (s.ug c) ls d pr++b.fx K key an out [] (s.nc c) ls d pr
       |true::p=>a.fx K key an out p (s.ug c) ls d pr
       |false::p=>b.fx K key an out p (s.nc c) ls d pr
 | .loop id entry tys base body,p,s,ls,d,pr=>match an.loops.find? fun x=>Nat.beq x.1 id&&Nat.beq x.2.1 base with
   |none=>[bad s]
   | some (_,_,v)=>
     let n:=v.as.length
     let s2:=s.gF (jk base n)
     let s3:Sk:={s2 with g:=n7 base v.as++s2.g}
     s.s6 an.fk entry v.as++(s.asks an.fk (Me base n entry) v.ex++((if free pr base n then []else [bad s]) ++
       body.fx K key an out p (s3.nd v.ex) (⟨id,base,v⟩::ls) d (v.names++pr)))
 |.fz x tp t,p,s,ls,d,pr=>
     let s2:=s.gF (jk x 1)
     match p with
     | []=>(if free pr x 1 then []else [bad s])++((if an.er.2<an.er.1 then []else tp.fx K key an out [] {s2 with g:=(x,.i an.er.1 an.er.2)::s2.g} ls d pr)++t.fx K key an out [] s ls (d+1) pr)
     |true::p=>(if free pr x 1 then []else [bad s])++(if an.er.2<an.er.1 then []else tp.fx K key an out p {s2 with g:=(x,.i an.er.1 an.er.2)::s2.g} ls d pr)
     |false::p=>t.fx K key an out p s ls (d+1) pr
 |.pop t,p,s,ls,d,pr=>if d=0 then [bad s]else t.fx K key an out p s ls (d-1) pr
 |t,_,s,ls,d,pr=>t.oJ K key an out s ls d pr
variable {K:Nat->Option Cn}{key:FuncId->Nat}{an:An}{out:Cn}
theorem Pk:∀(t:au) (s:Sk) (ls:List Lc) (d:Nat) (pr:List Nat),t.fx K key an out [] s ls d pr=t.oJ K key an out s ls d pr:=by
 intro t;induction t with
 |ret bG=>intro s ls d pr;simp only[au.fx]
 |stuck m=>intro s ls d pr;simp only[au.fx]
 | ev e t ih=>
   intro s ls d pr;cases e with
   |aG q=>simp only[au.fx,au.oJ,ih]
   |call f g args res base=>cases hK:K (key f)<;>simp only[au.fx,au.oJ,ih,hK]
   |bW id op=>simp only[au.fx,au.oJ,ih]
   |du a b=>simp only[au.fx]
 |ite c a b eW fA=>intro s ls d pr;simp only[au.fx,au.oJ,eW,fA]
 | loop id entry tys base body ih=>
   intro s ls d pr;cases hL:(an.loops.find? fun x=>Nat.beq x.1 id&&Nat.beq x.2.1 base)<;>simp only[au.fx,au.oJ,ih,hL]
 |again id bG=>intro s ls d pr;simp only[au.fx]
 |fail e=>intro s ls d pr;simp only[au.fx]
 |fz x tp t iht ih=>intro s ls d pr;simp only[au.fx,au.oJ,iht,ih]
 |pop t ih=>intro s ls d pr;simp only[au.fx,au.oJ,ih]
theorem eM{α:Type}{a b:List α}:a++b=[]↔a=[]/\b=[]:=List.append_eq_nil_iff
theorem Ik:∀(t:au) {p:List Bool} {s:Sk} {ls:List Lc} {d:Nat} {pr:List Nat},t.fx K key an out (p++[true]) s ls d pr=[]->t.fx K key an out (p++[false]) s ls d pr=[]->t.fx K key an out p s ls d pr=[]:=by
 intro t;induction t with
 |ret bG=>intro p s ls d pr h1 _;simpa only[au.fx]using h1
 |stuck m=>intro p s ls d pr h1 _;simpa only[au.fx]using h1
 | ev e t ih=>
   intro p s ls d pr h1 h2;cases e with
   | aG q=>
     simp only[au.fx]at h1 h2 ⊢;split at h1;rename_i h;rw[if_pos h]at h2 ⊢;exact ih h1 h2;rename_i h;rw[if_neg h]at h2 ⊢;rw[eM]at h1 h2 ⊢;exact⟨h1.1,ih h1.2 h2.2⟩
   | call f g args res base=>
     cases hK:K (key f);simp only[au.fx,hK]at h1;cases h1;simp only[au.fx,hK]at h1 h2 ⊢;have a1:=eM.1 h1;have a2:=eM.1 a1.2;have b2:=eM.1 (eM.1 h2).2;exact eM.2 ⟨a1.1,eM.2 ⟨a2.1,ih a2.2 b2.2⟩⟩
   | bW id op=>
     simp only[au.fx]at h1 h2 ⊢;rw[eM]at h1 h2 ⊢;exact⟨h1.1,ih h1.2 h2.2⟩
   |du a b=>simpa only[au.fx]using h1
 | ite c a b eW fA=>
   intro p s ls d pr h1 h2;simp only[au.fx]at h1 h2 ⊢;split at h1;rename_i h;rw[if_pos h]at h2 ⊢;exact eW h1 h2;rename_i h;rw[if_neg h]at h2 ⊢;split at h1;rename_i h;rw[if_pos h]at h2 ⊢;exact fA h1 h2;rename_i h;rw[if_neg h]at h2 ⊢
   match p,h1,h2 with
   | [],h1,h2=>exact eM.2 ⟨h1,h2⟩
   |true::p,h1,h2=>exact eW h1 h2
   |false::p,h1,h2=>exact fA h1 h2
 | loop id entry tys base body ih=>
   intro p s ls d pr h1 h2;cases hL:(an.loops.find? fun x=>Nat.beq x.1 id&&Nat.beq x.2.1 base);simp only[au.fx,hL]at h1;cases h1;simp only[au.fx,hL]at h1 h2 ⊢;have a1:=eM.1 h1;have a2:=eM.1 a1.2;have a3:=eM.1 a2.2;have b3:=eM.1 (eM.1 (eM.1 h2).2).2;exact eM.2 ⟨a1.1,eM.2 ⟨a2.1,eM.2 ⟨a3.1,ih a3.2 b3.2⟩⟩⟩
 |again id bG=>intro p s ls d pr h1 _;simpa only[au.fx]using h1
 |fail e=>intro p s ls d pr h1 _;simpa only[au.fx]using h1
 | fz x tp t iht ih=>
   intro p s ls d pr h1 h2
   match p,h1,h2 with
   | [],h1,h2=>
     simp only[mP,au.fx]at h1 h2 ⊢;rw[eM]at h1;exact eM.2 ⟨h1.1,eM.2 ⟨h1.2,h2⟩⟩
   | true::p,h1,h2=>
     simp only[qt,au.fx]at h1 h2 ⊢;rw[eM]at h1 h2 ⊢;refine⟨h1.1,?_⟩;have a1:=h1.2;have a2:=h2.2;split at a1;rename_i h;rw[if_pos h];rename_i h;rw[if_neg h]at a2 ⊢;exact iht a1 a2
   | false::p,h1,h2=>
     simp only[qt,au.fx]at h1 h2 ⊢;exact ih h1 h2
 | pop t ih=>
   intro p s ls d pr h1 h2;simp only[au.fx]at h1 h2 ⊢;split at h1;rename_i h;rw[if_pos h];exact h1;rename_i h;rw[if_neg h]at h2 ⊢;exact ih h1 h2
def Mk(P:Program)(r:nj)(K:Nat->Option Cn)(key:FuncId->Nat)(an:An)(out:Cn)(x n:Nat)(p:List Bool):Bool:=
 ((prune (iN (UH x n) (TD x [] n)) (wo P r r.aM fun st=>st.fix x n)).fx K key an out p ((sN x (qX out) n).ug (UH x n)) [] 0 (List.range out.args.length)).isEmpty
theorem gm{P:Program}{r:nj}{x n:Nat}{p:List Bool}(h1:Mk P r K key an out x n (p++[true])=true)(h2:Mk P r K key an out x n (p++[false])=true):Mk P r K key an out x n p=true:=
 List.isEmpty_iff.2 (Ik _ (List.isEmpty_iff.1 h1) (List.isEmpty_iff.1 h2))
def W6(P:Program)(r:nj)(x n:Nat):Bool:=(prune (iN (UH x n) (TD x [] n)) (wo P r r.aM fun st=>st.fix x n)).na (bI r.s.res)
theorem Il{P:Program}{r:nj}{x n:Nat}(h:Mk P r K key an out x n []=true)(hr:W6 P r x n=true):C3 P r K key an out x n=true:=by
 unfold Mk at h;rw[Pk]at h;exact Bool.and_eq_true_iff.2 ⟨h,hr⟩
end
end Go.Sx

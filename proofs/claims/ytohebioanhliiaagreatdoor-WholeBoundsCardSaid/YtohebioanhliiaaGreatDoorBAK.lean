/- The range analysis of trees: its soundness. -/
import Derived.Test.YtohebioanhliiaaGreatDoorBA1
import Derived.Test.YtohebioanhliiaaGreatDoorBA2
import Derived.Test.YtohebioanhliiaaGreatDoorBA4
import Derived.Laws.Closers25b
set_option linter.unusedVariables false
set_option linter.unusedSimpArgs false
namespace Go.Sx
def CKb:IntKind->IntKind->Bool:=fun a b=>decide (a=b)
def IE.beq:IE->IE->Bool
 |.v a,.v b=>Nat.beq a b
 |.c a,.c b=>decide (a=b)
 |.add x y,.add z w=>x.beq z&&y.beq w
 |.sub x y,.sub z w=>x.beq z&&y.beq w
 |.mul x y,.mul z w=>x.beq z&&y.beq w
 |.tdiv x y,.tdiv z w=>x.beq z&&y.beq w
 |.tmod x y,.tmod z w=>x.beq z&&y.beq w
 |.ediv a n,.ediv b m=>Nat.beq n m&&a.beq b
 |.emod a n,.emod b m=>Nat.beq n m&&a.beq b
 |.shl x y,.shl z w=>x.beq z&&y.beq w
 |.shr x y,.shr z w=>x.beq z&&y.beq w
 |.wrap k a,.wrap j b=>CKb k j&&a.beq b
 |.max x y,.max z w=>x.beq z&&y.beq w
 |.min x y,.min z w=>x.beq z&&y.beq w
 |.bits o k x y,.bits p j z w=>decide (o=p)&&(CKb k j&&(x.beq z&&y.beq w))
 |.len a,.len b=>Nat.beq a b
 |.get k i j,.get l m n=>Nat.beq k l&&(Nat.beq j n&&i.beq m)
 |.lh i n x y,.lh j m z w=>Nat.beq n m&&(i.beq j&&(x.beq z&&y.beq w))
 |_,_=>false
def BE.beq:BE->BE->Bool
 |.v a,.v b=>Nat.beq a b
 |.c a,.c b=>a==b
 |.lt x y,.lt z w=>x.beq z&&y.beq w
 |.le x y,.le z w=>x.beq z&&y.beq w
 |.eq x y,.eq z w=>x.beq z&&y.beq w
 |.not a,.not b=>a.beq b
 |.and x y,.and z w=>x.beq z&&y.beq w
 |.or x y,.or z w=>x.beq z&&y.beq w
 |.iff x y,.iff z w=>x.beq z&&y.beq w
 |.qu a,.qu b=>a.beq b
 |_,_=>false
inductive A where
 |i (lo hi:Int)
 |b
 |l (n0:Int) (n1:Option Int) (cs:List (Int×Int))
 |t
 deriving Inhabited
def bZ:List (Int×Int)->Nat->List Int->Prop
 | [],_,_=>True
 |c::cs,j,r=>(c.1<=r.getD j 0/\r.getD j 0<=c.2)/\bZ cs (j+1) r
def A.has:A->DV->Prop
 |.i lo hi,.i n=>lo<=n/\n<=hi
 |.b,.b _=>True
 |.l n0 n1 cs,.l xs=>n0<=(xs.length:Int)/\(∀y,n1=some y->(xs.length:Int)<=y)/\∀r∈xs,bZ cs 0 r
 |.t,_=>True
 |_,_=>False
def nL:List A->List DV->Prop
 | [],[]=>True
 |a::as,d::ds=>a.has d/\nL as ds
 |_,_=>False
def mn:Int:=-9223372036854775808
def mx:Int:=9223372036854775807
abbrev Lf:=List (Int×IE)×Int
structure Sk where
 g:List (Nat×A)
 q:List Lf
 f:List BE
 deriving Inhabited
def look(k:Nat):List (Nat×A)->Option A
 | []=>none
 |(j,a)::r=>if Nat.beq j k then some a else look k r
def Sk.find(s:Sk)(k:Nat):Option A:=look k s.g
abbrev Rg:=Option Int×Option Int
def o2(f:Int->Int->Int):Option Int->Option Int->Option Int
 |some a,some b=>some (f a b)
 |_,_=>none
def MR(x y z w:Int):Int×Int:=(min (min x y) (min z w),max (max x y) (max z w))
def mulR(a b:Rg):Rg:=match a,b with
 |(some x,some y),(some z,some w)=>(some (MR (x*z) (x*w) (y*z) (y*w)).1,some (MR (x*z) (x*w) (y*z) (y*w)).2)
 |(some x,_),(some z,_)=>if 0<=x/\0<=z then(some (x*z),none)else(none,none)
 |_,_=>(none,none)
def sqR(a:Rg):Rg:=match a with
 |(some x,some y)=>(some (if 0<=x then x*x else if y<=0 then y*y else 0),some (max (x*x) (y*y)))
 |_=>(some 0,none)
def Km(a:Rg):Rg:=match a with
 |(some x,some y)=>(some (-(max (-x) y)),some (max (-x) y))
 |_=>(none,none)
def MS(a b:Rg):Rg:=match a,b with
 |(some x,some y),(some z,_)=>if 1<=z then(some (if 0<=x then 0 else -((-x)/z)),some (if y<=0 then 0 else y/z))else Km a
 |_,_=>Km a
def MT(a b:Rg):Rg:=match a,b with
 |(some x,some y),(some z,some w)=>if 1<=z then(some (if 0<=x then 0 else max x (1-w)),some (if y<=0 then 0 else min y (w-1)))else Km a
 |_,_=>Km a
def We(a b:Rg):Rg:=match b with
 |(some z,some w)=>if 0<=z/\w<=128 then mulR a (some (2 ^ z.toNat),some (2 ^ w.toNat))else(none,none)
 |_=>(none,none)
def Wf(a b:Rg):Rg:=match a,b with
 |(some x,some y),(some z,some w)=>if 0<=z/\w<=128 then(some (min (x/2 ^ z.toNat) (x/2 ^ w.toNat)),some (max (y/2 ^ z.toNat) (y/2 ^ w.toNat)))else(some (min x 0),some (max y 0))
 |(some x,some y),_=>(some (min x 0),some (max y 0))
 |_,_=>(none,none)
def MU(k:IntKind)(a:Rg):Rg:=match a with
 |(some x,some y)=>if k.min<=x/\y<=k.max then(some x,some y)else(some k.min,some k.max)
 |_=>(some k.min,some k.max)
def Uq(a b:Rg):Rg:=(o2 min a.1 b.1,o2 max a.2 b.2)
def Sk.aaO(s:Sk)(i:IE)(k:Nat)(r:Rg)(n0:Int):Bool:=(match r.1 with
 |some x=>decide (0<=x)
 |none=>false)&&((match r.2 with
 |some y=>decide (y<n0)
 |none=>false)||(match i with
 |.sub (.len j) (.c m)=>Nat.beq j k&&decide (1<=m)
 |_=>false)||s.f.any fun p=>p.beq (.lt i (.len k)))
def Sh(a b:Rg):Rg:=(o2 min a.1 b.1,match a.2,b.2 with
 |some x,some y=>some (min x y)
 |some x,none=>some x
 |none,y=>y)
def MV(a b:Rg):Rg:=((match a.1,b.1 with
 |some x,some y=>some (max x y)
 |some x,none=>some x
 |none,y=>y),o2 max a.2 b.2)
def IE.ZR:IE->Option Int
 |.c n=>some n
 |_=>none
def Sk.iv(s:Sk):IE->Rg
 | .v k=>match s.find k with
   |some (.i lo hi)=>(some lo,some hi)
   |_=>(none,none)
 |.c n=>(some n,some n)
 |.add a b=>(o2 (· + ·) (s.iv a).1 (s.iv b).1,o2 (· + ·) (s.iv a).2 (s.iv b).2)
 |.sub a b=>(o2 (· - ·) (s.iv a).1 (s.iv b).2,o2 (· - ·) (s.iv a).2 (s.iv b).1)
 |.mul a b=>if a.beq b then sqR (s.iv a)else mulR (s.iv a) (s.iv b)
 |.tdiv a b=>MS (s.iv a) (s.iv b)
 |.tmod a b=>MT (s.iv a) (s.iv b)
 |.ediv a n=>if Nat.beq n 0 then(none,none)else((s.iv a).1.map (· / (n:Int)),(s.iv a).2.map (· / (n:Int)))
 | .emod a n=>if Nat.beq n 0 then(none,none)else match s.iv a with
   |(some x,some y)=>if 0<=x/\y<(n:Int)then(some x,some y)else(some 0,some ((n:Int)-1))
   |_=>(some 0,some ((n:Int)-1))
 |.shl a b=>We (s.iv a) (s.iv b)
 |.shr a b=>Wf (s.iv a) (s.iv b)
 |.wrap k a=>MU k (s.iv a)
 |.max a b=>MV (s.iv a) (s.iv b)
 |.min a b=>Sh (s.iv a) (s.iv b)
 |.bits _ k _ _=>(some k.min,some k.max)
 | .len k=>match s.find k with
   |some (.l n0 n1 _)=>(some (max n0 0),n1)
   |_=>(some 0,none)
 | .get k i j=>match s.find k with
   | some (.l n0 _ cs)=>match cs[j]? with
     |some (x,y)=>if s.aaO i k (s.iv i) n0 then(some x,some y)else(some (min x 0),some (max y 0))
     |none=>(none,none)
   |_=>(none,none)
 |.lh i n a b=>Uq (s.iv a) (s.iv b)
def Kn(c:Int)(e:IE):List (Int×IE)->List (Int×IE)
 | []=>[(c,e)]
 |(d,x)::r=>if e.beq x then(if d+c=0 then r else(d+c,x)::r)else(d,x)::Kn c e r
def MW(c:Int)(a b:List (Int×IE)):List (Int×IE):=a.foldr (fun t r=>Kn (c*t.1) t.2 r) b
def Lf.plus(c:Int)(a b:Lf):Lf:=(MW c a.1 b.1,c*a.2+b.2)
def within(k:IntKind)(a:Rg):Bool:=match a with
 |(some x,some y)=>decide (k.min<=x/\y<=k.max)
 |_=>false
def Sk.sj(s:Sk):IE->Lf
 |.c n=>([],n)
 |.add a b=>Lf.plus 1 (s.sj a) (s.sj b)
 |.sub a b=>Lf.plus (-1) (s.sj b) (s.sj a)
 | .mul a b=>match a.ZR,b.ZR with
   |some n,_=>Lf.plus n (s.sj b) ([],0)
   |_,some n=>Lf.plus n (s.sj a) ([],0)
   |_,_=>([(1,.mul a b)],0)
 |.wrap k a=>if within k (s.iv a)then s.sj a else([(1,.wrap k a)],0)
 |e=>([(1,e)],0)
def Sk.low(s:Sk):List (Int×IE)->Option Int
 | []=>some 0
 | (c,e)::r=>match s.low r,(if 0<=c then(s.iv e).1 else(s.iv e).2)with
   |some x,some y=>some (x+c*y)
   |_,_=>none
def Sk.tC(s:Sk)(l:Lf):Bool:=match s.low l.1 with
 |some x=>decide (0<=x+l.2)
 |none=>false
def shares(a b:List (Int×IE)):Option Int:=a.findSome? fun x=>b.findSome? fun y=>if decide (0<x.1*y.1)&&x.2.beq y.2 then some ((if 1<=y.1/x.1 then y.1/x.1 else 1))else none
def Sk.fork(s:Sk)(l:Lf):List (Int×IE)->Option (Nat×Lf×Lf)
 | []=>none
 |(c,.max a b)::r=>some (if c<0 then 1 else 0,Lf.plus c (s.sj a) (Lf.plus (-c) ([(1,.max a b)],0) l),Lf.plus c (s.sj b) (Lf.plus (-c) ([(1,.max a b)],0) l))
 |(c,.min a b)::r=>some (if 0<c then 1 else 0,Lf.plus c (s.sj a) (Lf.plus (-c) ([(1,.min a b)],0) l),Lf.plus c (s.sj b) (Lf.plus (-c) ([(1,.min a b)],0) l))
 |(c,.lh i n a b)::r=>some (2,Lf.plus c (s.sj a) (Lf.plus (-c) ([(1,.lh i n a b)],0) l),Lf.plus c (s.sj b) (Lf.plus (-c) ([(1,.lh i n a b)],0) l))
 |_::r=>s.fork l r
def Sk.by(s:Sk):Nat->Lf->Bool
 |0,l=>s.tC l
 | d+1,l=>s.tC l||(s.q.any fun h=>match shares h.1 l.1 with
   |some m=>s.by d (Lf.plus (-m) h l)
   |none=>false)||match s.fork l l.1 with
   |some (0,x,y)=>s.by d x||s.by d y
   |some (_,x,y)=>s.by d x&&s.by d y
   |none=>false
def Sk.diff(s:Sk)(a b:IE):Lf:=Lf.plus (-1) (s.sj a) (s.sj b)
def Sk.gP(s:Sk)(p:BE):Bool:=s.f.any fun x=>x.beq p
mutual
def Sk.pv(s:Sk)(d:Nat):BE->Bool
 |.c x=>x||s.by d ([],-1)
 |.v k=>s.gP (.v k)
 |.lt a b=>s.by d (Lf.plus 1 (s.diff a b) ([],-1))
 |.le a b=>s.by d (s.diff a b)
 |.eq a b=>a.beq b||(s.by d (s.diff a b)&&s.by d (s.diff b a))||s.gP (.eq a b)
 |.not a=>s.nv d a
 |.and a b=>s.pv d a&&s.pv d b
 |.or a b=>s.pv d a||s.pv d b||s.gP (.or a b)
 |.iff a b=>a.beq b||(s.pv d a&&s.pv d b)||(s.nv d a&&s.nv d b)||s.gP (.iff a b)
 |.qu a=>s.by d (Lf.plus 1 (s.sj a) ([],-1))||s.by d (Lf.plus (-1) (s.sj a) ([],-1))||s.gP (.qu a)
def Sk.nv(s:Sk)(d:Nat):BE->Bool
 |.c x=>!x||s.by d ([],-1)
 |.v k=>s.gP (.not (.v k))
 |.lt a b=>s.by d (s.diff b a)
 |.le a b=>s.by d (Lf.plus 1 (s.diff b a) ([],-1))
 |.eq a b=>s.by d (Lf.plus 1 (s.diff a b) ([],-1))||s.by d (Lf.plus 1 (s.diff b a) ([],-1))||s.gP (.not (.eq a b))
 |.not a=>s.pv d a
 |.and a b=>s.nv d a||s.nv d b||s.gP (.not (.and a b))
 |.or a b=>s.nv d a&&s.nv d b
 |.iff a b=>(s.pv d a&&s.nv d b)||(s.nv d a&&s.pv d b)
 |.qu a=>s.by d (s.sj a)&&s.by d (Lf.plus (-1) (s.sj a) ([],0))
end
def CS(k:Nat)(a:A):List (Nat×A)->List (Nat×A)
 | []=>[]
 |(j,x)::r=>if Nat.beq j k then(j,a)::r else(j,x)::CS k a r
def cdiv(a b:Int):Int:=-((-a)/b)
def Sk.bound(s:Sk)(l:Lf)(c:Int)(e:IE):List (Nat×A):=
 match s.low ((Lf.plus (-1) l ([(c,e)],0)).1)with
 |none=>s.g
 | some nr=>
   let m:=nr+((-1)*l.2+0)
   match e with
   | .v k=>match s.find k with
     |some (.i lo hi)=>if 0<c then CS k (.i (max lo (cdiv m c)) hi) s.g else if c<0 then CS k (.i lo (min hi ((-m)/(-c)))) s.g else s.g
     |_=>s.g
   | .len k=>match s.find k with
     | some (.l n0 n1 cs)=>if 0<c then CS k (.l (max n0 (cdiv m c)) n1 cs) s.g else if c<0 then CS k (.l n0 (some (match n1 with
       |some y=>min y ((-m)/(-c))
       |none=>(-m)/(-c))) cs) s.g else s.g
     |_=>s.g
   |_=>s.g
def Ur:List (Int×IE)->List (Int×IE)->Bool
 | [],[]=>true
 |x::xs,y::ys=>decide (x.1=y.1)&&(x.2.beq y.2&&Ur xs ys)
 |_,_=>false
def Sk.rl(s:Sk)(l:Lf):Sk:=
 if s.tC l||s.q.any (fun h=>decide (h.2<=l.2)&&Ur h.1 l.1)then s else
 let s':=l.1.foldr (fun t s=>{s with g:=s.bound l t.1 t.2}) s
 {s' with q:=l::s'.q}
def Sk.rm(s:Sk):Nat->Lf->Sk
 |0,l=>s.rl l
 | n+1,l=>match s.fork l l.1 with
   |some (1,x,y)=>Sk.rm (Sk.rm (s.rl l) n x) n y
   |_=>s.rl l
def Sk.dX(s:Sk)(l:Lf):Sk:=s.rm 2 l
def Us(a:Rg):Bool:=match a with
 |(some x,some y)=>decide (mn<=x/\y<=mx)
 |_=>false
def leI(a:Rg)(n:Int):Bool:=match a.2 with
 |some y=>decide (y<=n)
 |none=>false
def Sk.mw(s:Sk)(a b:IE)(st:Int):Sk:=match a with
 |.wrap .u64 x=>if Us (s.iv x)&&leI (s.iv b) (mx+st)then(s.dX (s.sj x)).dX (Lf.plus 1 (s.diff x b) ([],-st))else s
 |_=>s
def Sk.fact(s:Sk)(p:BE):Sk:=if s.gP p then s else {s with f:=p::s.f}
mutual
def Sk.add(s:Sk):BE->Sk
 |.c true=>s
 | .lt a b=>(match b with
   |.len k=>Sk.fact (Sk.mw (s.dX (Lf.plus 1 (s.diff a b) ([],-1))) a b 1) (.lt a b)
   |_=>Sk.mw (s.dX (Lf.plus 1 (s.diff a b) ([],-1))) a b 1)
 |.le a b=>Sk.mw (s.dX (s.diff a b)) a b 0
 |.eq a b=>(s.dX (s.diff a b)).dX (s.diff b a)
 |.not a=>s.sub a
 |.and a b=>Sk.add (Sk.add s a) b
 |.or a b=>if s.nv 1 a then s.add b else if s.nv 1 b then s.add a else s.fact (.or a b)
 |.iff a b=>if s.pv 1 a then s.add b else if s.pv 1 b then s.add a else if s.nv 1 a then s.sub b else if s.nv 1 b then s.sub a else s.fact (.iff a b)
 |p=>s.fact p
def Sk.sub(s:Sk):BE->Sk
 |.c false=>s
 |.lt a b=>Sk.mw (s.dX (s.diff b a)) b a 0
 |.le a b=>Sk.mw (s.dX (Lf.plus 1 (s.diff b a) ([],-1))) b a 1
 |.eq a b=>if s.by 1 (s.diff a b)then s.dX (Lf.plus 1 (s.diff a b) ([],-1))else if s.by 1 (s.diff b a)then s.dX (Lf.plus 1 (s.diff b a) ([],-1))else s.fact (.not (.eq a b))
 |.not a=>s.add a
 |.and a b=>if s.pv 1 a then s.sub b else if s.pv 1 b then s.sub a else s.fact (.not (.and a b))
 |.or a b=>Sk.sub (Sk.sub s a) b
 |.iff a b=>if s.pv 1 a then s.sub b else if s.pv 1 b then s.sub a else if s.nv 1 a then s.add b else if s.nv 1 b then s.add a else s.fact (.not (.iff a b))
 |.qu a=>(s.dX (s.sj a)).dX (Lf.plus (-1) (s.sj a) ([],0))
 |p=>s.fact (.not p)
end
def Sk.rn(s:Sk):List BE->Sk
 | []=>s
 |.or a b::r=>Sk.rn (if s.nv 1 a then s.add b else if s.nv 1 b then s.add a else s) r
 |.not (.and a b)::r=>Sk.rn (if s.pv 1 a then s.sub b else if s.pv 1 b then s.sub a else s) r
 |.iff a b::r=>Sk.rn (if s.pv 1 a then s.add b else if s.nv 1 a then s.sub b else if s.pv 1 b then s.add a else if s.nv 1 b then s.sub a else s) r
 |.not (.eq a b)::r=>Sk.rn (s.sub (.eq a b)) r
 |_::r=>Sk.rn s r
def Sk.again(s:Sk):List Lf->Sk
 | []=>s
 |l::r=>Sk.again (l.1.foldr (fun t s=>{s with g:=s.bound l t.1 t.2}) s) r
def Sk.adZ(s:Sk):BE->Bool
 |.or a b=>s.pv 0 a||s.pv 0 b
 |.not (.and a b)=>s.nv 0 a||s.nv 0 b
 |.not (.eq a b)=>s.tC (Lf.plus 1 (s.diff a b) ([],-1))||s.tC (Lf.plus 1 (s.diff b a) ([],-1))
 |_=>false
def Sk.tidy(s:Sk):Sk:={s with f:=s.f.filter fun p=>!s.adZ p}
def Sk.close(s:Sk):Sk:=let s':=s.rn s.f;(s'.again (s'.q.take 24)).tidy
def Sk.uH(s:Sk)(p:BE):Sk:=(s.add p).close
def Sk.mY(s:Sk)(p:BE):Sk:=(s.sub p).close
def Lf.all(p:Nat->Bool)(l:Lf):Bool:=l.1.all fun t=>t.2.all p
def Sk.fC(s:Sk)(p:Nat->Bool):Sk:=⟨s.g.filter fun x=>p x.1,s.q.filter (Lf.all p),s.f.filter (BE.all p)⟩
def iq(base n:Nat):Nat->Bool:=fun k=>Nat.blt k base||Nat.ble (base+n) k
def gl:List (Int×Int)->List (Int×Int)->List (Int×Int)
 |c::cs,d::ds=>(min c.1 d.1,max c.2 d.2)::gl cs ds
 |_,_=>[]
def MX:Option Int->Bool
 |some y=>decide (y<=0)
 |none=>false
def A.y7:A->A->A
 |.i x y,.i z w=>.i (min x z) (max y w)
 |.b,.b=>.b
 |.l x y u,.l z w v=>.l (min x z) (o2 max y w) (if MX y then v else if MX w then u else gl u v)
 |_,_=>.t
def CU:List Rg->List (Int×Int)
 |(some x,some y)::r=>(x,y)::CU r
 |_=>[]
def Sk.wX(s:Sk):Sum IE BE->Rg
 |.inl e=>s.iv e
 |.inr _=>(some 0,some 1)
def H7:List (List (Int×Int))->List (Int×Int)
 | []=>[]
 | [c]=>c
 |c::cs=>gl c (H7 cs)
def Sk.de(s:Sk):DE->A
 | .i e=>match s.iv e with
   |(some x,some y)=>.i x y
   |_=>.t
 |.b _=>.b
 | .l k=>match s.find k with
   |some (.l a b c)=>.l a b c
   |_=>.l 0 none []
 |.nil=>.l 0 (some 0) []
 |.rows es=>.l es.length (some es.length) (H7 (es.map fun e=>CU [s.iv e]))
 |.kn xs=>.l 1 (some 1) (CU (xs.map s.wX))
def y8:List (Int×Int)->List (Int×Int)->Bool
 |_,[]=>true
 |c::cs,d::ds=>decide (d.1<=c.1)&&(decide (c.2<=d.2)&&y8 cs ds)
 | [],_::_=>false
def DE.MY:DE->Option IE
 |.l k=>some (.len k)
 |.nil=>some (.c 0)
 |.rows es=>some (.c es.length)
 |.kn _=>some (.c 1)
 |_=>none
def Sk.fits(s:Sk)(d:DE):A->Bool
 |.t=>true
 | .i lo hi=>match d with
   |.i e=>s.pv 2 (.le (.c lo) e)&&s.pv 2 (.le e (.c hi))
   |_=>false
 | .b=>match d with
   |.b _=>true
   |_=>false
 | .l n0 n1 cs=>match d.MY,s.de d with
   | some n,.l a b c=>(decide (n0<=a)||s.pv 3 (.le (.c n0) n))&&(match n1 with
     |none=>true
     |some y=>s.pv 3 (.le n (.c y)))&&(y8 c cs||(match b with
     |some z=>decide (z<=0)
     |none=>false))
   |_,_=>false
def CV(cs:List (Int×Int))(j:Nat)(x:Rg):List (Int×Int):=match cs,j with
 | [],_=>[]
 | c::cs,0=>match x with
   |(some a,some b)=>(min c.1 a,max c.2 b)::cs
   |_=>[]
 |c::cs,j+1=>c::CV cs j x
def EI(cs:List (Int×Int))(j:Nat):List Rg->List (Int×Int)
 | []=>cs
 |x::xs=>EI (CV cs j x) (j+1) xs
def Sk.iF(s:Sk)(k:Nat):Int×Option Int×List (Int×Int):=match s.find k with
 |some (.l a b c)=>(a,b,c)
 |_=>(0,none,[])
def vM(x:Int×Option Int×List (Int×Int)):Bool:=match x.2.1 with
 |some y=>decide (y<=0)
 |none=>false
def vN(id:Nat):List (Sum IE BE)->Nat->List BE
 | [],_=>[]
 |.inl e::r,j=>.eq (.get id (.c 0) j) e::vN id r (j+1)
 |.inr _::r,j=>vN id r (j+1)
def Sk.L3(s:Sk)(id:Nat):cT->A×List BE
 | .lit rows=>(.l rows.length (some rows.length) (H7 (rows.map fun r=>CU (r.map s.wX))),match rows with
   |r::rs=>if rs.length<=1/\r.length<=2 then vN id r 0 else []
   | []=>[])
 | .app a b=>let x:=s.iF a;let y:=s.iF b
   (.l (x.1+y.1) (o2 (· + ·) x.2.1 y.2.1) (if vM x then y.2.2 else if vM y then x.2.2 else gl x.2.2 y.2.2),.eq (.len id) (.add (.len a) (.len b))::if 1<=x.1/\x.2.2.length<=2 then(List.range x.2.2.length).map fun j=>.eq (.get id (.c 0) j) (.get a (.c 0) j)else [])
 | .set a i j x=>let y:=s.iF a
   (.l y.1 y.2.1 (CV y.2.2 j (s.wX x)),[.eq (.len id) (.len a)])
 | .Aj a i xs=>let y:=s.iF a
   (.l y.1 y.2.1 (gl y.2.2 (CU (xs.map s.wX))),[.eq (.len id) (.len a)])
 | .Al a i j xs=>let y:=s.iF a
   (.l y.1 y.2.1 (EI y.2.2 j (xs.map s.wX)),[.eq (.len id) (.len a)])
 | .take a n=>let y:=s.iF a
   (.l 0 (Sh (none,y.2.1) (MV (s.iv n) (some 0,some 0))).2 y.2.2,if s.pv 2 (.le n (.len a))&&s.pv 2 (.le (.c 0) n)then [.eq (.len id) n]else [])
 |.rep n row=>(.l 0 (MV (s.iv n) (some 0,some 0)).2 (row.map fun x=>(x,x)),if s.pv 2 (.le (.c 0) n)then [.eq (.len id) n]else [])
 |.cp a=>let y:=s.iF a;(.l y.1 y.2.1 y.2.2,[.eq (.len id) (.len a)])
 | .LZ a b=>let x:=s.iF a;let y:=s.iF b
   (.l x.1 x.2.1 (if vM x then y.2.2 else if vM y then x.2.2 else gl x.2.2 y.2.2),[.eq (.len id) (.len a)])
 | .sub a _ _ j=>(.l 0 (match(s.iF a).2.2[j]? with
   |some c=>some (max c.2 0)
   |none=>none) [],[])
 |.yc rows=>(.l rows.length (some rows.length) [],[])
def DE.asI:DE->Option IE
 |.i e=>some e
 |_=>none
def DE.asB:DE->Option BE
 |.b e=>some e
 |_=>none
def DE.asL:DE->Option Nat
 |.l k=>some k
 |_=>none
inductive Sb where
 |nm (k:Nat)
 |de (d:DE)
 |no
def Sb.int:Sb->Option IE
 |.nm k=>some (.v k)
 |.de d=>d.asI
 |.no=>none
def Sb.bool:Sb->Option BE
 |.nm k=>some (.v k)
 |.de d=>d.asB
 |.no=>none
def Sb.len:Sb->Option IE
 |.nm k=>some (.len k)
 |.de d=>d.MY
 |.no=>none
def Sb.list:Sb->Option Nat
 |.nm k=>some k
 |.de d=>d.asL
 |.no=>none
def Sb.cell:Sb->Option Int->Nat->Option IE
 |.de .nil,_,_=>some (.c 0)
 |.de (.rows es),some m,0=>if 0<=m then es[m.toNat]? else none
 | .de (.kn xs),some 0,j=>match xs[j]? with
   |some (.inl e)=>some e
   |_=>none
 |_,_,_=>none
def p2{α β γ:Type}(f:α->β->γ):Option α->Option β->Option γ
 |some a,some b=>some (f a b)
 |_,_=>none
def p1{α β:Type}(f:α->β):Option α->Option β
 |some a=>some (f a)
 |none=>none
def IE.put(σ:Nat->Sb):IE->Option IE
 |.v k=>(σ k).int
 |.c n=>some (.c n)
 |.add a b=>p2 .add (a.put σ) (b.put σ)
 |.sub a b=>p2 .sub (a.put σ) (b.put σ)
 |.mul a b=>p2 .mul (a.put σ) (b.put σ)
 |.tdiv a b=>p2 .tdiv (a.put σ) (b.put σ)
 |.tmod a b=>p2 .tmod (a.put σ) (b.put σ)
 |.ediv a n=>p1 (.ediv · n) (a.put σ)
 |.emod a n=>p1 (.emod · n) (a.put σ)
 |.shl a b=>p2 .shl (a.put σ) (b.put σ)
 |.shr a b=>p2 .shr (a.put σ) (b.put σ)
 |.wrap k a=>p1 (.wrap k) (a.put σ)
 |.max a b=>p2 .max (a.put σ) (b.put σ)
 |.min a b=>p2 .min (a.put σ) (b.put σ)
 |.bits o k a b=>p2 (.bits o k) (a.put σ) (b.put σ)
 |.len k=>(σ k).len
 | .get k i j=>match(σ k).cell i.ZR j with
   |some e=>some e
   |none=>p2 (fun l i=>.get l i j) (σ k).list (i.put σ)
 |.lh i n a b=>p2 (fun i x=>.lh i n x.1 x.2) (i.put σ) (p2 Prod.mk (a.put σ) (b.put σ))
def BE.put(σ:Nat->Sb):BE->Option BE
 |.v k=>(σ k).bool
 |.c x=>some (.c x)
 |.lt a b=>p2 .lt (a.put σ) (b.put σ)
 |.le a b=>p2 .le (a.put σ) (b.put σ)
 |.eq a b=>p2 .eq (a.put σ) (b.put σ)
 |.not a=>p1 .not (a.put σ)
 |.and a b=>p2 .and (a.put σ) (b.put σ)
 |.or a b=>p2 .or (a.put σ) (b.put σ)
 |.iff a b=>p2 .iff (a.put σ) (b.put σ)
 |.qu a=>p1 .qu (a.put σ)
def R0:Nat:=1000000
structure Cn where
 args:List A
 pre:List BE
 res:List A
 post:List BE
 deriving Inhabited
structure Iv where
 as:List A
 ex:List BE
 me:IE
 deriving Inhabited
structure Lc where
 id:Nat
 base:Nat
 iv:Iv
structure An where
 loops:List (Nat×Nat×Iv)
 dZ:List (List BE×BE)
 er:Int×Int:=(mn,mx)
def IE.names:IE->List Nat
 |.v k=>[k]
 |.c _=>[]
 |.add a b=>a.names++b.names
 |.sub a b=>a.names++b.names
 |.mul a b=>a.names++b.names
 |.tdiv a b=>a.names++b.names
 |.tmod a b=>a.names++b.names
 |.ediv a _=>a.names
 |.emod a _=>a.names
 |.shl a b=>a.names++b.names
 |.shr a b=>a.names++b.names
 |.wrap _ a=>a.names
 |.max a b=>a.names++b.names
 |.min a b=>a.names++b.names
 |.bits _ _ a b=>a.names++b.names
 |.len k=>[k]
 |.get k i _=>k::i.names
 |.lh i _ a b=>i.names++a.names++b.names
def BE.names:BE->List Nat
 |.v k=>[k]
 |.c _=>[]
 |.lt a b=>a.names++b.names
 |.le a b=>a.names++b.names
 |.eq a b=>a.names++b.names
 |.not a=>a.names
 |.and a b=>a.names++b.names
 |.or a b=>a.names++b.names
 |.iff a b=>a.names++b.names
 |.qu a=>a.names
def Iv.names(v:Iv):List Nat:=v.me.names++v.ex.flatMap BE.names
abbrev Vc:=Sk×BE
def Sk.MZ(s:Sk)(d:Nat):Bool:=s.q.any fun h=>s.by d (Lf.plus (-1) h ([],-1))
def Sk.pw(s:Sk)(d:Nat):BE->Bool
 |.and a b=>s.pw d a&&s.pw d b
 |.or a b=>s.pv d (.or a b)||(s.mY a).close.pw d b
 |p=>s.pv d p||s.MZ 1
def Sk.so(s:Sk)(dZ:List (List BE×BE))(p:BE):Bool:=s.pw 2 p||(dZ.any fun l=>l.1.all (s.pv 3)&&(s.uH l.2).pw 3 p)||s.pw 3 p
def Sk.ask(s:Sk)(dZ:List (List BE×BE))(p:BE):List Vc:=if s.so dZ p then []else [(s,p)]
def bad(s:Sk):Vc:=(s,.c false)
def Sk.GA(s:Sk)(dZ:List (List BE×BE))(d:DE):A->List Vc
 | .i lo hi=>match d with
   |.i e=>s.ask dZ (.le (.c lo) e)++s.ask dZ (.le e (.c hi))
   |_=>[bad s]
 |a=>if s.fits d a then []else [bad s]
def Sk.ru(s:Sk)(dZ:List (List BE×BE)):List DE->List A->List Vc
 | [],[]=>[]
 |d::ds,a::as=>s.GA dZ d a++s.ru dZ ds as
 |_,_=>[bad s]
def Sk.asks(s:Sk)(dZ:List (List BE×BE))(σ:Nat->Sb)(ps:List BE):List Vc:=ps.flatMap fun p=>match p.put σ with
 |some p'=>s.ask dZ p'
 |none=>[bad s]
def nM(base:Nat):List A->List (Nat×A)
 | []=>[]
 |a::as=>(base,a)::nM (base+1) as
def AQ:A->A
 |.i _ _=>.i 0 0
 |.b=>.b
 |.l _ _ _=>.l 0 (some 0) []
 |.t=>.t
def pN:List CT->List A->Bool
 | [],[]=>true
 | c::cs,a::as=>(match c,a with
   |_,.t=>true
   |.c (.i _),.i _ _=>true
   |.c .f,.i _ _=>true
   |.c .b,.b=>true
   |.s _ _,.l _ _ _=>true
   |.n _ _,.l _ _ _=>true
   |_,_=>false)&&pN cs as
 |_,_=>false
def Ko(base n:Nat)(bO:List DE)(k:Nat):Sb:=if Nat.ble base k&&Nat.blt k (base+n)then(match bO[k-base]? with
 |some d=>.de d
 |none=>.no)else .nm k
def ry(args:List DE)(m base:Nat)(k:Nat):Sb:=if Nat.blt k args.length then(match args[k]? with
 |some d=>.de d
 |none=>.no)else if Nat.ble R0 k&&Nat.blt k (R0+m)then .nm (base+(k-R0))else .no
def M0(n:Nat)(bO:List DE)(k:Nat):Sb:=if Nat.blt k n then .nm k else if Nat.ble R0 k then(match bO[k-R0]? with
 |some d=>.de d
 |none=>.no)else .no
def Sk.lK(s:Sk):List BE->Sk
 | []=>s
 |p::ps=>Sk.lK (s.uH p) ps
def free(ad0:List Nat)(base n:Nat):Bool:=ad0.all (iq base n)
def DE.off(base n:Nat):DE->Bool
 |.i e=>e.all (iq base n)
 |.b e=>e.all (iq base n)
 |.l k=>iq base n k
 |.nil=>true
 |.rows es=>es.all (IE.all (iq base n))
 |.kn xs=>xs.all (lA (iq base n))
def ar.qo(K:Nat->Option Cn)(key:FuncId->Nat)(an:An)(out:Cn):ar->Sk->List Lc->Nat->List Nat->List Vc
 |.ret bO,s,_,_,_=>s.ru an.dZ bO out.res++s.asks an.dZ (M0 out.args.length bO) out.post
 |.stuck _,s,_,_,_=>s.ask an.dZ (.c false)
 |.ev (.aG p) t,s,ls,d,pr=>if s.pv 0 p then t.qo K key an out s ls d pr else s.ask an.dZ p++t.qo K key an out (s.uH p) ls d pr
 | .ev (.call f g args res base) t,s,ls,d,pr=>match K (key f)with
   |none=>[bad s]
   | some c=>
     let m:=c.res.length
     let s1:=s.uH g
     let vs:=s1.ru an.dZ args c.args++s1.asks an.dZ (ry args 0 base) c.pre
     let ok:=free pr base m&&(args.all (DE.off base m)&&(g.all (iq base m)&&(pN (bt res) c.res&&Nat.blt args.length R0)))
     let s2:=s.fC (iq base m)
     let σ:=ry args m base
     let s3:Sk:={s2 with g:=nM base (if g.beq (.c true)then c.res else c.res.map fun a=>a.y7 (AQ a))++s2.g}
     let s4:=s3.lK (c.post.filterMap fun p=>(p.put σ).map fun p'=>if g.beq (.c true)then p' else .or (.not g) p')
     vs++((if ok then []else [bad s])++t.qo K key an out s4 ls d pr)
 |.ev (.cu id op) t,s,ls,d,pr=>
     let x:=s.L3 id op
     let s2:=s.fC (iq id 1)
     let s3:Sk:={s2 with g:=(id,x.1)::s2.g}
     (if free pr id 1&&op.all (iq id 1)then []else [bad s])++t.qo K key an out (s3.lK x.2) ls d pr
 |.ev (.dh _ _) _,s,_,_,_=>[bad s]
 |.ite c a b,s,ls,d,pr=>if s.pv 1 c then a.qo K key an out (s.uH c) ls d pr else if s.nv 1 c then b.qo K key an out (s.mY c) ls d pr
     else a.qo K key an out (s.uH c) ls d pr++b.qo K key an out (s.mY c) ls d pr
 | .loop id entry _ base body,s,ls,d,pr=>match an.loops.find? fun x=>Nat.beq x.1 id&&Nat.beq x.2.1 base with
   |none=>[bad s]
   | some (_,_,v)=>
     let n:=v.as.length
     let s2:=s.fC (iq base n)
     let s3:Sk:={s2 with g:=nM base v.as++s2.g}
     s.ru an.dZ entry v.as++(s.asks an.dZ (Ko base n entry) v.ex++((if free pr base n then []else [bad s]) ++
       body.qo K key an out (s3.lK v.ex) (⟨id,base,v⟩::ls) d (v.names++pr)))
 | .again id bO,s,ls,_,_=>match ls.find? fun l=>Nat.beq l.id id with
   |none=>[bad s]
   | some l=>
     let σ:=Ko l.base l.iv.as.length bO
     s.ru an.dZ bO l.iv.as++(s.asks an.dZ σ l.iv.ex++(s.ask an.dZ (.lt (.c 0) l.iv.me)++match l.iv.me.put σ with
       |some me=>s.ask an.dZ (.lt me l.iv.me)
       |none=>[bad s]))
 |.fail e,s,_,d,_=>if d=0 then [bad s]else s.ask an.dZ (.le (.c an.er.1) e)++s.ask an.dZ (.le e (.c an.er.2))
 |.gi x tp t,s,ls,d,pr=>
     let s2:=s.fC (iq x 1)
     (if free pr x 1 then []else [bad s])++((if an.er.2<an.er.1 then []else tp.qo K key an out {s2 with g:=(x,.i an.er.1 an.er.2)::s2.g} ls d pr)++t.qo K key an out s ls (d+1) pr)
 |.pop t,s,ls,d,pr=>if d=0 then [bad s]else t.qo K key an out s ls (d-1) pr
def uI(c:Cn):Sk:=Sk.lK {g:=nM 0 c.args,q:=[],f:=[] } c.pre
def Ut(K:Nat->Option Cn)(key:FuncId->Nat)(an:An)(out:Cn)(t:ar):List Vc:=t.qo K key an out (uI out) [] 0 (List.range out.args.length)
end Go.Sx
namespace Go.Sx
def ckA:CK->Int×Int
 |.i k=>(k.min,k.max)
 |.b=>(0,1)
 |.f=>(0,18446744073709551615)
def ctA:CT->A
 |.c (.i k)=>.i k.min k.max
 |.c .b=>.b
 |.c .f=>.i 0 18446744073709551615
 |.s _ ks=>.l 0 none (ks.map ckA)
 |.n _ _=>.l 0 none []
def aaP(s:bJ):Cn:=⟨(bt s.args).map ctA,[],(bt s.res).map ctA,[]⟩
theorem uJ{a b:Nat}(h:Nat.beq a b=true):a=b:=vz h
theorem IE.beq_eq:∀ {a b:IE},a.beq b=true->a=b:=by
 intro a;induction a with
 |v k=>intro b h;cases b<;>simp_all[IE.beq]<;>exact uJ h
 |c n=>intro b h;cases b<;>simp_all[IE.beq]
 |ediv a n ih=>intro b h;cases b<;>simp[IE.beq]at h;obtain⟨h1,h2⟩:=h;rw[h1,ih h2]
 |emod a n ih=>intro b h;cases b<;>simp[IE.beq]at h;obtain⟨h1,h2⟩:=h;rw[h1,ih h2]
 |wrap k a ih=>intro b h;cases b<;>simp[IE.beq,CKb]at h;obtain⟨h1,h2⟩:=h;rw[h1,ih h2]
 |bits o k x y nw nS=>intro b h;cases b<;>simp[IE.beq,CKb]at h;obtain⟨h1,h2,h3,h4⟩:=h;rw[h1,h2,nw h3,nS h4]
 |len k=>intro b h;cases b<;>simp_all[IE.beq]<;>exact uJ h
 |get k i j ih=>intro b h;cases b<;>simp[IE.beq]at h;obtain⟨h1,h2,h3⟩:=h;rw[h1,h2,ih h3]
 |lh i n x y sD sF Vg=>intro b h;cases b<;>simp[IE.beq]at h;obtain⟨h1,h2,h3,h4⟩:=h;rw[h1,sD h2,sF h3,Vg h4]
 |_ x y nw nS=>intro b h;cases b<;>simp[IE.beq]at h;rw[nw h.1,nS h.2]
theorem BE.beq_eq:∀ {a b:BE},a.beq b=true->a=b:=by
 intro a;induction a with
 |v k=>intro b h;cases b<;>simp_all[BE.beq]<;>exact uJ h
 |c n=>intro b h;cases b<;>simp_all[BE.beq]
 |lt x y=>intro b h;cases b<;>simp[BE.beq]at h;rw[IE.beq_eq h.1,IE.beq_eq h.2]
 |le x y=>intro b h;cases b<;>simp[BE.beq]at h;rw[IE.beq_eq h.1,IE.beq_eq h.2]
 |eq x y=>intro b h;cases b<;>simp[BE.beq]at h;rw[IE.beq_eq h.1,IE.beq_eq h.2]
 |not x ih=>intro b h;cases b<;>simp[BE.beq]at h;rw[ih h]
 |qu x=>intro b h;cases b<;>simp[BE.beq]at h;rw[IE.beq_eq h]
 |_ x y nw nS=>intro b h;cases b<;>simp[BE.beq]at h;rw[nw h.1,nS h.2]
def In(r:Rg)(n:Int):Prop:=(∀x,r.1=some x->x<=n)/\(∀y,r.2=some y->n<=y)
theorem In.non{n:Int}:In (none,none) n:=⟨fun _ h=>(by cases h),fun _ h=>(by cases h)⟩
theorem oO{x y n:Int}:In (some x,some y) n↔x<=n/\n<=y:=⟨fun h=>⟨h.1 x rfl,h.2 y rfl⟩,fun h=>⟨fun _ e=>by cases e;exact h.1,fun _ e=>by cases e;exact h.2⟩⟩
theorem jJ{f:Int->Int->Int}{a b:Option Int}{z:Int}(h:o2 f a b=some z):∃x y,a=some x/\b=some y/\z=f x y:=by
 cases a<;>cases b<;>simp_all[o2]
theorem Wg{a b:Rg}{m n:Int}(ha:In a m)(hb:In b n):In (o2 (· + ·) a.1 b.1,o2 (· + ·) a.2 b.2) (m+n):=by
 constructor;intro z h;obtain⟨x,y,h1,h2,rfl⟩:=jJ h;have:=ha.1 x h1;have:=hb.1 y h2;show x+y<=_;omega
 intro z h;obtain⟨x,y,h1,h2,rfl⟩:=jJ h;have:=ha.2 x h1;have:=hb.2 y h2;show _<=x+y;omega
theorem Wh{a b:Rg}{m n:Int}(ha:In a m)(hb:In b n):In (o2 (· - ·) a.1 b.2,o2 (· - ·) a.2 b.1) (m-n):=by
 constructor;intro z h;obtain⟨x,y,h1,h2,rfl⟩:=jJ h;have:=ha.1 x h1;have:=hb.2 y h2;show x-y<=_;omega
 intro z h;obtain⟨x,y,h1,h2,rfl⟩:=jJ h;have:=ha.2 x h1;have:=hb.1 y h2;show _<=x-y;omega
theorem Wi{x y z w m n:Int}(h1:x<=m)(h2:m<=y)(h3:z<=n)(h4:n<=w):(MR (x*z) (x*w) (y*z) (y*w)).1<=m*n/\m*n<=(MR (x*z) (x*w) (y*z) (y*w)).2:=by
 have key:∀(a b c d t:Int),a<=t->t<=b->∀k:Int,min (a*k) (b*k)<=t*k/\t*k<=max (a*k) (b*k):=by
   intro a b c d t ha hb k;rcases Int.le_total 0 k with hk|hk;have e1:=tk ha hk;have e2:=tk hb hk;omega;have e1:=Int.mul_le_mul_of_nonpos_right ha hk;have e2:=Int.mul_le_mul_of_nonpos_right hb hk;omega
 have a1:=key x y 0 0 m h1 h2 n;have a2:=key z w 0 0 n h3 h4 x;have a3:=key z w 0 0 n h3 h4 y;rw[mc n x,mc z x,mc w x]at a2;rw[mc n y,mc z y,mc w y]at a3;unfold MR;constructor;show min (min (x*z) (x*w)) (min (y*z) (y*w))<=_;omega;show _<=max (max (x*z) (x*w)) (max (y*z) (y*w));omega
theorem H8{a b:Rg}{m n:Int}(ha:In a m)(hb:In b n):In (mulR a b) (m*n):=by
 unfold mulR;split;rename_i x y z w;obtain⟨h1,h2⟩:=oO.1 ha;obtain⟨h3,h4⟩:=oO.1 hb;exact oO.2 (Wi h1 h2 h3 h4);rename_i x _ z _ _;split;rename_i h;refine⟨fun t e=>?_,fun _ e=>(by cases e)⟩;cases e;have h1:=ha.1 x rfl;have h2:=hb.1 z rfl;exact xo h1 h2 h.2 (by omega);exact In.non;exact In.non
theorem Uu(m:Int):0<=m*m:=by
 rcases Int.le_total 0 m with h|h;exact qR h h;exact Int.mul_nonneg_of_nonpos_of_nonpos h h
theorem Wj{a:Rg}{m:Int}(ha:In a m):In (sqR a) (m*m):=by
 unfold sqR;split;rename_i x y;obtain⟨h1,h2⟩:=oO.1 ha;have n0:0<=m*m:=by exact Uu m
 refine oO.2 ⟨?_,?_⟩;split;rename_i h;exact xo h1 h1 h (by omega);split;rename_i h' h;have:=xo (show -y<=-m by omega) (show -y<=-m by omega) (by omega) (by omega);simpa[Int.neg_mul_neg]using this;exact n0;rcases Int.le_total 0 m with h|h;have:=xo h2 h2 h (by omega);omega;have:=xo (show -m<=-x by omega) (show -m<=-x by omega) (by omega) (by omega);simp only[Int.neg_mul_neg]at this;omega;refine⟨fun t e=>?_,fun _ e=>(by cases e)⟩;cases e;exact Uu m
theorem xG{a:Rg}{m t:Int}(ha:In a m)(h:t.natAbs<=m.natAbs):In (Km a) t:=by
 unfold Km;split;rename_i x y;obtain⟨h1,h2⟩:=oO.1 ha;exact oO.2 (by omega);exact In.non
theorem M1{a b:Rg}{m n:Int}(ha:In a m)(hb:In b n):In (MS a b) (m.tdiv n):=by
 have M3:(m.tdiv n).natAbs<=m.natAbs:=by
   rw[Int.natAbs_tdiv];exact Nat.div_le_self _ _
 unfold MS;split;rename_i x y z _;split;rename_i hz;obtain⟨h1,h2⟩:=oO.1 ha;have h3:=hb.1 z rfl;have hn:0<n:=by omega
 have hs:n.sign=1:=Int.sign_eq_one_of_pos hn;refine oO.2 ⟨?_,?_⟩;split;rename_i hx;exact Int.tdiv_nonneg (by omega) (by omega);rcases Int.le_total 0 m with h|h;have e1:=Int.tdiv_nonneg h (show 0<=n by omega);have e2:=vy (show 0<=-x by omega) (show 0<=z by omega);omega;have e1:m.tdiv n = -((-m).tdiv n):=by rw[Int.neg_tdiv];omega
 have e2:(-m).tdiv n=(-m)/n:=D8 (by omega);have e3:(-m)/n<=(-x)/z:=by
   have a1:(-m)/n<=(-m)/z:=by
     refine Int.le_ediv_of_mul_le (by omega) ?_;have:=Int.ediv_mul_le (-m) (show n≠0 by omega);have q0:=vy (show 0<=-m by omega) (show 0<=n by omega);have:=nG h3 q0;omega
   have a2:=Int.ediv_le_ediv (show 0<z by omega) (show -m<=-x by omega);omega
 omega;split;rename_i hy;have e1:m.tdiv n = -((-m).tdiv n):=by rw[Int.neg_tdiv];omega
 have:=Int.tdiv_nonneg (show 0<=-m by omega) (show 0<=n by omega);omega;rcases Int.le_total 0 m with h|h;have e2:m.tdiv n=m/n:=D8 h;have a1:m/n<=m/z:=by
   refine Int.le_ediv_of_mul_le (by omega) ?_;have:=Int.ediv_mul_le m (show n≠0 by omega);have q0:=vy h (show 0<=n by omega);have:=nG h3 q0;omega
 have a2:=Int.ediv_le_ediv (show 0<z by omega) h2;omega;have e1:m.tdiv n = -((-m).tdiv n):=by rw[Int.neg_tdiv];omega
 have:=Int.tdiv_nonneg (show 0<=-m by omega) (show 0<=n by omega);have:=vy (show 0<=y by omega) (show 0<=z by omega);omega;exact xG ha M3;exact xG ha M3
theorem M4{a b:Rg}{m n:Int}(ha:In a m)(hb:In b n):In (MT a b) (m.tmod n):=by
 have M3:(m.tmod n).natAbs<=m.natAbs:=by
   rw[Int.natAbs_tmod];exact Nat.mod_le _ _
 unfold MT;split;rename_i x y z w;split;rename_i hz;obtain⟨h1,h2⟩:=oO.1 ha;obtain⟨h3,h4⟩:=oO.1 hb;have cF:(m.tmod n).natAbs<n.natAbs:=by rw[Int.natAbs_tmod];exact Nat.mod_lt _ (by omega)
 have hp:0<=m->0<=m.tmod n:=fun h=>Int.tmod_nonneg n h;have hq:m<=0->m.tmod n<=0:=fun h=>by
   have:=Int.tmod_nonneg n (show 0<=-m by omega);rw[Int.neg_tmod]at this;omega
 refine oO.2 ⟨?_,?_⟩;split;exact hp (by omega);rcases Int.le_total 0 m with h|h;have:=hp h;omega;have:=hq h;omega;split;exact hq (by omega);rcases Int.le_total 0 m with h|h;have:=hp h;omega;have:=hq h;omega;exact xG ha M3;exact xG ha M3
theorem y9{a b:Nat}(h:a<=b):(2:Int) ^ a<=2 ^ b:=by
 have:=Nat.pow_le_pow_right (show 0<2 by omega) h;have e:∀n:Nat,(2:Int) ^ n=((2 ^ n:Nat):Int):=fun n=>by push_cast;rfl
 rw[e,e];exact_mod_cast this
theorem rA(a:Nat):(0:Int)<2 ^ a:=Int.pow_pos (by omega)
theorem Si{a b:Rg}{m n:Int}(ha:In a m)(hb:In b n):In (We a b) (m*2 ^ n.toNat):=by
 unfold We;split;rename_i z w;split;rename_i h;obtain⟨h3,h4⟩:=oO.1 hb;exact H8 ha (oO.2 ⟨y9 (by omega),y9 (by omega)⟩);exact In.non;exact In.non
theorem div_pow{m:Int}{a b:Nat}(h:a<=b):(0<=m->m/2 ^ b<=m/2 ^ a)/\(m<=0->m/2 ^ a<=m/2 ^ b):=by
 have pa:=rA a;have pb:=rA b;have pm:=y9 h;constructor;intro h0;refine Int.le_ediv_of_mul_le pa ?_;have q0:=vy h0 (Int.le_of_lt pb);have:=nG pm q0;have:=Int.ediv_mul_le m (show(2:Int) ^ b≠0 by omega);omega;intro h0;refine Int.le_ediv_of_mul_le pb ?_;have q0:m/2 ^ a<=0:=Int.ediv_nonpos_of_nonpos_of_neg h0 pa;have e1:=qR (show 0<=-(m/2 ^ a)by omega) (show 0<=(2:Int) ^ b-2 ^ a by omega);have:=Int.ediv_mul_le m (show(2:Int) ^ a≠0 by omega);have e2: -(m/2 ^ a)*((2:Int) ^ b-2 ^ a)=m/2 ^ a*2 ^ a-m/2 ^ a*2 ^ b:=by grind
 omega
theorem H9{m:Int}{k:Nat}{x y:Int}(h1:x<=m)(h2:m<=y):min x 0<=m/2 ^ k/\m/2 ^ k<=max y 0:=by
 have a:=div_pow (m:=m) (show 0<=k by omega);simp only[Int.pow_zero,Int.ediv_one]at a;have pk:=rA k;rcases Int.le_total 0 m with h|h;have:=a.1 h;have:=vy h (Int.le_of_lt pk);omega
 have:=a.2 h;have:=Int.ediv_nonpos_of_nonpos_of_neg h pk;omega
theorem Sj{a b:Rg}{m n:Int}(ha:In a m)(hb:In b n):In (Wf a b) (m/2 ^ n.toNat):=by
 unfold Wf;split;rename_i x y z w;obtain⟨h1,h2⟩:=oO.1 ha;split;rename_i h;obtain⟨h3,h4⟩:=oO.1 hb;have c1:=div_pow (m:=x) (show z.toNat<=n.toNat by omega);have c2:=div_pow (m:=x) (show n.toNat<=w.toNat by omega);have c3:=div_pow (m:=y) (show z.toNat<=n.toNat by omega);have c4:=div_pow (m:=y) (show n.toNat<=w.toNat by omega);have d1:=Int.ediv_le_ediv (rA n.toNat) h1;have d2:=Int.ediv_le_ediv (rA n.toNat) h2;refine oO.2 ⟨?_,?_⟩;rcases Int.le_total 0 x with h|h;have:=c2.1 h;omega;have:=c1.2 h;omega;rcases Int.le_total 0 y with h|h;have:=c3.1 h;omega;have:=c4.2 h;omega;exact oO.2 (H9 h1 h2);rename_i x y _ _ _;obtain⟨h1,h2⟩:=oO.1 ha;exact oO.2 (H9 h1 h2);exact In.non
theorem cA{k:IntKind}{n:Int}:k.min<=k.wrap n/\k.wrap n<=k.max:=Go.wrap_within k n
theorem CW{k:IntKind}{n:Int}(h:k.min<=n/\n<=k.max):k.wrap n=n:=by
 obtain⟨h1,h2⟩:=h;cases k<;>simp[IntKind.wrap,IntKind.min,IntKind.max,IntKind.signed,IntKind.bits]at * <;>omega
theorem M5{a:Rg}{k:IntKind}{m:Int}(ha:In a m):In (MU k a) (k.wrap m):=by
 unfold MU;split;rename_i x y;obtain⟨h1,h2⟩:=oO.1 ha;split;rename_i h;rw[CW (by omega)];exact oO.2 ⟨h1,h2⟩;exact oO.2 cA;exact oO.2 cA
theorem EJ{a b:Rg}{m:Int}(h:In a m\/In b m):In (Uq a b) m:=by
 constructor;intro z e;obtain⟨x,y,h1,h2,rfl⟩:=jJ e;rcases h with h|h;have:=h.1 x h1;show min x y<=_;omega;have:=h.1 y h2;show min x y<=_;omega;intro z e;obtain⟨x,y,h1,h2,rfl⟩:=jJ e;rcases h with h|h;have:=h.2 x h1;show _<=max x y;omega;have:=h.2 y h2;show _<=max x y;omega
theorem H'{a b:Rg}{m n:Int}(ha:In a m)(hb:In b n):In (Sh a b) (min m n):=by
 obtain⟨a1,a2⟩:=a;obtain⟨b1,b2⟩:=b;constructor;intro z e;obtain⟨x,y,h1,h2,rfl⟩:=jJ e;have:=ha.1 x h1;have:=hb.1 y h2;show min x y<=_;omega
 intro z e;simp only[Sh]at e;split at e;cases e;have:=ha.2 _ rfl;have:=hb.2 _ rfl;omega
 cases e;have:=ha.2 _ rfl;omega
 have:=hb.2 _ e;omega
theorem CX{a b:Rg}{m n:Int}(ha:In a m)(hb:In b n):In (MV a b) (max m n):=by
 obtain⟨a1,a2⟩:=a;obtain⟨b1,b2⟩:=b;constructor;intro z e;simp only[MV]at e;split at e;cases e;have:=ha.1 _ rfl;have:=hb.1 _ rfl;omega
 cases e;have:=ha.1 _ rfl;omega
 have:=hb.1 _ e;omega;intro z e;obtain⟨x,y,h1,h2,rfl⟩:=jJ e;have:=ha.2 x h1;have:=hb.2 y h2;show _<=max x y;omega
def nN(U:aA):List (Int×IE)->Int
 | []=>0
 |(c,e)::r=>c*e.ae U+nN U r
def Lf.ae(U:aA)(l:Lf):Int:=nN U l.1+l.2
structure Sk.ok(s:Sk)(U:aA):Prop where
 g:∀p∈s.g,p.2.has (U p.1)
 q:∀l∈s.q,0<=Lf.ae U l
 f:∀p∈s.f,p.ae U=true
theorem M6{k:Nat}{a:A}:∀ {g:List (Nat×A)},look k g=some a->(k,a)∈g:=by
 intro g;induction g with
 |nil=>intro h;cases h
 | cons x g ih=>
   intro h;obtain⟨j,y⟩:=x;unfold look at h;split at h;rename_i e;cases h;rw[uJ e];exact aM ..;exact aZ _ (ih h)
variable {s:Sk}{U:aA}
theorem Sk.ok.find(h:s.ok U){k:Nat}{a:A}(e:s.find k=some a):a.has (U k):=h.g _ (M6 e)
theorem Ia{lo hi:Int}{d:DV}(h:(A.i lo hi).has d):∃n,d = .i n/\lo<=n/\n<=hi:=by
 cases d with
 |i n=>exact⟨n,rfl,h⟩
 |b x=>exact h.elim
 |l xs=>exact h.elim
theorem za{a:Int}{b:Option Int}{cs:List (Int×Int)}{d:DV}(h:(A.l a b cs).has d):∃xs,d = .l xs/\a<=(xs.length:Int)/\(∀y,b=some y->(xs.length:Int)<=y)/\∀r∈xs,bZ cs 0 r:=by
 cases d with
 |i n=>exact h.elim
 |b x=>exact h.elim
 |l xs=>exact⟨xs,rfl,h⟩
theorem GB{x y:Int}:∀ {cs:List (Int×Int)} {m j:Nat} {r:List Int},bZ cs m r->cs[j]?=some (x,y)->x<=r.getD (m+j) 0/\r.getD (m+j) 0<=y:=by
 intro cs;induction cs with
 |nil=>intro m j r _ h;simp at h
 | cons c cs ih=>
   intro m j r hr h;cases j with
   |zero=>simp only[jo,af]at h;subst h;exact hr.1
   | succ j=>
     simp only[xO]at h;have:=ih hr.2 h;rwa[show m+1+j=m+(j+1)by omega]at this
theorem gS(h:s.ok U){p:BE}(e:s.gP p=true):p.ae U=true:=by
 simp only[Sk.gP,kI]at e;obtain⟨x,hx,e⟩:=e;rw[<- BE.beq_eq e];exact h.f x hx
theorem Ib{xs:List (List Int)}{cs:List (Int×Int)}{j:Nat}{x y i:Int}(hr:∀r∈xs,bZ cs 0 r)(hc:cs[j]?=some (x,y)):(0<=i/\i<(xs.length:Int)->x<=cellAt xs i j/\cellAt xs i j<=y)/\(min x 0<=cellAt xs i j/\cellAt xs i j<=max y 0):=by
 have key:i.toNat<xs.length->x<=cellAt xs i j/\cellAt xs i j<=y:=by
   intro h;have hm:xs.getD i.toNat []∈xs:=by
     rw[eI,fV h];exact List.getElem_mem h
   have:=GB (hr _ hm) hc;rw[fP]at this;exact this
 refine⟨fun h=>key (by omega),?_⟩;by_cases h:i.toNat<xs.length;have:=key h;omega;have:cellAt xs i j=0:=by
   unfold cellAt;have e:xs.getD i.toNat []=[]:=by rw[eI,tW (Nat.le_of_not_lt h)];rfl
   rw[e];simp
 omega
theorem uK(h:s.ok U):∀e:IE,In (s.iv e) (e.ae U):=by
 intro e;induction e with
 | v k=>
   simp only[Sk.iv,IE.ae];split;rename_i lo hi e;obtain⟨n,hn,h1,h2⟩:=Ia (h.find e);rw[hn];exact oO.2 ⟨h1,h2⟩;exact In.non
 |c n=>exact oO.2 ⟨Int.le_refl _,Int.le_refl _⟩
 |add a b et eP=>exact Wg et eP
 |sub a b et eP=>exact Wh et eP
 | mul a b et eP=>
   simp only[Sk.iv,IE.ae];split;rename_i e;rw[<- IE.beq_eq e];exact Wj et;exact H8 et eP
 |tdiv a b et eP=>exact M1 et eP
 |tmod a b et eP=>exact M4 et eP
 | ediv a n et=>
   simp only[Sk.iv,IE.ae];split;exact In.non;rename_i hn;have mT:n≠0:=fun e=>hn (by rw[e];rfl);have hp:(0:Int)<n:=by omega
   constructor;intro z e;simp only[bl]at e;obtain⟨x,hx,rfl⟩:=e;exact Int.ediv_le_ediv hp (et.1 x hx);intro z e;simp only[bl]at e;obtain⟨x,hx,rfl⟩:=e;exact Int.ediv_le_ediv hp (et.2 x hx)
 | emod a n et=>
   simp only[Sk.iv,IE.ae];split;exact In.non;rename_i hn;have mT:n≠0:=fun e=>hn (by rw[e];rfl);have h1:=FC (a.ae U) (show(n:Int)≠0 by omega);have h2:=D9 (a.ae U) (show(0:Int)<n by omega);split;rename_i x y e;rw[e]at et;obtain⟨i1,i2⟩:=oO.1 et;split;rename_i hc;rw[Int.emod_eq_of_lt (by omega) (by omega)];exact et;exact oO.2 ⟨h1,by omega⟩;exact oO.2 ⟨h1,by omega⟩
 |shl a b et eP=>exact Si et eP
 |shr a b et eP=>exact Sj et eP
 |wrap k a et=>exact M5 et
 |max a b et eP=>exact CX et eP
 |min a b et eP=>exact H' et eP
 |bits op k a b et eP=>exact oO.2 (Go.bits_within op k _ _)
 | len k=>
   simp only[Sk.iv,IE.ae];split;rename_i n0 n1 cs e;obtain⟨xs,hx,h1,h2,_⟩:=za (h.find e);rw[hx];refine⟨fun z e=>?_,fun z e=>h2 z e⟩;cases e;show max n0 0<=(xs.length:Int);omega;refine⟨fun z e=>?_,fun _ e=>(by cases e)⟩;cases e;omega
 | get k i j ih=>
   simp only[Sk.iv,IE.ae];split;rename_i n0 n1 cs e;obtain⟨xs,hx,h1,h2,h3⟩:=za (h.find e);rw[hx];split;rename_i x y hc;have key:=Ib (i:=i.ae U) h3 hc;split;rename_i dy;refine oO.2 (key.1 ?_);simp only[Sk.aaO,ah,fU]at dy;obtain⟨g1,g2⟩:=dy;have z0:0<=i.ae U:=by
     split at g1;rename_i x V2;have:=ih.1 x V2;simp only[aD]at g1;omega;cases g1
   refine⟨z0,?_⟩;rcases g2 with(g2|g2)|g2;split at g2;rename_i y hy;have:=ih.2 y hy;simp only[aD]at g2;omega;cases g2;split at g2;rename_i l m;simp only[ah,aD]at g2;have:=uJ g2.1;subst this;simp only[IE.ae,hx,DV.list];omega;cases g2;simp only[kI]at g2;obtain⟨p,hp,e⟩:=g2;have:=h.f p hp;rw[BE.beq_eq e]at this;simpa[BE.ae,IE.ae,hx,DV.list]using this;exact oO.2 key.2;exact In.non;exact In.non
 | lh i n a b ihi et eP=>
   simp only[Sk.iv,IE.ae];split;exact EJ (.inl et);exact EJ (.inr eP)
end Go.Sx
namespace Go.Sx
section
variable {s:Sk}{U:aA}
theorem M7{c:Int}{e:IE}:∀ {l:List (Int×IE)},nN U (Kn c e l)=c*e.ae U+nN U l:=by
 intro l;induction l with
 |nil=>simp[Kn,nN]
 | cons x r ih=>
   obtain⟨d,x⟩:=x;unfold Kn;split;rename_i h;have:=IE.beq_eq h;subst this;split;rename_i h0;have e1:d = -c:=by omega
   subst e1;simp only[nN];grind;simp only[nN];grind;simp only[nN,ih];omega
theorem M8{c:Int}{b:List (Int×IE)}:∀ {a:List (Int×IE)},nN U (MW c a b)=c*nN U a+nN U b:=by
 intro a;induction a with
 |nil=>simp[MW,nN]
 | cons x r ih=>
   have:MW c (x::r) b=Kn (c*x.1) x.2 (MW c r b):=rfl;rw[this,M7,ih];obtain⟨d,e⟩:=x;simp only[nN];grind
theorem Lf.cZ{c:Int}{a b:Lf}:(Lf.plus c a b).ae U=c*a.ae U+b.ae U:=by
 simp only[Lf.ae,Lf.plus,M8];grind
theorem my{c n:Int}{e:IE}:Lf.ae U ([(c,e)],n)=c*e.ae U+n:=by simp[Lf.ae,nN]
theorem eQ{n:Int}:Lf.ae U ([],n)=n:=by simp[Lf.ae,nN]
theorem CY{e:IE}{n:Int}(h:e.ZR=some n):e.ae U=n:=by
 cases e<;>simp_all[IE.ZR,IE.ae]
theorem iT(h:s.ok U):∀e:IE,(s.sj e).ae U=e.ae U:=by
 intro e;induction e with
 |c n=>exact eQ
 |add a b et eP=>simp only[Sk.sj,Lf.cZ,et,eP,IE.ae];omega
 |sub a b et eP=>simp only[Sk.sj,Lf.cZ,et,eP,IE.ae];omega
 | mul a b et eP=>
   simp only[Sk.sj,IE.ae];split;rename_i hn;rw[Lf.cZ,eP,eQ,CY hn];omega;rename_i hn _;rw[Lf.cZ,et,eQ,CY hn,mc];omega;rw[my];simp[IE.ae]
 | wrap k a et=>
   simp only[Sk.sj,IE.ae];split;rename_i hw;rw[et];have:=uK h a;unfold within at hw;split at hw;rename_i x y e;rw[e]at this;obtain⟨h1,h2⟩:=oO.1 this;simp only[aD]at hw;rw[CW (by omega)];cases hw;rw[my];simp[IE.ae]
 |_=>simp only[Sk.sj];rw[my];simp
theorem M9(h:s.ok U):∀ {l:List (Int×IE)} {x:Int},s.low l=some x->x<=nN U l:=by
 intro l;induction l with
 |nil=>intro x e;cases e;exact Int.le_refl _
 | cons t r ih=>
   intro x e;obtain⟨c,t⟩:=t;simp only[Sk.low]at e;split at e;rename_i a b ha hb;cases e;have h1:=ih ha;have h2:=uK h t;have:c*b<=c*t.ae U:=by
     split at hb;exact nG (h2.1 b hb) (by assumption);exact Int.mul_le_mul_of_nonpos_left (by omega) (h2.2 b hb)
   simp only[nN];omega;cases e
theorem zb(h:s.ok U){l:Lf}(e:s.tC l=true):0<=l.ae U:=by
 unfold Sk.tC at e;split at e;rename_i x hx;have:=M9 h hx;simp only[aD]at e;unfold Lf.ae;omega;cases e
theorem zc(h:s.ok U){l:Lf}:∀ {ts:List (Int×IE)} {o:Nat} {x y:Lf},s.fork l ts=some (o,x,y)->
   (o=1->0<=l.ae U->0<=x.ae U/\0<=y.ae U)/\(0<=x.ae U/\0<=y.ae U->0<=l.ae U)/\(o=0->0<=x.ae U\/0<=y.ae U->0<=l.ae U):=by
 intro ts;induction ts with
 |nil=>intro o x y e;cases e
 | cons t r ih=>
   intro o x y e;obtain⟨c,t⟩:=t;cases t with
   | max a b=>
     simp only[Sk.fork,af,ao]at e;obtain⟨rfl,rfl,rfl⟩:=e;simp only[Lf.cZ,iT h,my,IE.ae];generalize a.ae U=A;generalize b.ae U=B;generalize l.ae U=L;have m1:A<=max A B:=by omega
     have m2:B<=max A B:=by omega
     have m3:max A B=A\/max A B=B:=by omega
     generalize max A B=M at *;simp only[Int.neg_mul,Int.one_mul,Int.add_zero];refine⟨fun hc=>?_,?_,fun hc=>?_⟩
     . have hc:c<0:=by revert hc;split<;>simp_all
       have e1:=Int.mul_le_mul_of_nonpos_left (show c<=0 by omega) m1;have e2:=Int.mul_le_mul_of_nonpos_left (show c<=0 by omega) m2;intro h0;constructor<;>omega
     rintro⟨h1,h2⟩;rcases m3 with rfl|rfl<;>omega
     . have hc:0<=c:=by revert hc;split<;>simp_all
       have e1:=nG m1 hc;have e2:=nG m2 hc;intro h1;rcases h1 with h1|h1<;>omega
   | min a b=>
     simp only[Sk.fork,af,ao]at e;obtain⟨rfl,rfl,rfl⟩:=e;simp only[Lf.cZ,iT h,my,IE.ae];generalize a.ae U=A;generalize b.ae U=B;generalize l.ae U=L;have m1:min A B<=A:=by omega
     have m2:min A B<=B:=by omega
     have m3:min A B=A\/min A B=B:=by omega
     generalize min A B=M at *;simp only[Int.neg_mul,Int.one_mul,Int.add_zero];refine⟨fun hc=>?_,?_,fun hc=>?_⟩
     . have hc:0<c:=by revert hc;split<;>simp_all
       have e1:=nG m1 (show 0<=c by omega);have e2:=nG m2 (show 0<=c by omega);intro h0;constructor<;>omega
     rintro⟨h1,h2⟩;rcases m3 with rfl|rfl<;>omega
     . have hc:c<=0:=by revert hc;split<;>simp_all
       have e1:=Int.mul_le_mul_of_nonpos_left hc m1;have e2:=Int.mul_le_mul_of_nonpos_left hc m2;intro h1;rcases h1 with h1|h1<;>omega
   | lh i n a b=>
     simp only[Sk.fork,af,ao]at e;obtain⟨rfl,rfl,rfl⟩:=e;simp only[Lf.cZ,iT h,my,IE.ae,Int.neg_mul,Int.one_mul,Int.add_zero];refine⟨fun hc=>(by cases hc),?_,fun hc=>(by cases hc)⟩;rintro⟨h1,h2⟩;split at h1<;>split at h2<;>first|omega|contradiction
   |_=>exact ih (by simpa only[Sk.fork]using e)
theorem GC{a b:List (Int×IE)}{m:Int}(h:shares a b=some m):1<=m:=by
 unfold shares at h;obtain⟨x,_,h⟩:=List.exists_of_findSome?_eq_some h;obtain⟨y,_,h⟩:=List.exists_of_findSome?_eq_some h;split at h;simp only[af]at h;subst h;split<;>omega;cases h
theorem rB(h:s.ok U):∀ {d:Nat} {l:Lf},s.by d l=true->0<=l.ae U:=by
 intro d;induction d with
 |zero=>intro l e;exact zb h e
 | succ d ih=>
   intro l e;simp only[Sk.by,fU]at e;rcases e with(e|e)|e;exact zb h e;simp only[kI]at e;obtain⟨f,hf,e⟩:=e;split at e;rename_i m hm;have h1:=ih e;have h2:=h.q f hf;have h3:=GC hm;rw[Lf.cZ]at h1;have:=qR (show 0<=m by omega) h2;rw[Int.neg_mul]at h1;omega;cases e;split at e;rename_i x y hx;simp only[fU]at e;exact(zc h hx).2.2 rfl (e.imp ih ih);rename_i x y _ hx;simp only[ah]at e;exact(zc h hx).2.1 ⟨ih e.1,ih e.2⟩;cases e
theorem gT(h:s.ok U)(a b:IE):(s.diff a b).ae U=b.ae U-a.ae U:=by
 unfold Sk.diff;rw[Lf.cZ,iT h,iT h];omega
theorem ZS(h:s.ok U){d:Nat}{a b:IE}(e:s.by d (s.diff a b)=true):a.ae U<=b.ae U:=by
 have:=rB h e;rw[gT h]at this;omega
theorem Sl(h:s.ok U){d:Nat}{a b:IE}(e:s.by d (Lf.plus 1 (s.diff a b) ([],-1))=true):a.ae U<b.ae U:=by
 have:=rB h e;rw[Lf.cZ,gT h,eQ]at this;omega
theorem Uv(h:s.ok U){d:Nat}(e:s.by d ([],-1)=true):False:=by
 have:=rB h e;rw[eQ]at this;omega
theorem byP(h:s.ok U){d:Nat}{a:IE}(e:s.by d (Lf.plus 1 (s.sj a) ([],-1))=true):0<a.ae U:=by
 have:=rB h e;rw[Lf.cZ,iT h,eQ]at this;omega
theorem byN(h:s.ok U){d:Nat}{a:IE}(e:s.by d (Lf.plus (-1) (s.sj a) ([],-1))=true):a.ae U<0:=by
 have:=rB h e;rw[Lf.cZ,iT h,eQ]at this;omega
theorem by0(h:s.ok U){d:Nat}{a:IE}(e:s.by d (s.sj a)=true):0<=a.ae U:=by
 have:=rB h e;rwa[iT h]at this
theorem ad1(h:s.ok U){d:Nat}{a:IE}(e:s.by d (Lf.plus (-1) (s.sj a) ([],0))=true):a.ae U<=0:=by
 have:=rB h e;rw[Lf.cZ,iT h,eQ]at this;omega
theorem pnv(h:s.ok U){d:Nat}:∀p:BE,(s.pv d p=true->p.ae U=true)/\(s.nv d p=true->p.ae U=false):=by
 intro p;induction p with
 | v k=>
   refine⟨fun e=>gS h (by simpa only[Sk.pv]using e),fun e=>?_⟩;have:=gS h (p:=.not (.v k)) (by simpa only[Sk.nv]using e);simpa[BE.ae]using this
 | c x=>
   constructor;intro e;simp only[Sk.pv,fU]at e;rcases e with e|e;exact e;exact(Uv h e).elim;intro e;simp only[Sk.nv,fU,mG]at e;rcases e with e|e;exact e;exact(Uv h e).elim
 | lt a b=>
   constructor;intro e;simp only[Sk.pv]at e;simpa[BE.ae]using Sl h e;intro e;simp only[Sk.nv]at e;simpa[BE.ae]using ZS h e
 | le a b=>
   constructor;intro e;simp only[Sk.pv]at e;simpa[BE.ae]using ZS h e;intro e;simp only[Sk.nv]at e;simpa[BE.ae]using Sl h e
 | eq a b=>
   constructor;intro e;simp only[Sk.pv,fU,ah]at e;rcases e with(e|e)|e;simp[BE.ae,IE.beq_eq e];have h1:=ZS h e.1;have h2:=ZS h e.2
   simp only[BE.ae,aD];omega;exact gS h e;intro e;simp only[Sk.nv,fU]at e;rcases e with(e|e)|e;have:=Sl h e;simp only[BE.ae,DG];omega;have:=Sl h e;simp only[BE.ae,DG];omega;have:=gS h e;simpa[BE.ae]using this
 | not a ih=>
   constructor;intro e;simp only[Sk.pv]at e;simp[BE.ae,ih.2 e];intro e;simp only[Sk.nv]at e;simp[BE.ae,ih.1 e]
 | and a b et eP=>
   constructor;intro e;simp only[Sk.pv,ah]at e;simp[BE.ae,et.1 e.1,eP.1 e.2];intro e;simp only[Sk.nv,fU]at e;rcases e with(e|e)|e;simp[BE.ae,et.2 e];simp[BE.ae,eP.2 e];have:=gS h e;simpa only[BE.ae,mG]using this
 | or a b et eP=>
   constructor;intro e;simp only[Sk.pv,fU]at e;rcases e with(e|e)|e;simp[BE.ae,et.1 e];simp[BE.ae,eP.1 e];exact gS h e;intro e;simp only[Sk.nv,ah]at e;simp[BE.ae,et.2 e.1,eP.2 e.2]
 | iff a b et eP=>
   constructor;intro e;simp only[Sk.pv,fU,ah]at e;rcases e with((e|e)|e)|e;simp[BE.ae,BE.beq_eq e];simp[BE.ae,et.1 e.1,eP.1 e.2];simp[BE.ae,et.2 e.1,eP.2 e.2];exact gS h e;intro e;simp only[Sk.nv,fU,ah]at e;rcases e with e|e;simp[BE.ae,et.1 e.1,eP.2 e.2];simp[BE.ae,et.2 e.1,eP.1 e.2]
 | qu a=>
   constructor;intro e;simp only[Sk.pv,fU]at e;rcases e with(e|e)|e;have:=byP h e;simp only[BE.ae,aD];omega;have:=byN h e;simp only[BE.ae,aD];omega;exact gS h e;intro e;simp only[Sk.nv,ah]at e;have h1:=by0 h e.1;have h2:=ad1 h e.2
   simp only[BE.ae,DG];omega
theorem ff(h:s.ok U){d:Nat}{p:BE}(e:s.pv d p=true):p.ae U=true:=(pnv h p).1 e
theorem mz(h:s.ok U){d:Nat}{p:BE}(e:s.nv d p=true):p.ae U=false:=(pnv h p).2 e
theorem Na{k:Nat}{a:A}{p:Nat×A}:∀ {g:List (Nat×A)},p∈CS k a g->p∈g\/p=(k,a):=by
 intro g;induction g with
 |nil=>intro h;simp[CS]at h
 | cons x g ih=>
   intro h;obtain⟨j,y⟩:=x;unfold CS at h;split at h;rename_i e;rcases bh.1 h with rfl|h;right;rw[uJ e];left;exact aZ _ h;rcases bh.1 h with rfl|h;left;exact aM ..;rcases ih h with h|h;left;exact aZ _ h;right;exact h
theorem Sk.ok.put(h:s.ok U){k:Nat}{a:A}(ha:a.has (U k)):∀p∈CS k a s.g,p.2.has (U p.1):=by
 intro p hp;rcases Na hp with hp|rfl;exact h.g p hp;exact ha
theorem cdiv_le{m c n:Int}(hc:0<c)(h:m<=c*n):cdiv m c<=n:=by
 unfold cdiv;have: -n<=(-m)/c:=Int.le_ediv_of_mul_le hc (by rw[Int.neg_mul,mc];omega);omega
theorem Ic{m c n:Int}(hc:c<0)(h:m<=c*n):n<=(-m)/(-c):=
 Int.le_ediv_of_mul_le (by omega) (by rw[Int.mul_neg,mc];omega)
theorem Nb(h:s.ok U){l:Lf}(hl:0<=l.ae U){c:Int}{e:IE}:∀p∈s.bound l c e,p.2.has (U p.1):=by
 unfold Sk.bound;split;exact h.g;rename_i nr hn;have h1:=M9 h hn;have h2:Lf.ae U (Lf.plus (-1) l ([(c,e)],0))=(-1)*l.ae U+(c*e.ae U+0):=by rw[Lf.cZ,my]
 have h3:Lf.ae U (Lf.plus (-1) l ([(c,e)],0))=nN U (Lf.plus (-1) l ([(c,e)],0)).1+((-1)*l.2+0):=rfl;have hm:nr+((-1)*l.2+0)<=c*e.ae U:=by omega
 generalize hmm:nr+((-1)*l.2+0)=m at hm;simp only[hmm];split;rename_i k;split;rename_i lo hi hf;obtain⟨n,hn,g1,g2⟩:=Ia (h.find hf);simp only[IE.ae,hn,DV.int]at hm;split;rename_i hc;refine h.put ?_;rw[hn];have:=cdiv_le hc hm;exact⟨by omega,g2⟩;split;rename_i hc;refine h.put ?_;rw[hn];have:=Ic hc hm;exact⟨g1,by omega⟩;exact h.g;exact h.g;rename_i k;split;rename_i n0 n1 cs hf;obtain⟨xs,hx,g1,g2,g3⟩:=za (h.find hf);simp only[IE.ae,hx,DV.list]at hm;split;rename_i hc;refine h.put ?_;rw[hx];have:=cdiv_le hc hm;exact⟨by omega,g2,g3⟩;split;rename_i hc;refine h.put ?_;rw[hx];have:=Ic hc hm;refine⟨g1,fun y e=>?_,g3⟩;split at e;rename_i z;have:=g2 _ rfl;simp only[af]at e;omega;simp only[af]at e;omega;exact h.g;exact h.g;exact h.g
theorem sk(h:s.ok U){l:Lf}(hl:0<=l.ae U):∀ts:List (Int×IE),(ts.foldr (fun t (s:Sk)=>{s with g:=s.bound l t.1 t.2}) s).ok U:=by
 intro ts;induction ts with
 |nil=>exact h
 |cons t ts ih=>exact⟨Nb ih hl,ih.q,ih.f⟩
theorem rC(h:s.ok U){l:Lf}(hl:0<=l.ae U):(s.rl l).ok U:=by
 unfold Sk.rl;split;exact h;have k:=sk h hl l.1;refine⟨k.g,fun x hx=>?_,k.f⟩;rcases bh.1 hx with rfl|hx;exact hl;exact k.q x hx
theorem EK:∀ {n:Nat} {s:Sk} {l:Lf},s.ok U->0<=l.ae U->(s.rm n l).ok U:=by
 intro n;induction n with
 |zero=>intro s l h hl;exact rC h hl
 | succ n ih=>
   intro s l h hl;simp only[Sk.rm];split;rename_i x y hx;obtain⟨h1,h2⟩:=(zc h hx).1 rfl hl;exact ih (ih (rC h hl) h1) h2;exact rC h hl
theorem eE(h:s.ok U){l:Lf}(hl:0<=l.ae U):(s.dX l).ok U:=EK h hl
theorem lL(h:s.ok U){p:BE}(hp:p.ae U=true):(s.fact p).ok U:=by
 unfold Sk.fact;split;exact h;refine⟨h.g,h.q,fun x hx=>?_⟩;rcases bh.1 hx with rfl|hx;exact hp;exact h.f x hx
theorem mZ(h:s.ok U){a b:IE}{st:Int}(hs:a.ae U+st<=b.ae U)(h0:0<=st)(h1:st<=1):(Sk.mw s a b st).ok U:=by
 unfold Sk.mw;split;rename_i x;split;rename_i hc;simp only[ah]at hc;have hx:=uK h x;have hb:=uK h b;have e1:mn<=x.ae U/\x.ae U<=mx:=by
   have:=hc.1;unfold Us at this;split at this;rename_i u v e;rw[e]at hx;obtain⟨g1,g2⟩:=oO.1 hx;simp only[aD]at this;omega;cases this
 have e2:b.ae U<=mx+st:=by
   have:=hc.2;unfold leI at this;split at this;rename_i y e;have:=hb.2 y e;rename_i aaQ;simp only[aD]at aaQ;omega;cases this
 have e3:IntKind.u64.wrap (x.ae U)<=mx:=by simp only[IE.ae]at hs;omega
 have e4:0<=x.ae U/\IntKind.u64.wrap (x.ae U)=x.ae U:=by
   have:IntKind.u64.wrap (x.ae U)=x.ae U%18446744073709551616:=by simp[IntKind.wrap,IntKind.signed,IntKind.bits]
   unfold mn mx at *;omega
 have k1:(s.dX (s.sj x)).ok U:=eE h (by rw[iT h];exact e4.1);refine eE k1 ?_;rw[Lf.cZ,gT h,eQ];simp only[IE.ae]at hs;omega;exact h;exact h
theorem Ie:∀(p:BE) {s:Sk},s.ok U->(p.ae U=true->(s.add p).ok U)/\(p.ae U=false->(s.sub p).ok U):=by
 intro p;induction p with
 |v k=>intro s h;exact⟨fun e=>by simpa only[Sk.add]using lL h e,fun e=>by simpa only[Sk.sub]using lL h (p:=.not (.v k)) (by simpa[BE.ae]using e)⟩
 | c x=>
   intro s h;cases x;exact⟨fun e=>(by cases e),fun _=>(by simpa only[Sk.sub]using h)⟩;exact⟨fun _=>(by simpa only[Sk.add]using h),fun e=>(by cases e)⟩
 | lt a b=>
   intro s h;constructor;intro e;have e':a.ae U<b.ae U:=by simpa[BE.ae]using e
   have k1:(s.dX (Lf.plus 1 (s.diff a b) ([],-1))).ok U:=eE h (by rw[Lf.cZ,gT h,eQ];omega);have k2:=mZ k1 (a:=a) (b:=b) (st:=1) (by omega) (by omega) (by omega);simp only[Sk.add];split;exact lL k2 e;exact k2;intro e;have e':b.ae U<=a.ae U:=by simpa[BE.ae]using e
   have k1:(s.dX (s.diff b a)).ok U:=eE h (by rw[gT h];omega);simpa only[Sk.sub]using mZ k1 (a:=b) (b:=a) (st:=0) (by omega) (by omega) (by omega)
 | le a b=>
   intro s h;constructor;intro e;have e':a.ae U<=b.ae U:=by simpa[BE.ae]using e
   have k1:(s.dX (s.diff a b)).ok U:=eE h (by rw[gT h];omega);simpa only[Sk.add]using mZ k1 (a:=a) (b:=b) (st:=0) (by omega) (by omega) (by omega);intro e;have e':b.ae U<a.ae U:=by simpa[BE.ae]using e
   have k1:(s.dX (Lf.plus 1 (s.diff b a) ([],-1))).ok U:=eE h (by rw[Lf.cZ,gT h,eQ];omega);simpa only[Sk.sub]using mZ k1 (a:=b) (b:=a) (st:=1) (by omega) (by omega) (by omega)
 | eq a b=>
   intro s h;constructor;intro e;have e':a.ae U=b.ae U:=by simpa[BE.ae]using e
   have k1:(s.dX (s.diff a b)).ok U:=eE h (by rw[gT h];omega);simp only[Sk.add];exact eE k1 (by rw[gT h];omega);intro e;have e':a.ae U≠b.ae U:=by simpa[BE.ae]using e
   simp only[Sk.sub];split;rename_i hb;have:=ZS h hb;exact eE h (by rw[Lf.cZ,gT h,eQ];omega);split;rename_i hb;have:=ZS h hb;exact eE h (by rw[Lf.cZ,gT h,eQ];omega);exact lL h (by simpa[BE.ae]using e)
 | not a ih=>
   intro s h;constructor;intro e;simp only[Sk.add];exact(ih h).2 (by simpa[BE.ae]using e);intro e;simp only[Sk.sub];exact(ih h).1 (by simpa[BE.ae]using e)
 | and a b et eP=>
   intro s h;constructor;intro e;simp only[BE.ae,ah]at e;simp only[Sk.add];exact(eP ((et h).1 e.1)).1 e.2;intro e;simp only[Sk.sub];have e':=e;simp only[BE.ae]at e;split;rename_i hp;rw[ff h hp,Bool.true_and]at e;exact(eP h).2 e;split;rename_i hp;rw[ff h hp,Bool.and_true]at e;exact(et h).2 e;exact lL h (by simp only[BE.ae,e,Bool.not_false])
 | or a b et eP=>
   intro s h;constructor;intro e;simp only[Sk.add];have e':=e;simp only[BE.ae]at e;split;rename_i hp;rw[mz h hp,Bool.false_or]at e;exact(eP h).1 e;split;rename_i hp;rw[mz h hp,Bool.or_false]at e;exact(et h).1 e;exact lL h e';intro e;simp only[BE.ae,Ae]at e;simp only[Sk.sub];exact(eP ((et h).2 e.1)).2 e.2
 | iff a b et eP=>
   intro s h;constructor;intro e;simp only[Sk.add];have e':=e;simp only[BE.ae,beq_iff_eq]at e;split;rename_i hp;exact(eP h).1 (by rw[<- e];exact ff h hp);split;rename_i hp;exact(et h).1 (by rw[e];exact ff h hp);split;rename_i hp;exact(eP h).2 (by rw[<- e];exact mz h hp);split;rename_i hp;exact(et h).2 (by rw[e];exact mz h hp);exact lL h e';intro e;simp only[Sk.sub];have e':=e;simp only[BE.ae]at e;split;rename_i hp;have:=ff h hp;exact(eP h).2 (by rw[this]at e;revert e;cases b.ae U<;>simp);split;rename_i hp;have:=ff h hp;exact(et h).2 (by rw[this]at e;revert e;cases a.ae U<;>simp);split;rename_i hp;have:=mz h hp;exact(eP h).1 (by rw[this]at e;revert e;cases b.ae U<;>simp);split;rename_i hp;have:=mz h hp;exact(et h).1 (by rw[this]at e;revert e;cases a.ae U<;>simp);exact lL h (by simp only[BE.ae,e,Bool.not_false])
 | qu a=>
   intro s h;constructor;intro e;simp only[Sk.add];exact lL h e;intro e;have e':a.ae U=0:=by simpa[BE.ae]using e
   simp only[Sk.sub];have k1:(s.dX (s.sj a)).ok U:=eE h (by rw[iT h];omega);exact eE k1 (by rw[Lf.cZ,iT h,eQ];omega)
theorem zd(h:s.ok U){p:BE}(e:p.ae U=true):(s.add p).ok U:=(Ie p h).1 e
theorem vO(h:s.ok U){p:BE}(e:p.ae U=false):(s.sub p).ok U:=(Ie p h).2 e
theorem Kq:∀ {l:List BE} {s:Sk},s.ok U->(∀p∈l,p.ae U=true)->(s.rn l).ok U:=by
 intro l;induction l with
 |nil=>intro s h _;exact h
 | cons p l ih=>
   intro s h hl;have hp:=hl p (aM ..);have hr:∀q∈l,q.ae U=true:=fun q hq=>hl q (aZ _ hq);unfold Sk.rn;split;cases ‹_=_›;rename_i heq;injection heq with h1 h2;subst h1;subst h2;refine ih ?_ hr;simp only[BE.ae]at hp;split;rename_i hn;rw[mz h hn,Bool.false_or]at hp;exact zd h hp;split;rename_i hn;rw[mz h hn,Bool.or_false]at hp;exact zd h hp;exact h;rename_i heq;injection heq with h1 h2;subst h1;subst h2;refine ih ?_ hr;simp only[BE.ae,mG]at hp;split;rename_i hn;rw[ff h hn,Bool.true_and]at hp;exact vO h hp;split;rename_i hn;rw[ff h hn,Bool.and_true]at hp;exact vO h hp;exact h;rename_i heq;injection heq with h1 h2;subst h1;subst h2;refine ih ?_ hr;simp only[BE.ae,beq_iff_eq]at hp;split;rename_i hn;exact zd h (by rw[<- hp];exact ff h hn);split;rename_i hn;exact vO h (by rw[<- hp];exact mz h hn);split;rename_i hn;exact zd h (by rw[hp];exact ff h hn);split;rename_i hn;exact vO h (by rw[hp];exact mz h hn);exact h;rename_i heq;injection heq with h1 h2;subst h1;subst h2;exact ih (vO h (by simpa[BE.ae]using hp)) hr;rename_i heq;injection heq with h1 h2;subst h2;exact ih h hr
theorem Nc:∀ {ls:List Lf} {s:Sk},s.ok U->(∀l∈ls,0<=l.ae U)->(s.again ls).ok U:=by
 intro ls;induction ls with
 |nil=>intro s h _;exact h
 |cons l ls ih=>intro s h hl;exact ih (sk h (hl l (aM ..)) _) fun x hx=>hl x (aZ _ hx)
theorem Sm(h:s.ok U):s.tidy.ok U:=⟨h.g,h.q,fun p hp=>h.f p (iK.mp hp).1⟩
theorem ze(h:s.ok U):s.close.ok U:=by
 have h1:=Kq h h.f;exact Sm (Nc h1 fun l hl=>h1.q l (List.mem_of_mem_take hl))
theorem sm(h:s.ok U){p:BE}(e:p.ae U=true):(s.uH p).ok U:=by
 exact ze (zd h e)
theorem tD(h:s.ok U){p:BE}(e:p.ae U=false):(s.mY p).ok U:=by
 exact ze (vO h e)
theorem Nd(h:s.ok U){d:Nat}(e:s.MZ d=true):False:=by
 simp only[Sk.MZ,kI]at e;obtain⟨f,hf,e⟩:=e;have h1:=rB h e;have h2:=h.q f hf;rw[Lf.cZ,eQ]at h1;omega
theorem GD{d:Nat}:∀(p:BE) {s:Sk},s.ok U->s.pw d p=true->p.ae U=true:=by
 intro p;induction p with
 | and a b et eP=>
   intro s h e;simp only[Sk.pw,ah]at e;simp[BE.ae,et h e.1,eP h e.2]
 | or a b et eP=>
   intro s h e;simp only[Sk.pw,fU]at e;rcases e with e|e;exact ff h e;cases ha:a.ae U with
   |true=>simp[BE.ae,ha]
   |false=>simp[BE.ae,eP (ze (tD h ha)) e]
 | _=>
   intro s h e;simp only[Sk.pw,fU]at e;rcases e with e|e;exact ff h e;exact(Nd h e).elim
def fa(l:List BE×BE):Prop:=∀U:aA,(∀p∈l.1,p.ae U=true)->l.2.ae U=true
theorem Wk(h:s.ok U){dZ:List (List BE×BE)}(hl:∀l∈dZ,fa l){p:BE}(e:s.so dZ p=true):p.ae U=true:=by
 simp only[Sk.so,fU,kI,ah,k7]at e;rcases e with(e|⟨l,hm,h1,h2⟩)|e;exact GD p h e;exact GD p (sm h (hl l hm U fun q hq=>ff h (h1 q hq))) h2;exact GD p h e
theorem mA:∀ {l:List BE} {s:Sk},s.ok U->(∀p∈l,p.ae U=true)->(s.lK l).ok U:=by
 intro l;induction l with
 |nil=>intro s h _;exact h
 |cons p l ih=>intro s h hl;exact ih (sm h (hl p (aM ..))) fun q hq=>hl q (aZ _ hq)
end
section
variable {s:Sk}{U ai:aA}
theorem EL{base n k:Nat}:iq base n k=true↔k<base\/base+n<=k:=by
 simp[iq,Nat.blt_eq,Nat.ble_eq]
theorem Lf.ak{p:Nat->Bool}(h:∀k,p k=true->U k=ai k){l:Lf}(e:l.all p=true):l.ae U=l.ae ai:=by
 obtain⟨ts,n⟩:=l;simp only[Lf.all]at e;have:nN U ts=nN ai ts:=by
   induction ts with
   |nil=>rfl
   | cons t ts ih=>
     obtain⟨c,t⟩:=t;simp only[List.all_cons,ah]at e;simp only[nN,ih e.2,IE.ak h e.1]
 simp only[Lf.ae,this]
theorem Ig(h:s.ok U){p:Nat->Bool}(he:∀k,p k=true->U k=ai k):(s.fC p).ok ai:=by
 refine⟨fun x hx=>?_,fun l hl=>?_,fun q hq=>?_⟩;obtain⟨h1,h2⟩:=iK.1 hx;rw[<- he _ h2];exact h.g x h1;obtain⟨h1,h2⟩:=iK.1 hl;rw[<- Lf.ak he h2];exact h.q l h1;obtain⟨h1,h2⟩:=iK.1 hq;rw[<- BE.ak he h2];exact h.f q h1
theorem rD{base n:Nat}{ds:List DV}(hn:ds.length=n){k:Nat}(h:iq base n k=true):U k=U.ay base ds k:=by
 rcases EL.1 h with h|h;exact(aA.bn h).symm;exact(aA.iS (by omega)).symm
theorem CZ{k j:Nat}{d:DV}(h:iq j 1 k=true):U k=U.set j d k:=by
 have:=EL.1 h;simp only[aA.set];rw[if_neg (by omega)]
theorem nL.len:∀ {as:List A} {ds:List DV},nL as ds->as.length=ds.length:=by
 intro as;induction as with
 | nil=>intro ds h;cases ds with
   |nil=>rfl
   |cons d ds=>exact h.elim
 | cons a as ih=>intro ds h;cases ds with
   |nil=>exact h.elim
   |cons d ds=>simp[ih h.2]
theorem nL.at:∀ {as:List A} {ds:List DV} {i:Nat} {a:A},nL as ds->as[i]?=some a->∃d,ds[i]?=some d/\a.has d:=by
 intro as;induction as with
 |nil=>intro ds i a _ h;simp at h
 | cons x as ih=>
   intro ds i a h hi;cases ds with
   |nil=>exact h.elim
   | cons d ds=>
     cases i with
     |zero=>simp only[jo,af]at hi;subst hi;exact⟨d,rfl,h.1⟩
     |succ i=>simp only[xO]at hi ⊢;exact ih h.2 hi
theorem GF:∀ {as:List A} {base:Nat} {p:Nat×A},p∈nM base as->∃i,p.1=base+i/\as[i]?=some p.2:=by
 intro as;induction as with
 |nil=>intro base p h;simp[nM]at h
 | cons a as ih=>
   intro base p h;rcases bh.1 h with rfl|h;exact⟨0,rfl,rfl⟩;obtain⟨i,h1,h2⟩:=ih h;exact⟨i+1,by omega,by simpa using h2⟩
theorem zf{as:List A}{ds:List DV}{base:Nat}(h:nL as ds):∀p∈nM base as,p.2.has (U.ay base ds p.1):=by
 intro p hp;obtain⟨i,h1,h2⟩:=GF hp;obtain⟨d,h3,h4⟩:=h.at h2;rw[h1,aA.dr h3];exact h4
theorem zh:∀ {cs ds:List (Int×Int)} {j:Nat} {r:List Int},bZ cs j r->bZ (gl cs ds) j r:=by
 intro cs;induction cs with
 |nil=>intro ds j r h;simp[gl,bZ]
 | cons c cs ih=>
   intro ds j r h;cases ds with
   |nil=>simp[gl,bZ]
   | cons d ds=>
     have:=h.1;refine⟨?_,ih h.2⟩;show min c.1 d.1<=_/\_<=max c.2 d.2;omega
theorem zj:∀ {cs ds:List (Int×Int)} {j:Nat} {r:List Int},bZ ds j r->bZ (gl cs ds) j r:=by
 intro cs;induction cs with
 |nil=>intro ds j r h;simp[gl,bZ]
 | cons c cs ih=>
   intro ds j r h;cases ds with
   |nil=>simp[gl,bZ]
   | cons d ds=>
     have:=h.1;refine⟨?_,ih h.2⟩;show min c.1 d.1<=_/\_<=max c.2 d.2;omega
theorem EM:∀ {rs:List Rg} {xs:List Int} {j:Nat} {row:List Int},(∀i r,rs[i]?=some r->In r (row.getD (j+i) 0))->bZ (CU rs) j row:=by
 intro rs;induction rs with
 |nil=>intro xs j row h;simp[CU,bZ]
 | cons r rs ih=>
   intro xs j row h;unfold CU;split;rename_i x y r' e;injection e with e1 e2;subst e1;subst e2;have:=h 0 _ rfl;refine⟨oO.1 this,ih (xs:=[]) fun i r hi=>?_⟩;have:=h (i+1) r (by simpa using hi);rwa[show j+(i+1)=j+1+i by omega]at this;simp[bZ]
theorem zk(h:s.ok U)(x:Sum IE BE):In (s.wX x) (bV U x):=by
 cases x with
 |inl e=>exact uK h e
 |inr b=>simp only[Sk.wX,bV];split<;>exact oO.2 (by omega)
theorem vP(h:s.ok U)(xs:List (Sum IE BE)):bZ (CU (xs.map s.wX)) 0 (xs.map (bV U)):=by
 refine EM (xs:=[]) fun i r hi=>?_;simp only[gJ,bl]at hi;obtain⟨x,hx,rfl⟩:=hi;rw[fP,eI,gJ,hx];exact zk h x
theorem Bv:∀ {cs:List (List (Int×Int))} {c:List (Int×Int)} {r:List Int},c∈cs->bZ c 0 r->bZ (H7 cs) 0 r:=by
 intro cs;induction cs with
 |nil=>intro c r h;cases h
 | cons d cs ih=>
   intro c r hm h;cases cs with
   | nil => rcases bh.1 hm with rfl|hm
            exact h;cases hm
   | cons e cs=>
     rcases bh.1 hm with rfl|hm;exact zh h;exact zj (ih hm h)
theorem Wl(h:s.ok U)(d:DE):(s.de d).has (d.ae U):=by
 cases d with
 | i e=>
   simp only[Sk.de,DE.ae];have:=uK h e;split;rename_i x y he;rw[he]at this;exact oO.1 this;trivial
 |b e=>trivial
 | l k=>
   simp only[Sk.de,DE.ae];split;rename_i a b c e;obtain⟨xs,hx,h1⟩:=za (h.find e);rw[hx];exact h1;exact⟨by omega,fun _ e=>(by cases e),fun _ _=>trivial⟩
 |nil=>exact⟨by simp,fun y e=>(by cases e;simp),fun r hr=>(by cases hr)⟩
 | rows es=>
   refine⟨by simp,fun y e=>(by cases e;simp),fun r hr=>?_⟩;obtain⟨e,he,rfl⟩:=kE.1 hr;refine Bv (kE.2 ⟨e,he,rfl⟩) (EM (xs:=[]) fun i r hi=>?_);cases i with
   |zero=>simp only[jo,af]at hi;subst hi;exact uK h e
   |succ i=>simp at hi
 | kn xs=>
   refine⟨by simp,fun y e=>(by cases e;simp),fun r hr=>?_⟩;rcases lU.1 hr with rfl;exact vP h xs
theorem EN{d:DE}{n:IE}(h:d.MY=some n):∃xs,d.ae U = .l xs/\n.ae U=(xs.length:Int):=by
 cases d<;>simp[DE.MY]at h<;>subst h;exact⟨_,rfl,rfl⟩;exact⟨_,rfl,rfl⟩;exact⟨_,rfl,by simp[IE.ae]⟩;exact⟨_,rfl,by simp[IE.ae]⟩
theorem GG:∀ {cs ds:List (Int×Int)} {j:Nat} {r:List Int},y8 cs ds=true->bZ cs j r->bZ ds j r:=by
 intro cs;induction cs with
 | nil=>intro ds j r h _;cases ds with
   |nil=>trivial
   |cons d ds=>simp[y8]at h
 | cons c cs ih=>
   intro ds j r h hr;cases ds with
   |nil=>trivial
   | cons d ds=>
     simp only[y8,ah,aD]at h;have:=hr.1;exact⟨by omega,ih h.2.2 hr.2⟩
theorem zl(h:s.ok U){d:DE}{a:A}(e:s.fits d a=true):a.has (d.ae U):=by
 cases a with
 |t=>cases d<;>trivial
 | i lo hi=>
   cases d with
   | i x=>
     simp only[Sk.fits,ah]at e;exact⟨qt (ff h e.1),qt (ff h e.2)⟩
   |_=>simp[Sk.fits]at e
 | b=>cases d with
   |b x=>trivial
   |_=>simp[Sk.fits]at e
 | l n0 n1 cs=>
   simp only[Sk.fits]at e;split at e;rename_i n a b c hn hd;obtain⟨xs,hx,hl⟩:=EN (U:=U) hn;have hde:=Wl h d;rw[hd,hx]at hde;obtain⟨g1,g2,g3⟩:=hde;simp only[ah,fU,aD]at e;rw[hx];refine⟨?_,fun y hy=>?_,fun r hr=>?_⟩;rcases e.1.1 with e|e;omega;have:n0<=n.ae U:=qt (ff h e);omega;have:=e.1.2;subst hy;have:n.ae U<=y:=qt (ff h this);omega;rcases e.2 with e|e;exact GG e (g3 r hr);cases b with
   |none=>cases e
   | some z=>
     have:=g2 z rfl;have e:=qt e;have:xs.length=0:=by omega
     rw[List.length_eq_zero_iff]at this;subst this;cases hr
   cases e
theorem na{r:List Int}{j:Nat}{x:Int}(k:Nat):(l7 r j x).getD k 0=if k=j then x else r.getD k 0:=by
 unfold l7;split;rename_i h;simp only[eI,List.getElem?_set];split;rename_i e;subst e;simp[h];rename_i e;rw[if_neg (fun e'=>e e'.symm)];rename_i h;simp only[eI];by_cases h1:k<r.length;rw[nT h1,if_neg (by omega)];rw[qv (by omega)];rw[tW (l:=r) (by omega)];by_cases h2:k=j;rw[if_pos h2,qv (by simp;omega)];simp only[List.length_replicate];rw[show k-r.length-(j-r.length)=0 by omega];rfl;rw[if_neg h2];by_cases h3:k<j;rw[nT (by simp;omega),DS,if_pos (by omega)];rfl;rw[tW (by simp;omega)]
theorem EO:∀ {cs:List (Int×Int)} {j m:Nat} {x:Rg} {r r':List Int},bZ cs m r->In x (r'.getD (m+j) 0)->(∀k,k≠m+j->r'.getD k 0=r.getD k 0)->bZ (CV cs j x) m r':=by
 intro cs;induction cs with
 |nil=>intro j m x r r' _ _ _;cases j<;>simp[CV,bZ]
 | cons c cs ih=>
   intro j m x r r' h hx hr;cases j with
   | zero=>
     simp only[CV];split;rename_i a b;obtain⟨g1,g2⟩:=oO.1 hx;rw[gA]at g1 g2;refine⟨⟨by show min c.1 a<=_;omega,by show _<=max c.2 b;omega⟩,?_⟩;have:∀ {cs:List (Int×Int)} {n:Nat},m<n->bZ cs n r->bZ cs n r':=by
       intro cs;induction cs with
       |nil=>intro n _ _;trivial
       | cons d ds ihd=>
         intro n hn h;refine⟨?_,ihd (by omega) h.2⟩;rw[hr n (by omega)];exact h.1
     exact this (by omega) h.2;trivial
   | succ j=>
     refine⟨?_,ih h.2 ?_ fun k hk=>hr k (by omega)⟩;rw[hr m (by omega)];exact h.1;rwa[show m+1+j=m+(j+1)by omega]
theorem Kr:∀ {xs:List Rg} {vs:List Int} {cs:List (Int×Int)} {j:Nat} {r:List Int},bZ cs 0 r->(xs.length=vs.length/\∀(i:Nat) (x:Rg) (v:Int),xs[i]?=some x->vs[i]?=some v->In x v)->bZ (EI cs j xs) 0 (gE r j vs):=by
 intro xs;induction xs with
 | nil=>intro vs cs j r h hx;cases vs with
   |nil=>exact h
   |cons v vs=>simp at hx
 | cons x xs ih=>
   intro vs cs j r h hx;cases vs with
   |nil=>simp at hx
   | cons v vs=>
     simp only[EI,gE];refine ih (EO h ?_ fun k hk=>?_) ⟨by simpa using hx.1,fun i x v h1 h2=>hx.2 (i+1) x v (by simpa using h1) (by simpa using h2)⟩;rw[na,if_pos (by omega)];exact hx.2 0 x v rfl rfl;rw[na,if_neg (by omega)]
theorem tE{xs:List (List Int)}{cs ds:List (Int×Int)}{i:Nat}{f:List Int->List Int}(h:∀r∈xs,bZ cs 0 r)(hw:∀r,bZ cs 0 r->bZ ds 0 r)(hf:∀r∈xs,bZ ds 0 (f r)):∀r∈xs.modify i f,bZ ds 0 r:=by
 intro r hr;obtain⟨n,hn,rfl⟩:=List.getElem_of_mem hr;rw[List.getElem_modify];rw[List.length_modify]at hn;split;exact hf _ (List.getElem_mem hn);exact hw _ (h _ (List.getElem_mem hn))
theorem ft(h:s.ok U)(k:Nat):(s.iF k).1<=((U k).list.length:Int)/\(∀y,(s.iF k).2.1=some y->((U k).list.length:Int)<=y)/\∀r∈(U k).list,bZ (s.iF k).2.2 0 r:=by
 unfold Sk.iF;split;rename_i a b c e;obtain⟨xs,hx,h1⟩:=za (h.find e);rw[hx];exact h1;exact⟨by simp,fun _ e=>(by cases e),fun _ _=>trivial⟩
theorem Bw{cs:List (Int×Int)}{j m:Nat}{x:Rg}{r:List Int}(h:bZ cs m r):bZ (CV cs j x) m r:=by
 induction cs generalizing j m with
 |nil=>cases j<;>simp[CV,bZ]
 | cons c cs ih=>
   cases j with
   | zero=>
     simp only[CV];split;rename_i a b;have:=h.1;exact⟨⟨by show min c.1 a<=_;omega,by show _<=max c.2 b;omega⟩,h.2⟩;trivial
   |succ j=>exact⟨h.1,ih h.2⟩
theorem GH:∀ {xs:List Rg} {cs:List (Int×Int)} {j:Nat} {r:List Int},bZ cs 0 r->bZ (EI cs j xs) 0 r:=by
 intro xs;induction xs with
 |nil=>intro cs j r h;exact h
 |cons x xs ih=>intro cs j r h;exact ih (Bw h)
theorem pO{x:Int×Option Int×List (Int×Int)}{n:List (List Int)}(e:vM x=true)(h:∀y,x.2.1=some y->(n.length:Int)<=y):n=[]:=by
 unfold vM at e;split at e;rename_i y hy;have:=h y hy;simp only[aD]at e;exact List.length_eq_zero_iff.1 (by omega);cases e
theorem Nf:∀ {aH:List NK} {hs rest:List Int} {j:Nat},(mL aH hs rest j).length<=(hs.getD j 0).toNat:=by
 intro aH;induction aH with
 |nil=>intro hs rest j;simp[mL]
 | cons k aH ih=>
   intro hs rest j;cases k with
   | c x=>
     cases j with
     |zero=>simp[mL]
     | succ j=>
       have:=ih (hs:=hs.tail) (rest:=rest) (j:=j);simp only[mL];cases hs with
       |nil=>simpa using this
       |cons h hs=>simpa using this
   | s e x=>
     cases j with
     | zero=>
       simp only[mL];cases hs with
       |nil=>simp
       |cons h hs=>simp;omega
     | succ j=>
       have:=ih (hs:=hs.tail) (rest:=rest.drop (hs.headD 0).toNat) (j:=j);simp only[mL];cases hs with
       |nil=>simpa using this
       |cons h hs=>simpa using this
theorem GI{aH:List NK}{r:List Int}{j:Nat}:(fW aH r j).length<=(r.getD j 0).toNat:=by
 unfold fW;refine jS Nf ?_;simp only[eI,xW];split;exact eZ _;simp
theorem Sn(h:s.ok U){id:Nat}{op:cT}(ho:op.all (iq id 1)=true):(s.L3 id op).1.has (.l (op.ae U))/\∀p∈(s.L3 id op).2,p.ae (U.set id (.l (op.ae U)))=true:=by
 have kF:∀k,iq id 1 k=true->U.set id (.l (op.ae U)) k=U k:=fun k hk=>(CZ hk).symm;have hi:(U.set id (.l (op.ae U)) id) = .l (op.ae U):=by simp[aA.set]
 have key:∀ {n:IE} {m:Int},((op.ae U).length:Int)=m->n.ae (U.set id (.l (op.ae U)))=m->∀p∈[BE.eq (.len id) n],p.ae (U.set id (.l (op.ae U)))=true:=by
   intro n m h1 h2 p hp;rcases lU.1 hp with rfl;simp only[BE.ae,IE.ae,hi,DV.list,aD];omega
 have hlen:∀k,iq id 1 k=true->IE.ae (U.set id (.l (op.ae U))) (.len k)=((U k).list.length:Int):=fun k hk=>by simp only[IE.ae,kF k hk]
 have ien:∀ {e:IE},e.all (iq id 1)=true->e.ae (U.set id (.l (op.ae U)))=e.ae U:=fun {e} he=>IE.ak (fun k hk=>kF k hk) he;cases op with
 | lit rows=>
   refine⟨⟨by simp[cT.ae],fun y e=>(by cases e;simp[cT.ae]),fun r hr=>?_⟩,fun p hp=>?_⟩;obtain⟨x,hx,rfl⟩:=kE.1 hr;exact Bv (kE.2 ⟨x,hx,rfl⟩) (vP h x);simp only[Sk.L3]at hp;split at hp;rename_i r rs;split at hp;simp only[cT.all,List.all_cons,ah]at ho;have hc:∀(l:List (Sum IE BE)) (j:Nat),l.all (lA (iq id 1))=true->(∀i,(r.map (bV U)).getD (j+i) 0=(l.map (bV U)).getD i 0)->∀p∈vN id l j,p.ae (U.set id (.l (cT.ae U (.lit (r::rs)))))=true:=by
     intro l;induction l with
     |nil=>intro j _ _ p hp;cases hp
     | cons x l ih=>
       intro j ha hg p hp;simp only[List.all_cons,ah]at ha;have TY:=ih (j+1) ha.2 fun i=>by
         have:=hg (i+1);rw[show j+1+i=j+(i+1)by omega,this];simp
       cases x with
       |inr b=>exact TY p (by simpa[vN]using hp)
       | inl e=>
         simp only[vN,bh]at hp;rcases hp with rfl|hp;have h0:=hg 0;simp only[gA,jt,List.getD_cons_zero,bV]at h0;refine mM ?_;have e1:IE.ae (U.set id (.l (cT.ae U (.lit (r::rs))))) e=e.ae U:=ien ha.1;rw[e1,<- h0];show cellAt ((U.set id (.l (cT.ae U (.lit (r::rs))))) id).list 0 j=_;rw[hi];rfl;exact TY p hp
   exact hc r 0 ho.1 (fun i=>by rw[fP]) p hp;cases hp;cases hp
 | app a b=>
   simp only[cT.all,ah]at ho;obtain⟨a1,a2,a3⟩:=ft h a;obtain⟨b1,b2,b3⟩:=ft h b;refine⟨⟨by simp only[cT.ae,dG];omega,fun y e=>?_,fun r hr=>?_⟩,?_⟩;obtain⟨u,v,hu,hv,rfl⟩:=jJ e;have:=a2 u hu;have:=b2 v hv
   simp only[cT.ae,dG];show _<=u+v;omega;rcases oQ.1 hr with hr|hr;split;rename_i he;rw[pO he a2]at hr;cases hr;split;exact a3 r hr;exact zh (a3 r hr);split;exact b3 r hr;split;rename_i he;rw[pO he b2]at hr;cases hr;exact zj (b3 r hr);intro p hp;rcases bh.1 hp with rfl|hp;refine key (m:=((U a).list.length:Int)+((U b).list.length:Int)) (by simp[cT.ae]) ?_ _ (lU.2 rfl);have e1:=hlen a ho.1;have e2:=hlen b ho.2;simp only[IE.ae]at e1 e2 ⊢;rw[e1,e2];split at hp;rename_i hc;obtain⟨j,_,rfl⟩:=kE.1 hp;refine mM ?_;show cellAt ((U.set id (.l (cT.ae U (.app a b)))) id).list 0 j=cellAt ((U.set id (.l (cT.ae U (.app a b)))) a).list 0 j;rw[hi,kF a ho.1];show cellAt ((U a).list++(U b).list) 0 j=_;unfold cellAt;have hl:0<(U a).list.length:=by omega
   have e3:((U a).list++(U b).list).getD (0:Int).toNat []=(U a).list.getD (0:Int).toNat []:=by
     rw[eI,eI,nT (by simpa using hl)]
   rw[e3];cases hp
 | set a i j x=>
   simp only[cT.all,ah]at ho;obtain⟨a1,a2,a3⟩:=ft h a;have hl:(cT.ae U (.set a i j x)).length=(U a).list.length:=by simp[cT.ae,setAt]
   refine⟨⟨by rw[hl];exact a1,fun y e=>(by rw[hl];exact a2 y e),?_⟩,key (m:=((U a).list.length:Int)) (by rw[hl]) (hlen a ho.1)⟩;refine tE a3 (fun r hr=>Bw hr) fun r hr=>EO (a3 r hr) ?_ fun k hk=>?_;rw[na,if_pos (by omega)];exact zk h x;rw[na,if_neg (by omega)]
 | Aj a i xs=>
   simp only[cT.all,ah]at ho;obtain⟨a1,a2,a3⟩:=ft h a;have hl:(cT.ae U (.Aj a i xs)).length=(U a).list.length:=by simp[cT.ae]
   refine⟨⟨by rw[hl];exact a1,fun y e=>(by rw[hl];exact a2 y e),?_⟩,key (m:=((U a).list.length:Int)) (by rw[hl]) (hlen a ho.1)⟩;exact tE a3 (fun r hr=>zh hr) fun r hr=>zj (vP h xs)
 | Al a i j xs=>
   simp only[cT.all,ah]at ho;obtain⟨a1,a2,a3⟩:=ft h a;have hl:(cT.ae U (.Al a i j xs)).length=(U a).list.length:=by simp[cT.ae]
   refine⟨⟨by rw[hl];exact a1,fun y e=>(by rw[hl];exact a2 y e),?_⟩,key (m:=((U a).list.length:Int)) (by rw[hl]) (hlen a ho.1)⟩;refine tE a3 (fun r hr=>GH hr) fun r hr=>Kr (a3 r hr) ⟨by simp,fun k x v h1 h2=>?_⟩;simp only[gJ,bl]at h1 h2;obtain⟨u,hu,rfl⟩:=h1;obtain⟨v,hv,rfl⟩:=h2;rw[hu]at hv;cases hv;exact zk h u
 | take a n=>
   simp only[cT.all,ah]at ho;obtain⟨a1,a2,a3⟩:=ft h a;have hn:=CX (uK h n) (show In (some 0,some 0) 0 from oO.2 (by omega));have hl:((cT.ae U (.take a n)).length:Int)=min ((U a).list.length:Int) (max (n.ae U) 0):=by simp only[cT.ae,sI];omega
   refine⟨⟨Int.natCast_nonneg _,fun y e=>?_,fun r hr=>a3 r (List.mem_of_mem_take hr)⟩,?_⟩;rw[hl];exact(H' (a:=(none,(s.iF a).2.1)) ⟨fun _ e=>(by cases e),a2⟩ hn).2 y e;simp only[Sk.L3];split;rename_i hc;simp only[ah]at hc;have h1:n.ae U<=((U a).list.length:Int):=qt (ff h hc.1);have h2:0<=n.ae U:=qt (ff h hc.2);exact key (m:=n.ae U) (by rw[hl];omega) (ien ho.2);intro p hp;cases hp
 | rep n row=>
   simp only[cT.all]at ho;have hn:=CX (uK h n) (show In (some 0,some 0) 0 from oO.2 (by omega));have hl:((cT.ae U (.rep n row)).length:Int)=max (n.ae U) 0:=by simp only[cT.ae,List.length_replicate];omega
   refine⟨⟨Int.natCast_nonneg _,fun y e=>(by rw[hl];exact hn.2 y e),fun r hr=>?_⟩,?_⟩;have:=List.eq_of_mem_replicate hr;subst this;have gen:∀ {l:List Int} {m:Nat},(∀i,r.getD (m+i) 0=l.getD i 0)->bZ (l.map fun x=>(x,x)) m r:=by
     intro l;induction l with
     |nil=>intro m _;trivial
     | cons x l ih=>
       intro m hm;refine⟨?_,ih fun i=>?_⟩;have:=hm 0;simp only[gA]at this;rw[this];simp;have:=hm (i+1);rw[show m+1+i=m+(i+1)by omega,this];simp
   exact gen fun i=>by rw[fP]
   simp only[Sk.L3];split;rename_i hc;have h1:0<=n.ae U:=qt (ff h hc);exact key (m:=n.ae U) (by rw[hl];omega) (ien ho);intro p hp;cases hp
 | cp a=>
   simp only[cT.all]at ho;obtain⟨a1,a2,a3⟩:=ft h a;exact⟨⟨a1,a2,a3⟩,key (m:=((U a).list.length:Int)) rfl (hlen a ho)⟩
 | sub a i aH j=>
   refine⟨⟨by omega,fun y e=>?_,fun _ _=>trivial⟩,fun p hp=>(by cases hp)⟩;obtain⟨a1,a2,a3⟩:=ft h a;split at e;rename_i c hc;cases e;have:=(Ib (i:=i.ae U) a3 (show(s.iF a).2.2[j]?=some (c.1,c.2)from hc)).2.2;have hl:=GI (aH:=aH) (r:=(U a).list.getD (i.ae U).toNat []) (j:=j);simp only[cT.ae,kT];unfold cellAt at this;omega;cases e
 | LZ a b=>
   simp only[cT.all,ah]at ho;obtain⟨a1,a2,a3⟩:=ft h a;obtain⟨b1,b2,b3⟩:=ft h b;have hl:(cT.ae U (.LZ a b)).length=(U a).list.length:=by simp only[cT.ae,dG,sI,List.length_drop];omega
   refine⟨⟨by rw[hl];exact a1,fun y e=>(by rw[hl];exact a2 y e),fun r hr=>?_⟩,key (m:=((U a).list.length:Int)) (by rw[hl]) (hlen a ho.1)⟩;rcases oQ.1 hr with hr|hr;have cq:=List.mem_of_mem_take hr;split;exact b3 r cq;split;rename_i he;rw[pO he b2]at cq;cases cq;exact zj (b3 r cq);have cq:=List.mem_of_mem_drop hr;split;rename_i he;rw[pO he a2]at cq;cases cq;split;exact a3 r cq;exact zh (a3 r cq)
 |yc rows=>exact⟨⟨by simp[cT.ae],fun y e=>(by cases e;simp[cT.ae]),fun _ _=>trivial⟩,fun p hp=>(by cases hp)⟩
def Sb.is(U:aA):Sb->DV->Prop
 |.nm k,d=>U k=d
 |.de x,d=>x.ae U=d
 |.no,_=>True
variable {σ:Nat->Sb}{il:aA}
theorem lM{α β γ:Type}{f:α->β->γ}{a:Option α}{b:Option β}{z:γ}(h:p2 f a b=some z):∃x y,a=some x/\b=some y/\z=f x y:=by
 cases a<;>cases b<;>simp_all[p2]
theorem uL{α β:Type}{f:α->β}{a:Option α}{z:β}(h:p1 f a=some z):∃x,a=some x/\z=f x:=by
 cases a<;>simp_all[p1]
theorem aaR{b:Sb}{d:DV}{e:IE}(h:b.is U d)(he:b.int=some e):e.ae U=d.int:=by
 cases b with
 |nm k=>simp only[Sb.int,af]at he;subst he;simp only[IE.ae];rw[show U k=d from h]
 | de x=>
   cases x<;>simp[Sb.int,DE.asI]at he;subst he;rw[<- (show _=d from h)];rfl
 |no=>simp[Sb.int]at he
theorem Wm{b:Sb}{d:DV}{e:BE}(h:b.is U d)(he:b.bool=some e):e.ae U=d.bool:=by
 cases b with
 |nm k=>simp only[Sb.bool,af]at he;subst he;simp only[BE.ae];rw[show U k=d from h]
 | de x=>
   cases x<;>simp[Sb.bool,DE.asB]at he;subst he;rw[<- (show _=d from h)];rfl
 |no=>simp[Sb.bool]at he
theorem aaS{b:Sb}{d:DV}{e:IE}(h:b.is U d)(he:b.len=some e):e.ae U=(d.list.length:Int):=by
 cases b with
 |nm k=>simp only[Sb.len,af]at he;subst he;simp only[IE.ae];rw[show U k=d from h]
 | de x=>
   obtain⟨xs,h1,h2⟩:=EN (U:=U) (show x.MY=some e from he);rw[h2,<- (show _=d from h),h1];rfl
 |no=>simp[Sb.len]at he
theorem Wn{b:Sb}{d:DV}{k:Nat}(h:b.is U d)(he:b.list=some k):(U k).list=d.list:=by
 cases b with
 |nm j=>simp only[Sb.list,af]at he;subst he;rw[show U j=d from h]
 | de x=>
   cases x<;>simp[Sb.list,DE.asL]at he;subst he;rw[<- (show _=d from h)];rfl
 |no=>simp[Sb.list]at he
theorem Wo{b:Sb}{d:DV}{m:Option Int}{j:Nat}{e i:IE}(h:b.is U d)(hm:i.ZR=m)(he:b.cell m j=some e)(hi:i.ae il=i.ae il):e.ae U=cellAt d.list (i.ae il) j:=by
 unfold Sb.cell at he;split at he;cases he;rw[<- (show _=d from h)];simp[DE.ae,DV.list,cellAt,IE.ae];rename_i es m;split at he;rename_i h0;rw[CY hm,<- (show _=d from h)];have e2:(es.map fun e=>[e.ae U]).getD m.toNat []=[e.ae U]:=by
   rw[eI,gJ,he];rfl
 show _=((es.map fun e=>[e.ae U]).getD m.toNat []).getD 0 0;rw[e2];rfl;cases he;rename_i xs;rw[CY hm,<- (show _=d from h)];split at he;rename_i e' hx;cases he;simp only[DE.ae,DV.list,cellAt];show _=(List.map (bV U) xs).getD j 0;rw[eI,gJ,hx];rfl;cases he;cases he
theorem ER(h:∀k,(σ k).is U (il k)):∀ {e e':IE},e.put σ=some e'->e'.ae U=e.ae il:=by
 intro e;induction e with
 |v k=>intro e' he;exact aaR (h k) he
 |c n=>intro e' he;cases he;rfl
 |ediv a n ih=>intro e' he;obtain⟨x,hx,rfl⟩:=uL he;simp only[IE.ae,ih hx]
 |emod a n ih=>intro e' he;obtain⟨x,hx,rfl⟩:=uL he;simp only[IE.ae,ih hx]
 |wrap k a ih=>intro e' he;obtain⟨x,hx,rfl⟩:=uL he;simp only[IE.ae,ih hx]
 |len k=>intro e' he;exact aaS (h k) he
 | get k i j ih=>
   intro e' he;simp only[IE.put]at he;split at he;rename_i x hx;cases he;exact Wo (h k) rfl hx rfl;obtain⟨x,y,hx,hy,rfl⟩:=lM he;simp only[IE.ae,ih hy,Wn (h k) hx]
 | lh i n a b ihi et eP=>
   intro e' he;obtain⟨x,y,hx,hy,rfl⟩:=lM he;obtain⟨u,v,hu,hv,rfl⟩:=lM hy;simp only[IE.ae,ihi hx,et hu,eP hv]
 |bits o k a b et eP=>intro e' he;obtain⟨x,y,hx,hy,rfl⟩:=lM he;simp only[IE.ae,et hx,eP hy]
 |_ a b et eP=>intro e' he;obtain⟨x,y,hx,hy,rfl⟩:=lM he;simp only[IE.ae,et hx,eP hy]
theorem aaT(h:∀k,(σ k).is U (il k)):∀ {e e':BE},e.put σ=some e'->e'.ae U=e.ae il:=by
 intro e;induction e with
 |v k=>intro e' he;exact Wm (h k) he
 |c n=>intro e' he;cases he;rfl
 |not a ih=>intro e' he;obtain⟨x,hx,rfl⟩:=uL he;simp only[BE.ae,ih hx]
 |qu a=>intro e' he;obtain⟨x,hx,rfl⟩:=uL he;simp only[BE.ae,ER h hx]
 |lt a b=>intro e' he;obtain⟨x,y,hx,hy,rfl⟩:=lM he;simp only[BE.ae,ER h hx,ER h hy]
 |le a b=>intro e' he;obtain⟨x,y,hx,hy,rfl⟩:=lM he;simp only[BE.ae,ER h hx,ER h hy]
 |eq a b=>intro e' he;obtain⟨x,y,hx,hy,rfl⟩:=lM he;simp only[BE.ae,ER h hx,ER h hy]
 |_ a b et eP=>intro e' he;obtain⟨x,y,hx,hy,rfl⟩:=lM he;simp only[BE.ae,et hx,eP hy]
theorem pQ(e:IE):(∀k∈e.names,U k=ai k)->e.ae U=e.ae ai:=by
 induction e with
 |v k=>intro h;simp only[IE.ae,h k (by simp[IE.names])]
 |c n=>intro _;rfl
 |len k=>intro h;simp only[IE.ae,h k (by simp[IE.names])]
 |get k i j ih=>intro h;simp only[IE.names,bh,forall_eq_or_imp]at h;simp only[IE.ae,h.1,ih h.2]
 |lh i n a b sD sF Vg=>intro h;simp only[IE.names,oQ]at h;simp only[IE.ae,sD fun k hk=>h k (.inl (.inl hk)),sF fun k hk=>h k (.inl (.inr hk)),Vg fun k hk=>h k (.inr hk)]
 |ediv a n ih=>intro h;simp only[IE.ae,ih h]
 |emod a n ih=>intro h;simp only[IE.ae,ih h]
 |wrap k a ih=>intro h;simp only[IE.ae,ih h]
 |bits o k a b sD sF=>intro h;simp only[IE.names,oQ]at h;simp only[IE.ae,sD fun k hk=>h k (.inl hk),sF fun k hk=>h k (.inr hk)]
 |_ a b sD sF=>intro h;simp only[IE.names,oQ]at h;simp only[IE.ae,sD fun k hk=>h k (.inl hk),sF fun k hk=>h k (.inr hk)]
theorem Wp(e:BE):(∀k∈e.names,U k=ai k)->e.ae U=e.ae ai:=by
 induction e with
 |v k=>intro h;simp only[BE.ae,h k (by simp[BE.names])]
 |c n=>intro _;rfl
 |not a ih=>intro h;simp only[BE.ae,ih h]
 |qu a=>intro h;simp only[BE.ae,pQ a h]
 |lt a b=>intro h;simp only[BE.names,oQ]at h;simp only[BE.ae,pQ a fun k hk=>h k (.inl hk),pQ b fun k hk=>h k (.inr hk)]
 |le a b=>intro h;simp only[BE.names,oQ]at h;simp only[BE.ae,pQ a fun k hk=>h k (.inl hk),pQ b fun k hk=>h k (.inr hk)]
 |eq a b=>intro h;simp only[BE.names,oQ]at h;simp only[BE.ae,pQ a fun k hk=>h k (.inl hk),pQ b fun k hk=>h k (.inr hk)]
 |_ a b sD sF=>intro h;simp only[BE.names,oQ]at h;simp only[BE.ae,sD fun k hk=>h k (.inl hk),sF fun k hk=>h k (.inr hk)]
end
section
variable {s:Sk}{U:aA}
def Cn.fQ(c:Cn)(ds:List DV):Prop:=nL c.args ds/\∀p∈c.pre,p.ae (bB.ay 0 ds)=true
def il(ds rs:List DV):aA:=(bB.ay 0 ds).ay R0 rs
def Cn.iA(c:Cn)(ds rs:List DV):Prop:=nL c.res rs/\∀p∈c.post,p.ae (il ds rs)=true
theorem append_nil{α:Type}{a b:List α}(h:a++b=[]):a=[]/\b=[]:=by
 cases a<;>simp_all
theorem lN(h:s.ok U){dZ:List (List BE×BE)}(hl:∀l∈dZ,fa l){p:BE}(e:s.ask dZ p=[]):p.ae U=true:=by
 unfold Sk.ask at e;split at e;rename_i hs;exact Wk h hl hs;cases e
theorem Ng(h:s.ok U){dZ:List (List BE×BE)}(hl:∀l∈dZ,fa l){d:DE}{a:A}(e:s.GA dZ d a=[]):a.has (d.ae U):=by
 cases a with
 | i lo hi=>
   cases d with
   | i x=>
     simp only[Sk.GA]at e;obtain⟨e1,e2⟩:=append_nil e;exact⟨qt (lN h hl e1),qt (lN h hl e2)⟩
   |_=>simp[Sk.GA]at e
 | b => simp only[Sk.GA]at e;split at e
        rename_i hf;exact zl h hf;cases e
 | t => simp only[Sk.GA]at e;split at e
        rename_i hf;exact zl h hf;cases e
 | l x y z => simp only[Sk.GA]at e;split at e
              rename_i hf;exact zl h hf;cases e
theorem sn(h:s.ok U){dZ:List (List BE×BE)}(hl:∀l∈dZ,fa l):∀ {ds:List DE} {as:List A},s.ru dZ ds as=[]->nL as (ds.map (DE.ae U)):=by
 intro ds;induction ds with
 | nil=>intro as e;cases as with
   |nil=>trivial
   |cons a as=>simp[Sk.ru]at e
 | cons d ds ih=>
   intro as e;cases as with
   |nil=>simp[Sk.ru]at e
   | cons a as=>
     simp only[Sk.ru]at e;obtain⟨e1,e2⟩:=append_nil e;exact⟨Ng h hl e1,ih e2⟩
theorem uM(h:s.ok U){dZ:List (List BE×BE)}(hl:∀l∈dZ,fa l){σ:Nat->Sb}{e2:aA}(ZT:∀k,(σ k).is U (e2 k)){ps:List BE}(e:s.asks dZ σ ps=[]):∀p∈ps,p.ae e2=true:=by
 intro p hp;unfold Sk.asks at e;rw[List.flatMap_eq_nil_iff]at e;have:=e p hp;split at this;rename_i p' yM;rw[<- aaT ZT yM];exact lN h hl this;cases this
theorem So{a c:A}{d:DV}(h:a.has d):(a.y7 c).has d:=by
 cases a with
 | i x y=>cases c with
   |i z w=>obtain⟨n,rfl,g1,g2⟩:=Ia h;exact⟨by omega,by omega⟩
   |_=>cases d<;>trivial
 | b=>cases c with
   |b=>exact h
   |_=>cases d<;>trivial
 |t=>cases c<;>cases d<;>trivial
 | l x y u=>cases c with
   | l z w v=>
     obtain⟨xs,rfl,g1,g2,g3⟩:=za h;refine⟨by omega,fun t e=>?_,fun r hr=>?_⟩;obtain⟨p,q,hp,hq,rfl⟩:=jJ e;have:=g2 p hp;show _<=max p q;omega;split;rename_i hn;cases y with
     |none=>cases hn
     | some y=>
       have:=g2 y rfl;have hn:=qt hn;have:xs=[]:=List.length_eq_zero_iff.1 (by omega);subst this;cases hr
     split;exact g3 r hr;exact zh (g3 r hr)
   |_=>cases d<;>trivial
theorem Sp{a c:A}{d:DV}(h:c.has d):(a.y7 c).has d:=by
 cases a with
 | i x y=>cases c with
   |i z w=>obtain⟨n,rfl,g1,g2⟩:=Ia h;exact⟨by omega,by omega⟩
   |_=>cases d<;>trivial
 | b=>cases c with
   |b=>exact h
   |_=>cases d<;>trivial
 |t=>cases c<;>cases d<;>trivial
 | l x y u=>cases c with
   | l z w v=>
     obtain⟨xs,rfl,g1,g2,g3⟩:=za h;refine⟨by omega,fun t e=>?_,fun r hr=>?_⟩;obtain⟨p,q,hp,hq,rfl⟩:=jJ e;have:=g2 q hq;show _<=max p q;omega;split;exact g3 r hr;split;rename_i hn;cases w with
     |none=>cases hn
     | some w=>
       have:=g2 w rfl;have hn:=qt hn;have:xs=[]:=List.length_eq_zero_iff.1 (by omega);subst this;cases hr
     exact zj (g3 r hr)
   |_=>cases d<;>trivial
theorem Sq:∀ {as:List A} {ds:List DV},nL as ds->nL (as.map fun a=>a.y7 (AQ a)) ds:=by
 intro as;induction as with
 |nil=>intro ds h;exact h
 | cons a as ih=>intro ds h;cases ds with
   |nil=>exact h.elim
   |cons d ds=>exact⟨So h.1,ih h.2⟩
theorem Sr:∀ {cs:List CT} {as:List A},pN cs as=true->nL (as.map fun a=>a.y7 (AQ a)) (defs cs):=by
 intro cs;induction cs with
 | nil=>intro as h;cases as with
   |nil=>trivial
   |cons a as=>simp[pN]at h
 | cons c cs ih=>
   intro as h;cases as with
   |nil=>simp[pN]at h
   | cons a as=>
     simp only[pN,ah]at h;have hr:=ih h.2;have h1:=h.1;have key:∀d:DV,(AQ a).has d->defs (c::cs)=d::defs cs->nL (List.map (fun a=>a.y7 (AQ a)) (a::as)) (defs (c::cs)):=fun d hd e=>by
       rw[e];exact⟨Sp hd,hr⟩
     cases c with
     | c k=>cases k with
       | i k=>cases a with
         |i x y=>exact key (.i 0) ⟨by omega,by omega⟩ rfl
         |t=>exact key (.i 0) trivial rfl
         |_=>simp at h1
       | b=>cases a with
         |b=>exact key (.b false) trivial rfl
         |t=>exact key (.b false) trivial rfl
         |_=>simp at h1
       | f=>cases a with
         |i x y=>exact key (.i 0) ⟨by omega,by omega⟩ rfl
         |t=>exact key (.i 0) trivial rfl
         |_=>simp at h1
     | s e ks=>cases a with
       |l x y z=>exact key (.l []) ⟨by simp,fun y e=>(by cases e;simp),fun r hr=>(by cases hr)⟩ rfl
       |t=>exact key (.l []) trivial rfl
       |_=>simp at h1
     | n e ks=>cases a with
       |l x y z=>exact key (.l []) ⟨by simp,fun y e=>(by cases e;simp),fun r hr=>(by cases hr)⟩ rfl
       |t=>exact key (.l []) trivial rfl
       |_=>simp at h1
def Ss(U:aA)(pr:List Nat)(ls:List Lc)(F:Nat->List DV->Prop):Prop:=
 ∀id l,ls.find? (fun l=>Nat.beq l.id id)=some l->(∀k∈l.iv.names,k∈pr)/\∀vs,nL l.iv.as vs->(∀p∈l.iv.ex,p.ae (U.ay l.base vs)=true)->(l.iv.me.ae (U.ay l.base vs)).toNat<(l.iv.me.ae U).toNat->F id vs
def aaU(er:Int×Int):Nat->List (Int->Prop)->Prop
 |0,_=>True
 |d+1,p::ps=>(∀n,er.1<=n->n<=er.2->p n)/\aaU er d ps
 |_+1,[]=>False
theorem Bx{base:Nat}{vs:List DV}{ai:aA}{k:Nat}(h:U k=ai k):U.ay base vs k=ai.ay base vs k:=by
 by_cases h1:k<base;rw[aA.bn h1,aA.bn h1,h];by_cases h2:base+vs.length<=k;rw[aA.iS h2,aA.iS h2,h];have e:vs[k-base]?=some (vs[k-base]'(by omega)):=fV _;rw[show k=base+(k-base)by omega,aA.dr e,aA.dr e]
theorem Ss.move{ai:aA}{pr:List Nat}{ls:List Lc}{F:Nat->List DV->Prop}(h:Ss U pr ls F)(he:∀k∈pr,U k=ai k):Ss ai pr ls F:=by
 intro id l hl;obtain⟨h1,h2⟩:=h id l hl;refine⟨h1,fun vs hv hx hm=>h2 vs hv (fun p hp=>?_) ?_⟩;rw[Wp p (ai:=ai.ay l.base vs) fun k hk=>Bx (he k (h1 k ?_))];exact hx p hp;exact Ci _ (List.mem_flatMap.2 ⟨p,hp,hk⟩);have e1:l.iv.me.ae (U.ay l.base vs)=l.iv.me.ae (ai.ay l.base vs):=pQ _ fun k hk=>Bx (he k (h1 k (yb _ hk)));have e2:l.iv.me.ae U=l.iv.me.ae ai:=pQ _ fun k hk=>he k (h1 k (yb _ hk));rw[e1,e2];exact hm
theorem oA{pr:List Nat}{base n:Nat}(h:free pr base n=true){ds:List DV}(hn:ds.length=n):∀k∈pr,U k=U.ay base ds k:=by
 intro k hk;exact rD hn (k7.1 h k hk)
theorem sq{pr:List Nat}{base:Nat}(h:free pr base 1=true){d:DV}:∀k∈pr,U k=U.set base d k:=by
 intro k hk;exact CZ (k7.1 h k hk)
theorem Su{base n:Nat}{ds:List DV}(hn:ds.length=n){d:DE}(h:d.off base n=true):d.ae (U.ay base ds)=d.ae U:=by
 have he:∀k,iq base n k=true->U.ay base ds k=U k:=fun k hk=>(rD hn hk).symm;cases d with
 |i e=>simp only[DE.ae,IE.ak he h]
 |b e=>simp only[DE.ae,BE.ak he h]
 |l k=>simp only[DE.ae,he k h]
 |nil=>rfl
 | rows es=>
   simp only[DE.ae];congr 1;exact sO fun e hm=>by rw[IE.ak he (k7.1 h e hm)]
 | kn xs=>
   simp only[DE.ae];congr 2;refine sO fun e hm=>?_;have:=k7.1 h e hm;cases e with
   |inl e=>simp only[bV];exact IE.ak he this
   |inr e=>simp only[bV,BE.ak he (show e.all _=true from this)]
theorem Nh{ds:List DV}{k:Nat}{d:DV}(h:ds[k]?=some d):bB.ay 0 ds k=d:=by
 have:=aA.dr (U:=bB) (k:=0) h;rwa[fP]at this
theorem Ih{ds rs:List DV}{k:Nat}(h:k<R0):il ds rs k=bB.ay 0 ds k:=aA.bn h
theorem Ii{ds rs:List DV}{k:Nat}{d:DV}(h:rs[k]?=some d):il ds rs (R0+k)=d:=aA.dr h
theorem By{args:List DE}{base:Nat}{rs:List DV}{ai:aA}{ds:List DV}(hd:ds=args.map (DE.ae ai))(hsm:args.length<R0)(hr:∀j d,rs[j]?=some d->ai (base+j)=d) :
   ∀k,(ry args rs.length base k).is ai (il ds rs k):=by
 intro k;unfold ry;split;rename_i h1;have h1:k<args.length:=by simpa[Nat.blt_eq]using h1
 split;rename_i d hk;show d.ae ai=_;rw[Ih (by omega)];refine(Nh ?_).symm;rw[hd,gJ,hk];rfl;trivial;split;rename_i h1;simp only[ah,Nat.ble_eq,Nat.blt_eq]at h1;show ai _=_;have e:rs[k-R0]?=some (rs[k-R0]'(by omega)):=fV _;rw[hr _ _ e];have:=Ii (ds:=ds) e;rw[show R0+(k-R0)=k by omega]at this;rw[this];trivial
theorem Ij{base:Nat}{bO:List DE}:∀k,(Ko base bO.length bO k).is U (U.ay base (bO.map (DE.ae U)) k):=by
 intro k;unfold Ko;split;rename_i h;simp only[ah,Nat.ble_eq,Nat.blt_eq]at h;split;rename_i d hd;have e:(bO.map (DE.ae U))[k-base]?=some (d.ae U):=by rw[gJ,hd];rfl
 show d.ae U=_;have:=aA.dr (U:=U) (k:=base) e;rw[show base+(k-base)=k by omega]at this;exact this.symm;trivial;rename_i h;simp only[ah,Nat.ble_eq,Nat.blt_eq]at h;show U k=_;by_cases h1:k<base;exact(aA.bn h1).symm;exact(aA.iS (by simp;omega)).symm
theorem Ni{n:Nat}{bO:List DE}{ds:List DV}(hn:n<=R0)(ha:∀k,k<n->U k=bB.ay 0 ds k):∀k,(M0 n bO k).is U (il ds (bO.map (DE.ae U)) k):=by
 intro k;unfold M0;split;rename_i h;have h:k<n:=by simpa[Nat.blt_eq]using h
 show U k=_;rw[Ih (by omega),ha k h];split;rename_i h;simp only[Nat.ble_eq]at h;split;rename_i d hd;have e:(bO.map (DE.ae U))[k-R0]?=some (d.ae U):=by rw[gJ,hd];rfl
 show d.ae U=_;have:=Ii (ds:=ds) e;rw[show R0+(k-R0)=k by omega]at this;exact this.symm;trivial;trivial
theorem vQ(h:s.ok U){as:List A}{base:Nat}{ds:List DV}(ha:nL as ds):({s.fC (iq base as.length)with g:=nM base as++(s.fC (iq base as.length)).g}:Sk).ok (U.ay base ds):=by
 have hk:=Ig (ai:=U.ay base ds) h (p:=iq base as.length) fun k hk=>rD ha.len.symm hk;refine⟨fun p hp=>?_,hk.q,hk.f⟩;rcases oQ.1 hp with hp|hp;exact zf ha p hp;exact hk.g p hp
theorem ES(h:s.ok U){a:A}{id:Nat}{d:DV}(ha:a.has d):({s.fC (iq id 1)with g:=(id,a)::(s.fC (iq id 1)).g}:Sk).ok (U.set id d):=by
 have hk:=Ig (ai:=U.set id d) h (p:=iq id 1) fun k hk=>CZ hk;refine⟨fun p hp=>?_,hk.q,hk.f⟩;rcases bh.1 hp with rfl|hp;simpa[aA.set]using ha;exact hk.g p hp
theorem Ik{c:Bool}{v:Vc}(h:(if c=true then []else [v])=[]):c=true:=by
 cases c;cases h;rfl
theorem Sv{K:Nat->Option Cn}{key:FuncId->Nat}{an:An}{out:Cn}{E:Nat->List DV->List DV->Prop}{ZP:List DV}
   (hK:∀f c,K (key f)=some c->∀ds,c.fQ ds->∃rs,E f ds rs/\c.iA ds rs) (hl:∀l∈an.dZ,fa l) (yF:out.args.length<=R0) :
   ∀ {t:ar} {s:Sk} {ls:List Lc} {d:Nat} {pr:List Nat} {U:aA} {Ps:List (Int->Prop)} {F:Nat->List DV->Prop},
     s.ok U->t.qo K key an out s ls d pr=[]->(∀k,k<out.args.length->k∈pr)->(∀k,k<out.args.length->U k=bB.ay 0 ZP k)->Ss U pr ls F->aaU an.er d Ps->t.jm E (out.iA ZP) Ps U F:=by
 intro t;induction t with
 | ret bO=>
   intro s ls d pr U Ps F h e hp ha hL hP;simp only[ar.qo]at e;obtain⟨e1,e2⟩:=append_nil e;exact⟨sn h hl e1,uM h hl (Ni yF ha) e2⟩
 | stuck w=>
   intro s ls d pr U Ps F h e hp ha hL hP;have:=lN h hl (by simpa only[ar.qo]using e);cases this
 | ev ev t ih=>
   intro s ls d pr U Ps F h e hp ha hL hP;cases ev with
   | aG p=>
     simp only[ar.qo]at e;split at e;rename_i hpv;exact⟨ff h hpv,ih h e hp ha hL hP⟩;obtain⟨e1,e2⟩:=append_nil e;have hd:=lN h hl e1;exact⟨hd,ih (sm h hd) e2 hp ha hL hP⟩
   |dh p x=>simp[ar.qo]at e
   | cu id op=>
     simp only[ar.qo]at e;obtain⟨e1,e2⟩:=append_nil e;have hc:=Ik e1;simp only[ah]at hc;obtain⟨l1,l2⟩:=Sn h hc.2;have k:=mA (ES h l1) l2;exact ih k e2 hp (fun j hj=>by rw[<- sq hc.1 j (hp j hj)];exact ha j hj) (hL.move (sq hc.1)) hP
   | call f g args res base=>
     simp only[ar.qo]at e;split at e;cases e;rename_i c hc;obtain⟨ea,e⟩:=append_nil e;obtain⟨eb,e⟩:=append_nil e;obtain⟨ea1,ea2⟩:=append_nil ea;have iQ:=Ik eb;simp only[ah,Nat.blt_eq]at iQ;obtain⟨aQ,aaV,Uw,tg,hsm⟩:=iQ;refine⟨fun hg=>?_,fun hg=>?_⟩;have h1:=sm h hg;have hd:∀k,(ry args 0 base k).is U (il (args.map (DE.ae U)) [] k):=By (rs:=[]) rfl hsm (fun j d hj=>by simp at hj);have Az:c.fQ (args.map (DE.ae U)):=⟨sn h1 hl ea1,uM (e2:=bB.ay 0 (args.map (DE.ae U))) h1 hl (fun k=>by
       have:=hd k;rwa[show il (args.map (DE.ae U)) [] k=bB.ay 0 (args.map (DE.ae U)) k from rfl]at this) ea2⟩
     obtain⟨rs,hE,sL,EB⟩:=hK f c hc _ Az;refine⟨rs,hE,?_⟩;have hlen:=sL.len;have hA:nL (if g.beq (.c true)then c.res else c.res.map fun a=>a.y7 (AQ a)) rs:=by
       split;exact sL;exact Sq sL
     have Mw:(if g.beq (.c true)then c.res else c.res.map fun a=>a.y7 (AQ a)).length=c.res.length:=by split<;>simp
     have k3:=vQ h (base:=base) hA;rw[Mw]at k3;have ew:args.map (DE.ae (U.ay base rs))=args.map (DE.ae U):=sO fun x hx=>Su hlen.symm (k7.1 aaV x hx);have ZT:∀k,(ry args c.res.length base k).is (U.ay base rs) (il (args.map (DE.ae U)) rs k):=by
       rw[hlen];exact By ew.symm hsm fun j d hj=>aA.dr hj
     have ky:g.ae (U.ay base rs)=true:=by
       rw[BE.ak (fun k hk=>(rD hlen.symm hk).symm) Uw];exact hg
     refine ih (mA k3 fun p hp=>?_) e hp (fun j hj=>by rw[<- oA aQ hlen.symm j (hp j hj)];exact ha j hj) (hL.move (oA aQ hlen.symm)) hP;obtain⟨q,hq,wC⟩:=vA.1 hp;simp only[bl]at wC;obtain⟨q',Lh,rfl⟩:=wC;have:q'.ae (U.ay base rs)=true:=by rw[aaT ZT Lh];exact EB q hq
     split;exact this;simp[BE.ae,this];have hA:nL (c.res.map fun a=>a.y7 (AQ a)) (defs (bt res)):=Sr tg;have hlen:c.res.length=(defs (bt res)).length:=by have:=hA.len;simpa using this
     have ZC:g.beq (.c true)=false:=by
       cases hb:g.beq (.c true)with
       |false=>rfl
       |true=>rw[BE.beq_eq hb]at hg;cases hg
     have k3:=vQ h (base:=base) hA;simp only[kT]at k3;have ky:g.ae (U.ay base (defs (bt res)))=false:=by
       rw[BE.ak (fun k hk=>(rD hlen.symm hk).symm) Uw];exact hg
     simp only[ZC]at e;refine ih (mA k3 fun p hp=>?_) e hp (fun j hj=>by rw[<- oA aQ hlen.symm j (hp j hj)];exact ha j hj) (hL.move (oA aQ hlen.symm)) hP;obtain⟨q,hq,wC⟩:=vA.1 hp;simp only[bl]at wC;obtain⟨q',Lh,rfl⟩:=wC;simp[BE.ae,ky]
 | ite c a b et eP=>
   intro s ls d pr U Ps F h e hp ha hL hP;simp only[ar.qo]at e;split at e;rename_i hpv;have:=ff h hpv;exact⟨fun hc=>et (sm h hc) e hp ha hL hP,fun hc=>(by rw[this]at hc;cases hc)⟩;split at e;rename_i Zy;have:=mz h Zy;exact⟨fun hc=>(by rw[this]at hc;cases hc),fun hc=>eP (tD h hc) e hp ha hL hP⟩;obtain⟨e1,e2⟩:=append_nil e;exact⟨fun hc=>et (sm h hc) e1 hp ha hL hP,fun hc=>eP (tD h hc) e2 hp ha hL hP⟩
 | loop id entry ks base body ih=>
   intro s ls d pr U Ps F h e hp ha hL hP;simp only[ar.qo]at e;split at e;cases e;rename_i _ _ v _;obtain⟨e1,e⟩:=append_nil e;obtain⟨e2,e⟩:=append_nil e;obtain⟨e3,e⟩:=append_nil e;have aQ:=Ik e3;have hen:=sn h hl e1;have hlen:entry.length=v.as.length:=by have:=hen.len;simpa using this.symm
   refine⟨fun vs=>nL v.as vs/\∀p∈v.ex,p.ae (U.ay base vs)=true,fun vs=>(v.me.ae (U.ay base vs)).toNat,⟨hen,?_⟩,fun vs hi=>?_⟩;refine uM h hl (fun k=>?_) e2;have:=Ij (U:=U) (base:=base) (bO:=entry) k;rwa[hlen]at this;obtain⟨HE,Rp⟩:=hi;have Fz:=HE.len;refine ih (mA (vQ h HE) Rp) e (fun k hk=>Ci _ (hp k hk)) (fun j hj=>by rw[<- oA aQ Fz.symm j (hp j hj)];exact ha j hj) ?_ hP;intro rY l tV;by_cases kF:rY=id;subst kF;have:(Lc.mk rY base v)=l:=by simpa[List.find?]using tV
   subst this;refine⟨fun k hk=>yb _ hk,fun us hu hx hm=>?_⟩;simp only[oN,if_pos];have e5:∀us:List DV,us.length=vs.length->(U.ay base vs).ay base us=U.ay base us:=fun us hl=>by
     funext k;by_cases h1:k<base;rw[aA.bn h1,aA.bn h1,aA.bn h1];by_cases h2:base+us.length<=k;rw[aA.iS h2,aA.iS (by omega),aA.iS h2];have e:us[k-base]?=some (us[k-base]'(by omega)):=fV _;rw[show k=base+(k-base)by omega,aA.dr e,aA.dr e]
   have hul:us.length=vs.length:=by have:=hu.len;simp only at this;omega
   simp only at hx hm;rw[e5 us hul]at hx hm;exact⟨⟨hu,hx⟩,hm⟩;have:ls.find? (fun l=>Nat.beq l.id rY)=some l:=by
     have ck:Nat.beq id rY=false:=by
       cases hb:Nat.beq id rY with
       |false=>rfl
       |true=>exact absurd (uJ hb).symm kF
     simpa[List.find?,ck]using tV
   obtain⟨g1,g2⟩:=(hL.move (oA aQ Fz.symm)) rY l this;refine⟨fun k hk=>Ci _ (g1 k hk),fun us hu hx hm=>?_⟩;simp only[oN,if_neg kF];exact g2 us hu hx hm
 | again id bO=>
   intro s ls d pr U Ps F h e hp ha hL hP;simp only[ar.qo]at e;split at e;cases e;rename_i l hf;obtain⟨e1,e⟩:=append_nil e;obtain⟨e2,e⟩:=append_nil e;obtain⟨e3,e⟩:=append_nil e;obtain⟨g1,g2⟩:=hL id l hf;have hv:=sn h hl e1;have hlen:bO.length=l.iv.as.length:=by have:=hv.len;simpa using this.symm
   have ZT:∀k,(Ko l.base l.iv.as.length bO k).is U (U.ay l.base (bO.map (DE.ae U)) k):=fun k=>by
     have:=Ij (U:=U) (base:=l.base) (bO:=bO) k;rwa[hlen]at this
   refine g2 _ hv (uM h hl ZT e2) ?_;have h3:=qt (lN h hl e3);split at e;rename_i me hme;have h4:=qt (lN h hl e);rw[ER ZT hme]at h4;simp only[IE.ae]at h3;omega;cases e
 | fail x=>
   intro s ls d pr U Ps F h e hp ha hL hP;simp only[ar.qo]at e;split at e;cases e;rename_i hd;obtain⟨e1,e2⟩:=append_nil e;cases d with
   |zero=>exact absurd rfl hd
   | succ d=>
     cases Ps with
     |nil=>exact hP.elim
     | cons p ps=>
       exact hP.1 _ (qt (lN h hl e1)) (qt (lN h hl e2))
 | gi x tp t AP ih=>
   intro s ls d pr U Ps F h e hp ha hL hP;simp only[ar.qo]at e;obtain⟨e1,e⟩:=append_nil e;obtain⟨e2,e3⟩:=append_nil e;have aQ:=Ik e1;refine ih (Ps:=_::Ps) h e3 hp ha hL ⟨fun n h1 h2=>?_,hP⟩;rw[if_neg (by omega)]at e2;exact AP (ES h (a:=.i an.er.1 an.er.2) (d:=.i n) ⟨h1,h2⟩) e2 hp (fun j hj=>by rw[<- sq aQ j (hp j hj)];exact ha j hj) (hL.move (sq aQ)) hP
 | pop t ih=>
   intro s ls d pr U Ps F h e hp ha hL hP;simp only[ar.qo]at e;split at e;cases e;rename_i hd;cases d with
   |zero=>exact absurd rfl hd
   | succ d=>
     cases Ps with
     |nil=>exact hP.elim
     |cons p ps=>exact ih h e hp ha hL hP.2
theorem Sw{T:Nat->Option gb}{X:bD}{k:Nat}{e:gb}{K:Nat->Option Cn}{an:An}{out:Cn}(hk:T k=some e)
   (hK:∀j c,K j=some c->qn T X j c.fQ c.iA) (hl:∀l∈an.dZ,fa l) (yF:Nat.ble out.args.length R0=true) (hc:(Ut K e.key an out e.tree).isEmpty=true):qn T X k out.fQ out.iA:=by
 intro ds hp;refine EG hk ?_;have h0:(uI out).ok (bB.ay 0 ds):=by
   refine mA ⟨fun p yM=>zf hp.1 p yM,fun l hl=>(by cases hl),fun p hp=>(by cases hp)⟩ hp.2
 exact Sv (ZP:=ds) (fun f c hc ds hd=>hK _ c hc ds hd) hl (by simpa[Nat.ble_eq]using yF) h0 (List.isEmpty_iff.1 hc) (fun k hk=>ui.2 hk) (fun k _=>rfl) (fun id l h=>by cases h) trivial
end
section
def j6{α:Type}(k:Nat):List (Nat×α)->Option α
 | []=>none
 |(j,a)::r=>if Nat.beq j k then some a else j6 k r
theorem Bz{α:Type}{k:Nat}{a:α}:∀ {l:List (Nat×α)},j6 k l=some a->(k,a)∈l:=by
 intro l;induction l with
 |nil=>intro h;cases h
 | cons x l ih=>
   intro h;obtain⟨j,b⟩:=x;unfold j6 at h;split at h;rename_i e;cases h;rw[uJ e];exact aM ..;exact aZ _ (ih h)
structure mB where
 f:FuncId
 aaW:jA
 sl:List (FuncId×bJ)
 s:bJ
 sub:List (FuncId×Nat)
def mB.aK(r:mB):jA:={r.aaW with sig:=q4 r.sl}
def C0:Nat:=6000
def gC(P:Program)(r:mB):ar:=match P.funcs[r.f]? with
 |some fn=>prune [] (qZ P r.aK r.f fn r.s C0)
 |none=>.stuck ""
def lO(P:Program)(t:List (Nat×mB))(k:Nat):Option gb:=match j6 k t with
 |some r=>some ⟨r.f,gC P r,r.sub⟩
 |none=>none
def ZU(kc:Nat->Cn)(ks:List Nat)(j:Nat):Option Cn:=if ks.any (Nat.beq j)then some (kc j)else none
def nO(T:Nat->Option gb)(X:bD)(kc:Nat->Cn)(ks:List Nat):Prop:=∀j∈ks,qn T X j (kc j).fQ (kc j).iA
def GJ(T:Nat->Option gb)(kc:Nat->Cn)(an:Nat->An)(ks:List Nat)(k:Nat):Bool:=match T k with
 |some e=>Nat.ble (kc k).args.length R0&&(Ut (ZU kc ks) e.key (an k) (kc k) e.tree).isEmpty
 |none=>false
theorem Wq{T:Nat->Option gb}{X:bD}{kc:Nat->Cn}{ks:List Nat}(h:nO T X kc ks):∀j c,ZU kc ks j=some c->qn T X j c.fQ c.iA:=fun j c hj=>by
 unfold ZU at hj;split at hj;rename_i hm;cases hj;obtain⟨x,hx,hb⟩:=kI.1 hm;rw[uJ hb];exact h x hx;cases hj
theorem aC{T:Nat->Option gb}{X:bD}{kc:Nat->Cn}{an:Nat->An}(hl:∀k,∀l∈(an k).dZ,fa l){ks:List Nat}{k:Nat}(h:nO T X kc ks)(e:GJ T kc an ks k=true):qn T X k (kc k).fQ (kc k).iA:=by
 unfold GJ at e;split at e;rename_i en hk;simp only[ah]at e;exact Sw (X:=X) hk (Wq h) (hl k) e.1 e.2;cases e
theorem nO.next{T:Nat->Option gb}{X:bD}{kc:Nat->Cn}{l:List Nat}{i k:Nat}(h:nO T X kc (l.take i))(hk:l[i]?=some k)(g:qn T X k (kc k).fQ (kc k).iA):nO T X kc (l.take (i+1)):=fun j hj=>by
 rw[List.take_add_one,hk]at hj;rcases oQ.1 hj with hj|hj;exact h j hj;rcases lU.1 hj with rfl;exact g
theorem nO.mono{T:Nat->Option gb}{X:bD}{kc:Nat->Cn}{ks ls:List Nat}(h:nO T X kc ks)(hs:(ls.all fun j=>ks.any (Nat.beq j))=true):nO T X kc ls:=fun j hj=>by
 obtain⟨x,hx,hb⟩:=kI.1 (k7.1 hs j hj);rw[uJ hb];exact h x hx
theorem nO.and{T:Nat->Option gb}{X:bD}{kc:Nat->Cn}{k:Nat}{ks:List Nat}(h:nO T X kc ks)(g:qn T X k (kc k).fQ (kc k).iA):nO T X kc (k::ks):=fun j hj=>by
 rcases bh.1 hj with rfl|hj;exact g;exact h j hj
end
section
def fN{α:Type}(n:Nat)(k:Nat->α):α:=match n with
 |0=>k 0
 |.succ m=>k (.succ m)
theorem Uz{α:Type}(n:Nat)(k:Nat->α):fN n k=k n:=by cases n<;>rfl
def fI{α:Type}(n:Int)(k:Int->α):α:=match n with
 |.ofNat m=>fN m fun m=>k (.ofNat m)
 |.negSucc m=>fN m fun m=>k (.negSucc m)
theorem BA{α:Type}(n:Int)(k:Int->α):fI n k=k n:=by cases n<;>simp only[fI,Uz]
def fL{α β:Type}(f:β->(β->α)->α):List β->(List β->α)->α
 | [],k=>k []
 |x::xs,k=>f x fun x=>fL f xs fun xs=>k (x::xs)
theorem zm{α β:Type}{f:β->(β->α)->α}(h:∀x k,f x k=k x):∀(xs:List β) (k:List β->α),fL f xs k=k xs:=by
 intro xs;induction xs with
 |nil=>intro k;rfl
 |cons x xs ih=>intro k;simp only[fL,h,ih]
def fD{α:Type}(d:DV)(k:DV->α):α:=match d with
 |.i n=>fI n fun n=>k (.i n)
 | .b b=>match b with
   |true=>k (.b true)
   |false=>k (.b false)
 |.l xs=>fL (fL fI) xs fun xs=>k (.l xs)
theorem UA{α:Type}(d:DV)(k:DV->α):fD d k=k d:=by
 cases d with
 |i n=>simp only[fD,BA]
 |b b=>cases b<;>rfl
 | l xs=>
   simp only[fD];exact zm (f:=fL fI) (fun x k=>zm (fun x k=>BA x k) x k) xs (fun xs=>k (.l xs))
def Wt{α:Type}(ds:List DV)(k:List DV->α):α:=fL fD ds k
theorem C2{α:Type}(ds:List DV)(k:List DV->α):Wt ds k=k ds:=zm (fun x k=>UA x k) _ _
def oC:List (Nat×DV)->aA
 | [],k=>bB k
 | (j,d)::r,k=>match Nat.beq j k with
   |true=>d
   |false=>oC r k
theorem vR(j:Nat)(d:DV)(E:List (Nat×DV)):oC ((j,d)::E)=(oC E).set j d:=by
 funext k;unfold oC aA.set;split;rename_i h;rw[if_pos (vz h).symm];rename_i h;rw[if_neg (fun e=>by rw[e,Nat.beq_refl]at h;cases h)]
def zn(E:List (Nat×DV))(k:Nat):List DV->List (Nat×DV)
 | []=>E
 |d::ds=>zn ((k,d)::E) (k+1) ds
theorem zo:∀(ds:List DV) (E:List (Nat×DV)) (k:Nat),oC (zn E k ds)=(oC E).ay k ds:=by
 intro ds;induction ds with
 |nil=>intro E k;rfl
 |cons d ds ih=>intro E k;rw[zn,ih,vR];rfl
def ar.mN(C:bD)(N:Nat):ar->List (Int->Option (List DV))->List (Nat×DV)->qa->Option (List DV)
 |.ret bO,_,E,_=>Wt (bO.map (DE.ae (oC E))) some
 |.stuck _,_,_,_=>none
 | .ev (.aG p) t,Ps,E,F=>match p.ae (oC E)with
   |true=>t.mN C N Ps E F
   |false=>none
 | .ev (.call f g args res base) t,Ps,E,F=>match g.ae (oC E)with
   | true=>Wt (args.map (DE.ae (oC E))) fun as=>match C f as with
     |some rs=>Wt rs fun rs=>t.mN C N Ps (zn E base rs) F
     |none=>none
   |false=>t.mN C N Ps (zn E base (defs (bt res))) F
 |.ev (.cu id op) t,Ps,E,F=>fD (.l (op.ae (oC E))) fun d=>t.mN C N Ps ((id,d)::E) F
 |.ev (.dh _ _) _,_,_,_=>none
 | .ite c a b,Ps,E,F=>match c.ae (oC E)with
   |true=>a.mN C N Ps E F
   |false=>b.mN C N Ps E F
 |.loop id entry _ base body,Ps,E,F=>Wt (entry.map (DE.ae (oC E))) fun ds=>iter (fun rec ds=>Wt ds fun ds=>body.mN C N Ps (zn E base ds) (yY F id rec)) N ds
 |.again id bO,_,E,F=>Wt (bO.map (DE.ae (oC E))) fun ds=>F id ds
 | .fail e,Ps,E,_=>match Ps with
   |p::_=>fI (e.ae (oC E)) fun n=>p n
   | []=>none
 |.gi x tp t,Ps,E,F=>t.mN C N ((fun n=>tp.mN C N Ps ((x,.i n)::E) F)::Ps) E F
 | .pop t,Ps,E,F=>match Ps with
   |_::R8=>t.mN C N R8 E F
   | []=>none
theorem SB{C:bD}{N:Nat}:∀(t:ar) (Ps:List (Int->Option (List DV))) (E:List (Nat×DV)) (F:qa),t.mN C N Ps E F=t.run C N Ps (oC E) F:=by
 intro t;induction t with
 |ret bO=>intro Ps E F;simp only[ar.mN,ar.run,C2]
 |stuck s=>intro Ps E F;rfl
 | ev e t ih=>
   intro Ps E F;cases e with
   | aG p=>
     simp only[ar.mN,ar.run,Ev.run];cases h:p.ae (oC E);simp;simp[ih]
   | call f g args res base=>
     simp only[ar.mN,ar.run,Ev.run,C2,ih,zo];cases h:g.ae (oC E);simp;simp only[if_true];cases C f (List.map (DE.ae (oC E)) args)<;>rfl
   |cu id op=>simp only[ar.mN,ar.run,Ev.run,UA,ih,vR]
   |dh p e=>rfl
 | ite c a b et eP=>
   intro Ps E F;simp only[ar.mN,ar.run,et,eP];cases h:c.ae (oC E)<;>simp
 | loop id es ks base body ih=>
   intro Ps E F;simp only[ar.mN,ar.run,C2,ih,zo]
 |again id bO=>intro Ps E F;simp only[ar.mN,ar.run,C2]
 |fail e=>intro Ps E F;cases Ps<;>simp only[ar.mN,ar.run,BA]
 | gi x tp t AP ih=>
   intro Ps E F;simp only[ar.mN,ar.run,ih,AP,vR]
 |pop t ih=>intro Ps E F;cases Ps<;>simp only[ar.mN,ar.run,ih]
def Io:Int->Int->Bool
 |.ofNat a,.ofNat b=>Nat.beq a b
 |.negSucc a,.negSucc b=>Nat.beq a b
 |_,_=>false
theorem rG{a b:Int}(h:Io a b=true):a=b:=by
 cases a<;>cases b<;>simp only[Io]at h;rw[vz h];cases h;cases h;rw[vz h]
def Ip{α:Type}(f:α->α->Bool):List α->List α->Bool
 | [],[]=>true
 | a::as,b::bs=>match f a b with
   |true=>Ip f as bs
   |false=>false
 |_,_=>false
theorem nP{α:Type}{f:α->α->Bool}(hf:∀a b,f a b=true->a=b):∀ {as bs:List α},Ip f as bs=true->as=bs:=by
 intro as;induction as with
 | nil=>intro bs h;cases bs with
   |nil=>rfl
   |cons b bs=>cases h
 | cons a as ih=>intro bs h;cases bs with
   |nil=>cases h
   | cons b bs=>
     unfold Ip at h;split at h;rename_i e;rw[hf _ _ e,ih h];cases h
def eqD:DV->DV->Bool
 |.i a,.i b=>Io a b
 | .b a,.b b=>match a,b with
   |true,true=>true
   |false,false=>true
   |_,_=>false
 |.l a,.l b=>Ip (Ip Io) a b
 |_,_=>false
theorem Nn{a b:DV}(h:eqD a b=true):a=b:=by
 cases a<;>cases b<;>simp only[eqD]at h<;>first|cases h|skip
 rw[rG h]
 . rename_i x y;cases x<;>cases y<;>simp_all
 rw[nP (fun a b h=>nP (fun a b h=>rG h) h) h]
def eqO:Option (List DV)->List DV->Bool
 |some a,b=>Ip eqD a b
 |none,_=>false
theorem Wu{a:Option (List DV)}{b:List DV}(h:eqO a b=true):a=some b:=by
 cases a with
 |none=>cases h
 |some a=>rw[nP (fun a b h=>Nn h) (show Ip eqD a b=true from h)]
abbrev aU:=Nat×List DV×List DV
def BB(k:Nat)(ds:List DV):List aU->Option (List DV)
 | []=>none
 | (j,as,rs)::r=>match Nat.beq j k with
   | true=>match Ip eqD as ds with
     |true=>some rs
     |false=>BB k ds r
   |false=>BB k ds r
theorem Ku{k:Nat}{ds rs:List DV}:∀ {tb:List aU},BB k ds tb=some rs->(k,ds,rs)∈tb:=by
 intro tb;induction tb with
 |nil=>intro h;cases h
 | cons x tb ih=>
   intro h;obtain⟨j,as,r⟩:=x;unfold BB at h;split at h;rename_i e;split at h;rename_i e';cases h;rw[vz e,nP (fun a b h=>Nn h) e'];exact aM ..;exact aZ _ (ih h);exact aZ _ (ih h)
def Np(T:Nat->Option gb)(X:bD):List aU->Prop
 | []=>True
 |x::r=>cm T X x.1 x.2.1 x.2.2/\Np T X r
theorem Np.fuel{T:Nat->Option gb}{X:bD}:∀ {tb:List aU},Np T X tb->∃n,∀x∈tb,ev T X n x.1 x.2.1=some x.2.2:=by
 intro tb;induction tb with
 |nil=>intro _;exact⟨0,fun x h=>(by cases h)⟩
 | cons x tb ih=>
   intro h;obtain⟨⟨n,hn⟩,hr⟩:=h;obtain⟨m,hm⟩:=ih hr;refine⟨max n m,fun y hy=>?_⟩;rcases bh.1 hy with rfl|hy;exact gy n _ _ _ (Nat.le_max_left ..) _ hn;exact gy m _ _ _ (Nat.le_max_right ..) _ (hm y hy)
def C3(T:Nat->Option gb)(k:Nat)(tb:List aU)(N:Nat)(ds rs:List DV):Bool:=match T k with
 |some e=>eqO (e.tree.mN (fun g as=>BB (e.key g) as tb) N [] (zn [] 0 ds) (fun _ _=>none)) rs
 |none=>false
theorem kq{T:Nat->Option gb}{X:bD}{tb:List aU}(Sd:Np T X tb){k N:Nat}{ds rs:List DV}(h:C3 T k tb N ds rs=true):cm T X k ds rs:=by
 unfold C3 at h;split at h;rename_i e hk;have h:=Wu h;rw[SB,zo]at h;obtain⟨n,hn⟩:=Sd.fuel;refine⟨max n N+1,?_⟩;simp only[ev,hk];refine mu (C:=fun g as=>BB (e.key g) as tb) (fun f as r hr=>?_) (Nat.le_max_right ..) s5.refl (fun _ _ _ h=>h) rs h;exact gy n _ _ _ (Nat.le_max_left ..) _ (hn _ (Ku hr));cases h
end
section
variable {K:Nat->Option Cn}{key:FuncId->Nat}{an:An}{out:Cn}
def Wr(x n:Nat):BE:=.eq (.v x) (.c (n:Int))
def ZV(x:Nat)(ks:List BE):Nat->List BE
 |0=>ks
 |n+1=>(BE.not (Wr x n)).mk::ZV x ks n
def sN(x:Nat)(s:Sk):Nat->Sk
 |0=>s
 |n+1=>(sN x s n).mY (Wr x n)
def uN(P:Program)(r:mB)(aK:jA)(g:St->St):ar:=match P.funcs[r.f]? with
 | some fn=>match fn.body with
   |some c=>exec P aK C0 none [] r.f fn [.code c] (g (start fn r.s.args)) (if r.s.cons=0 then pq r.s.res else mi r.s)
   |none=>.stuck "no body"
 |none=>.stuck ""
def Sy(x m:Nat):List (Nat×Int):=(List.range m).map fun(v:Nat)=>(x,(v:Int))
def Il(K:Nat->Option Cn)(key:FuncId->Nat)(an:An)(out:Cn)(rs:List CT)(s:Sk)(t:ar):Bool:=(t.qo K key an out s [] 0 (List.range out.args.length)).isEmpty&&t.lJ rs
def Im(P:Program)(r:mB)(K:Nat->Option Cn)(key:FuncId->Nat)(an:An)(out:Cn)(x n:Nat):Bool:=
 Il K key an out (bt r.s.res) ((sN x (uI out) n).uH (Wr x n)) (prune (iL (Wr x n) (ZV x [] n)) (uN P r r.aK fun st=>st.fix x n))
def Nj(P:Program)(r:mB)(K:Nat->Option Cn)(key:FuncId->Nat)(an:An)(out:Cn)(x m:Nat):Bool:=
 Il K key an out (bt r.s.res) (sN x (uI out) m) (prune (ZV x [] m) (uN P r {r.aK with no:=Sy x m} id))
theorem C1{P:Program}{r:mB}{x m:Nat}{fn:Func}{c:Code}(kQ:P.funcs[r.f]?=some fn)(hc:fn.body=some c)(hs:r.aK.Ck=some (x,m))(hx:decide (x<(start fn r.s.args).next)=true) :
   gC P r=prune [] (yA x (fun v=>uN P r r.aK fun st=>st.fix x v) (uN P r {r.aK with no:=Sy x m} id) (List.range' 0 m)):=by
 rw[<- List.range_eq_range'];simp only[gC,kQ,qZ,hc,hs,hx,if_true,uN,Sy,id]
theorem GK{P:Program}{r:mB}{x m:Nat}{fn:Func}{c:Code}(kQ:P.funcs[r.f]?=some fn)(hc:fn.body=some c)(hs:r.aK.Ck=some (x,m))(hx:decide (x<(start fn r.s.args).next)=true)
   (hp:∀n,n<m->Im P r K key an out x n=true) (hr:Nj P r K key an out x m=true):(gC P r).lJ (bt r.s.res)=true:=by
 rw[C1 kQ hc hs hx];have key:∀(j n:Nat),n+j=m->(prune (ZV x [] n) (yA x (fun v=>uN P r r.aK fun st=>st.fix x v) (uN P r {r.aK with no:=Sy x m} id) (List.range' n j))).lJ (bt r.s.res)=true:=by
   intro j;induction j with
   | zero=>
     intro n hn;have:n=m:=by omega
     subst this;simp only[Nj,Il,ah]at hr;exact hr.2
   | succ j ih=>
     intro n hn;have h1:=hp n (by omega);simp only[Im,Il,ah]at h1;have h2:=ih (n+1) (by omega);show(ar.ite _ _ _).lJ _=true;simp only[ar.lJ,ah];exact⟨h1.2,h2⟩
 exact key m 0 (by omega)
end
section
variable {P:Program}
def Nl(qp:Nat->Option bJ)(jZ:List (Nat×mB))(key:FuncId->Nat)(sl:List (FuncId×bJ))(g:FuncId):Bool:=match q4 sl g with
 | some s'=>decide (qp (key g)=some s')&&Nat.beq (match j6 (key g) jZ with
   |some r=>r.f
   |none=>key g) g
 |none=>false
def SA(jZ:List (Nat×mB))(xs:List Nat)(k:Nat):Bool:=(j6 k jZ).isSome||xs.any (Nat.beq k)
structure Kind where
 aG:FuncId
 vB:FuncId
 cw:TypeId
 nH:TypeId
 xp:FuncId
 wE:List (Nat×List Int)
def aaX(k:Kind)(c:jA):Bool:=decide (c.aG=some k.aG)&&(decide (c.vB=some k.vB)&&(decide (c.cw=k.cw)&&(decide (c.nH=k.nH)&&(decide (c.xp=some k.xp)&&(decide (c.wE=k.wE)&&c.no.isEmpty)))))
def fnB(P:Program)(f:FuncId):Bool:=match P.funcs[f]? with
 |some fn=>fn.body.isSome && !(fn.name == "runtime.NumGoroutine")
 |none=>false
def Kt(P:Program)(kd:Kind)(qp:Nat->Option bJ)(jZ:List (Nat×mB))(xs:List Nat)(k:Nat)(r:mB):Bool:=
 aaX kd r.aaW && (fnB P r.f && (decide (qp k=some r.s)&&(r.sl.all (fun p=>Nl qp jZ (gb.key ⟨r.f,.stuck "",r.sub⟩) r.sl p.1) &&
   (jZ.map (·.1)++xs).all fun j=>(r.sub.any fun p=>Nat.beq p.1 j)||(q4 r.sl j).isSome)&&(r.sub.all fun p=>(q4 r.sl p.1).isSome || !SA jZ xs p.2)))
def kindOk(P:Program)(kd:Kind):Prop:=∀aK:jA,aK.aG=some kd.aG->aK.vB=some kd.vB->aK.cw=kd.cw->aK.nH=kd.nH->aK.xp=some kd.xp->ja P aK
theorem GO{l:List (FuncId×bJ)}{g:FuncId}{s:bJ}(h:q4 l g=some s):∃p∈l,p.1=g:=by
 unfold q4 at h;simp only[bl]at h;obtain⟨p,hp,_⟩:=h;exact⟨p,B2 hp,by have:=List.find?_some hp;simpa using this⟩
theorem Ws{Wd:World->Prop}{kd:Kind}{qp:Nat->Option bJ}{jZ:List (Nat×mB)}{xs:List Nat}{k:Nat}{r:mB}(hk:kindOk P kd)(hw:∀w,Wd w->∀g cs,(g,cs)∈kd.wE->∃T z,w.heap[g]?=some (.cells (cs.map fun n=>Value.int .i64 n).toArray T z))
   (h:Kt P kd qp jZ xs k r=true) (hr:(gC P r).lJ (bt r.s.res)=true):Up P Wd (lO P jZ) (fun k=>xs.any (Nat.beq k)) qp k ⟨r.f,gC P r,r.sub⟩:=by
 simp only[Kt,aaX,fnB,ah,aD]at h;obtain⟨⟨c1,c2,c3,c4,c5,c6,c7⟩,hf,⟨hs,vG,VW⟩,eC⟩:=h;split at hf;rename_i fn kQ;simp only[ah,mG,xT]at hf;obtain⟨⟨c,hc⟩,hn⟩:=hf;refine⟨r.aK,fn,c,C0,r.s,⟨by simpa[mB.aK]using List.isEmpty_iff.1 c7,hr⟩,hs,hk r.aK c1 c2 c3 c4 c5,?_,?_,kQ,hc,hn,?_,fun w FJ g cs hg=>hw w FJ g cs (by rw[<- c6];exact hg)⟩;intro g s' hg;have hg:q4 r.sl g=some s':=hg;obtain⟨p,hp,rfl⟩:=GO hg;have:=k7.1 vG p hp;simp only[Nl,hg,ah,aD]at this;refine⟨this.1,?_⟩;have e:=uJ this.2;show mX (lO P jZ) (gb.key ⟨r.f,.stuck "",r.sub⟩ p.1)=p.1;unfold mX lO;split at e;rename_i r' cq;first|exact e|(rw[cq];exact e)
 rename_i cq;first|exact e|(rw[cq];exact e)
 intro g hg;show(q4 r.sl g).isSome=true;have hd:SA jZ xs (gb.key ⟨r.f,gC P r,r.sub⟩ g)=true:=by
   unfold s6 lO at hg;unfold SA;cases hl:j6 (gb.key ⟨r.f,gC P r,r.sub⟩ g) jZ with
   |none=>simpa[hl]using hg
   |some r'=>simp
 cases RD:r.sub.find? (fun p=>p.1==g)with
 | some p=>
   have e:gb.key ⟨r.f,gC P r,r.sub⟩ g=p.2:=by simp only[gb.key,RD]
   have e2:p.1=g:=by have:=List.find?_some RD;simpa using this
   have:=k7.1 eC p (B2 RD);rw[e]at hd;simp only[hd,Bool.not_true,Bool.or_false]at this;rw[<- e2];exact this
 | none=>
   have e:gb.key ⟨r.f,gC P r,r.sub⟩ g=g:=by simp only[gb.key,RD]
   rw[e]at hd;have hm:g∈jZ.map (·.1)++xs:=by
     unfold SA at hd;simp only[fU]at hd;rcases hd with hd|hd;obtain⟨r',cq⟩:=xT.1 hd;exact yb _ (kE.2 ⟨_,Bz cq,rfl⟩);obtain⟨x,hx,hb⟩:=kI.1 hd;rw[uJ hb];exact Ci _ hx
   have:=k7.1 VW g hm;simp only[fU]at this;rcases this with this|this;obtain⟨p,hp,hb⟩:=kI.1 this;have:=List.find?_eq_none.1 RD p hp;simp[uJ hb]at this;exact this
 show prune [] (qZ P r.aK r.f fn r.s C0)=gC P r;simp only[gC,kQ];cases hf
end
section
def GL:List (Int->Prop)->List (Int->Prop)->List (Int->Prop)->Prop
 | [],[],[]=>True
 |p::ps,q::qs,r::rs=>(∀e,p e->q e->r e)/\GL ps qs rs
 |_,_,_=>False
theorem GL.head{ps qs rs:List (Int->Prop)}(h:GL ps qs rs){e:Int}(h1:jI ps e)(h2:jI qs e):jI rs e:=by
 match ps,qs,rs,h with
 | [],[],[],_=>exact h1
 |p::ps,q::qs,r::rs,h=>exact h.1 e h1 h2
variable {S:BE->Bool}{H:Nat->List DV->Prop}{E:Nat->List DV->List DV->Prop}{R:List DV->Prop}{Ps:List (Int->Prop)}{U:aA}{F:Nat->List DV->Prop}{t t':ar}
end
section
def ar.eK(K:Nat->Option Cn)(key:FuncId->Nat)(an:An)(out:Cn):ar->List Bool->Sk->List Lc->Nat->List Nat->List Vc
 |.ev (.aG q) t,p,s,ls,d,pr=>if s.pv 0 q then t.eK K key an out p s ls d pr else s.ask an.dZ q++t.eK K key an out p (s.uH q) ls d pr
 | .ev (.call f g args res base) t,p,s,ls,d,pr=>match K (key f)with
   |none=>[bad s]
   | some c=>
     let m:=c.res.length
     let s1:=s.uH g
     let vs:=s1.ru an.dZ args c.args++s1.asks an.dZ (ry args 0 base) c.pre
     let ok:=free pr base m&&(args.all (DE.off base m)&&(g.all (iq base m)&&(pN (bt res) c.res&&Nat.blt args.length R0)))
     let s2:=s.fC (iq base m)
     let σ:=ry args m base
     let s3:Sk:={s2 with g:=nM base (if g.beq (.c true)then c.res else c.res.map fun a=>a.y7 (AQ a))++s2.g}
     let s4:=s3.lK (c.post.filterMap fun p=>(p.put σ).map fun p'=>if g.beq (.c true)then p' else .or (.not g) p')
     vs++((if ok then []else [bad s])++t.eK K key an out p s4 ls d pr)
 |.ev (.cu id op) t,p,s,ls,d,pr=>
     let x:=s.L3 id op
     let s2:=s.fC (iq id 1)
     let s3:Sk:={s2 with g:=(id,x.1)::s2.g}
     (if free pr id 1&&op.all (iq id 1)then []else [bad s])++t.eK K key an out p (s3.lK x.2) ls d pr
 |.ite c a b,p,s,ls,d,pr=>if s.pv 1 c then a.eK K key an out p (s.uH c) ls d pr else if s.nv 1 c then b.eK K key an out p (s.mY c) ls d pr
     else match p with
       | []=>a.eK K key an out [] (s.uH c) ls d pr++b.eK K key an out [] (s.mY c) ls d pr
       |true::p=>a.eK K key an out p (s.uH c) ls d pr
       |false::p=>b.eK K key an out p (s.mY c) ls d pr
 | .loop id entry tys base body,p,s,ls,d,pr=>match an.loops.find? fun x=>Nat.beq x.1 id&&Nat.beq x.2.1 base with
   |none=>[bad s]
   | some (_,_,v)=>
     let n:=v.as.length
     let s2:=s.fC (iq base n)
     let s3:Sk:={s2 with g:=nM base v.as++s2.g}
     s.ru an.dZ entry v.as++(s.asks an.dZ (Ko base n entry) v.ex++((if free pr base n then []else [bad s]) ++
       body.eK K key an out p (s3.lK v.ex) (⟨id,base,v⟩::ls) d (v.names++pr)))
 |.gi x tp t,p,s,ls,d,pr=>
     let s2:=s.fC (iq x 1)
     match p with
     | []=>(if free pr x 1 then []else [bad s])++((if an.er.2<an.er.1 then []else tp.eK K key an out [] {s2 with g:=(x,.i an.er.1 an.er.2)::s2.g} ls d pr)++t.eK K key an out [] s ls (d+1) pr)
     |true::p=>(if free pr x 1 then []else [bad s])++(if an.er.2<an.er.1 then []else tp.eK K key an out p {s2 with g:=(x,.i an.er.1 an.er.2)::s2.g} ls d pr)
     |false::p=>t.eK K key an out p s ls (d+1) pr
 |.pop t,p,s,ls,d,pr=>if d=0 then [bad s]else t.eK K key an out p s ls (d-1) pr
 |t,_,s,ls,d,pr=>t.qo K key an out s ls d pr
variable {K:Nat->Option Cn}{key:FuncId->Nat}{an:An}{out:Cn}
theorem Nk:∀(t:ar) (s:Sk) (ls:List Lc) (d:Nat) (pr:List Nat),t.eK K key an out [] s ls d pr=t.qo K key an out s ls d pr:=by
 intro t;induction t with
 |ret bO=>intro s ls d pr;simp only[ar.eK]
 |stuck m=>intro s ls d pr;simp only[ar.eK]
 | ev e t ih=>
   intro s ls d pr;cases e with
   |aG q=>simp only[ar.eK,ar.qo,ih]
   |call f g args res base=>cases hK:K (key f)<;>simp only[ar.eK,ar.qo,ih,hK]
   |cu id op=>simp only[ar.eK,ar.qo,ih]
   |dh a b=>simp only[ar.eK]
 |ite c a b et eP=>intro s ls d pr;simp only[ar.eK,ar.qo,et,eP]
 | loop id entry tys base body ih=>
   intro s ls d pr;cases hL:(an.loops.find? fun x=>Nat.beq x.1 id&&Nat.beq x.2.1 base)<;>simp only[ar.eK,ar.qo,ih,hL]
 |again id bO=>intro s ls d pr;simp only[ar.eK]
 |fail e=>intro s ls d pr;simp only[ar.eK]
 |gi x tp t iht ih=>intro s ls d pr;simp only[ar.eK,ar.qo,iht,ih]
 |pop t ih=>intro s ls d pr;simp only[ar.eK,ar.qo,ih]
theorem dF{α:Type}{a b:List α}:a++b=[]↔a=[]/\b=[]:=List.append_eq_nil_iff
theorem GM:∀(t:ar) {p:List Bool} {s:Sk} {ls:List Lc} {d:Nat} {pr:List Nat},t.eK K key an out (p++[true]) s ls d pr=[]->t.eK K key an out (p++[false]) s ls d pr=[]->t.eK K key an out p s ls d pr=[]:=by
 intro t;induction t with
 |ret bO=>intro p s ls d pr h1 _;simpa only[ar.eK]using h1
 |stuck m=>intro p s ls d pr h1 _;simpa only[ar.eK]using h1
 | ev e t ih=>
   intro p s ls d pr h1 h2;cases e with
   | aG q=>
     simp only[ar.eK]at h1 h2 ⊢;split at h1;rename_i h;rw[if_pos h]at h2 ⊢;exact ih h1 h2;rename_i h;rw[if_neg h]at h2 ⊢;rw[dF]at h1 h2 ⊢;exact⟨h1.1,ih h1.2 h2.2⟩
   | call f g args res base=>
     cases hK:K (key f);simp only[ar.eK,hK]at h1;cases h1;simp only[ar.eK,hK]at h1 h2 ⊢;have a1:=dF.1 h1;have a2:=dF.1 a1.2;have b2:=dF.1 (dF.1 h2).2;exact dF.2 ⟨a1.1,dF.2 ⟨a2.1,ih a2.2 b2.2⟩⟩
   | cu id op=>
     simp only[ar.eK]at h1 h2 ⊢;rw[dF]at h1 h2 ⊢;exact⟨h1.1,ih h1.2 h2.2⟩
   |dh a b=>simpa only[ar.eK]using h1
 | ite c a b et eP=>
   intro p s ls d pr h1 h2;simp only[ar.eK]at h1 h2 ⊢;split at h1;rename_i h;rw[if_pos h]at h2 ⊢;exact et h1 h2;rename_i h;rw[if_neg h]at h2 ⊢;split at h1;rename_i h;rw[if_pos h]at h2 ⊢;exact eP h1 h2;rename_i h;rw[if_neg h]at h2 ⊢
   match p,h1,h2 with
   | [],h1,h2=>exact dF.2 ⟨h1,h2⟩
   |true::p,h1,h2=>exact et h1 h2
   |false::p,h1,h2=>exact eP h1 h2
 | loop id entry tys base body ih=>
   intro p s ls d pr h1 h2;cases hL:(an.loops.find? fun x=>Nat.beq x.1 id&&Nat.beq x.2.1 base);simp only[ar.eK,hL]at h1;cases h1;simp only[ar.eK,hL]at h1 h2 ⊢;have a1:=dF.1 h1;have a2:=dF.1 a1.2;have a3:=dF.1 a2.2;have b3:=dF.1 (dF.1 (dF.1 h2).2).2;exact dF.2 ⟨a1.1,dF.2 ⟨a2.1,dF.2 ⟨a3.1,ih a3.2 b3.2⟩⟩⟩
 |again id bO=>intro p s ls d pr h1 _;simpa only[ar.eK]using h1
 |fail e=>intro p s ls d pr h1 _;simpa only[ar.eK]using h1
 | gi x tp t iht ih=>
   intro p s ls d pr h1 h2
   match p,h1,h2 with
   | [],h1,h2=>
     simp only[kG,ar.eK]at h1 h2 ⊢;rw[dF]at h1;exact dF.2 ⟨h1.1,dF.2 ⟨h1.2,h2⟩⟩
   | true::p,h1,h2=>
     simp only[nU,ar.eK]at h1 h2 ⊢;rw[dF]at h1 h2 ⊢;refine⟨h1.1,?_⟩;have a1:=h1.2;have a2:=h2.2;split at a1;rename_i h;rw[if_pos h];rename_i h;rw[if_neg h]at a2 ⊢;exact iht a1 a2
   | false::p,h1,h2=>
     simp only[nU,ar.eK]at h1 h2 ⊢;exact ih h1 h2
 | pop t ih=>
   intro p s ls d pr h1 h2;simp only[ar.eK]at h1 h2 ⊢;split at h1;rename_i h;rw[if_pos h];exact h1;rename_i h;rw[if_neg h]at h2 ⊢;exact ih h1 h2
def Ks(P:Program)(r:mB)(K:Nat->Option Cn)(key:FuncId->Nat)(an:An)(out:Cn)(x n:Nat)(p:List Bool):Bool:=
 ((prune (iL (Wr x n) (ZV x [] n)) (uN P r r.aK fun st=>st.fix x n)).eK K key an out p ((sN x (uI out) n).uH (Wr x n)) [] 0 (List.range out.args.length)).isEmpty
theorem fu{P:Program}{r:mB}{x n:Nat}{p:List Bool}(h1:Ks P r K key an out x n (p++[true])=true)(h2:Ks P r K key an out x n (p++[false])=true):Ks P r K key an out x n p=true:=
 List.isEmpty_iff.2 (GM _ (List.isEmpty_iff.1 h1) (List.isEmpty_iff.1 h2))
def Ux(P:Program)(r:mB)(x n:Nat):Bool:=(prune (iL (Wr x n) (ZV x [] n)) (uN P r r.aK fun st=>st.fix x n)).lJ (bt r.s.res)
theorem GN{P:Program}{r:mB}{x n:Nat}(h:Ks P r K key an out x n []=true)(hr:Ux P r x n=true):Im P r K key an out x n=true:=by
 unfold Ks at h;rw[Nk]at h;exact Bool.and_eq_true_iff.2 ⟨h,hr⟩
end
end Go.Sx

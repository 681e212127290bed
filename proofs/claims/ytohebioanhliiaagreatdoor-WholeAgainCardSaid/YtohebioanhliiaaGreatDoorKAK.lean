/- The range analysis of trees: its soundness. -/
import Derived.Test.YtohebioanhliiaaGreatDoorKA1
import Derived.Test.YtohebioanhliiaaGreatDoorKA2
import Derived.Test.YtohebioanhliiaaGreatDoorKA4
import Derived.Laws.Closers25b
set_option linter.unusedVariables false
set_option linter.unusedSimpArgs false
namespace Go.Sx
def CKb:IntKind->IntKind->Bool:=fun a b=>decide (a=b)
def IE.beq:IE->IE->Bool
 |.v a,.v b=>Nat.beq a b
 |.c a,.c b=>decide (a=b)
 |.add x y,.add z w=>x.beq z&&y.beq w
 |.sub x y,.sub z w=>x.beq z&&y.beq w
 |.mul x y,.mul z w=>x.beq z&&y.beq w
 |.tdiv x y,.tdiv z w=>x.beq z&&y.beq w
 |.tmod x y,.tmod z w=>x.beq z&&y.beq w
 |.ediv a n,.ediv b m=>Nat.beq n m&&a.beq b
 |.emod a n,.emod b m=>Nat.beq n m&&a.beq b
 |.shl x y,.shl z w=>x.beq z&&y.beq w
 |.shr x y,.shr z w=>x.beq z&&y.beq w
 |.wrap k a,.wrap j b=>CKb k j&&a.beq b
 |.max x y,.max z w=>x.beq z&&y.beq w
 |.min x y,.min z w=>x.beq z&&y.beq w
 |.bits o k x y,.bits p j z w=>decide (o=p)&&(CKb k j&&(x.beq z&&y.beq w))
 |.len a,.len b=>Nat.beq a b
 |.get k i j,.get l m n=>Nat.beq k l&&(Nat.beq j n&&i.beq m)
 |.kq i n x y,.kq j m z w=>Nat.beq n m&&(i.beq j&&(x.beq z&&y.beq w))
 |_,_=>false
def BE.beq:BE->BE->Bool
 |.v a,.v b=>Nat.beq a b
 |.c a,.c b=>a==b
 |.lt x y,.lt z w=>x.beq z&&y.beq w
 |.le x y,.le z w=>x.beq z&&y.beq w
 |.eq x y,.eq z w=>x.beq z&&y.beq w
 |.not a,.not b=>a.beq b
 |.and x y,.and z w=>x.beq z&&y.beq w
 |.or x y,.or z w=>x.beq z&&y.beq w
 |.iff x y,.iff z w=>x.beq z&&y.beq w
 |.si a,.si b=>a.beq b
 |_,_=>false
inductive A where
 |i (lo hi:Int)
 |b
 |l (n0:Int) (n1:Option Int) (cs:List (Int×Int))
 |t
 deriving Inhabited
def cn:List (Int×Int)->Nat->List Int->Prop
 | [],_,_=>True
 |c::cs,j,r=>(c.1<=r.getD j 0/\r.getD j 0<=c.2)/\cn cs (j+1) r
def A.has:A->DV->Prop
 |.i lo hi,.i n=>lo<=n/\n<=hi
 |.b,.b _=>True
 |.l n0 n1 cs,.l xs=>n0<=(xs.length:Int)/\(∀y,n1=some y->(xs.length:Int)<=y)/\∀r∈xs,cn cs 0 r
 |.t,_=>True
 |_,_=>False
def kT:List A->List DV->Prop
 | [],[]=>True
 |a::as,d::ds=>a.has d/\kT as ds
 |_,_=>False
def mn:Int:=-9223372036854775808
def mx:Int:=9223372036854775807
abbrev Lf:=List (Int×IE)×Int
structure Sk where
 g:List (Nat×A)
 q:List Lf
 f:List BE
 deriving Inhabited
def look(k:Nat):List (Nat×A)->Option A
 | []=>none
 |(j,a)::r=>if Nat.beq j k then some a else look k r
def Sk.find(s:Sk)(k:Nat):Option A:=look k s.g
abbrev Rg:=Option Int×Option Int
def o2(f:Int->Int->Int):Option Int->Option Int->Option Int
 |some a,some b=>some (f a b)
 |_,_=>none
def LX(x y z w:Int):Int×Int:=(min (min x y) (min z w),max (max x y) (max z w))
def mulR(a b:Rg):Rg:=match a,b with
 |(some x,some y),(some z,some w)=>(some (LX (x*z) (x*w) (y*z) (y*w)).1,some (LX (x*z) (x*w) (y*z) (y*w)).2)
 |(some x,_),(some z,_)=>if 0<=x/\0<=z then(some (x*z),none)else(none,none)
 |_,_=>(none,none)
def sqR(a:Rg):Rg:=match a with
 |(some x,some y)=>(some (if 0<=x then x*x else if y<=0 then y*y else 0),some (max (x*x) (y*y)))
 |_=>(some 0,none)
def Jx(a:Rg):Rg:=match a with
 |(some x,some y)=>(some (-(max (-x) y)),some (max (-x) y))
 |_=>(none,none)
def LY(a b:Rg):Rg:=match a,b with
 |(some x,some y),(some z,_)=>if 1<=z then(some (if 0<=x then 0 else -((-x)/z)),some (if y<=0 then 0 else y/z))else Jx a
 |_,_=>Jx a
def LZ(a b:Rg):Rg:=match a,b with
 |(some x,some y),(some z,some w)=>if 1<=z then(some (if 0<=x then 0 else max x (1-w)),some (if y<=0 then 0 else min y (w-1)))else Jx a
 |_,_=>Jx a
def Vm(a b:Rg):Rg:=match b with
 |(some z,some w)=>if 0<=z/\w<=128 then mulR a (some (2 ^ z.toNat),some (2 ^ w.toNat))else(none,none)
 |_=>(none,none)
def Vn(a b:Rg):Rg:=match a,b with
 |(some x,some y),(some z,some w)=>if 0<=z/\w<=128 then(some (min (x/2 ^ z.toNat) (x/2 ^ w.toNat)),some (max (y/2 ^ z.toNat) (y/2 ^ w.toNat)))else(some (min x 0),some (max y 0))
 |(some x,some y),_=>(some (min x 0),some (max y 0))
 |_,_=>(none,none)
def L0(k:IntKind)(a:Rg):Rg:=match a with
 |(some x,some y)=>if k.min<=x/\y<=k.max then(some x,some y)else(some k.min,some k.max)
 |_=>(some k.min,some k.max)
def TE(a b:Rg):Rg:=(o2 min a.1 b.1,o2 max a.2 b.2)
def Sk.Z2(s:Sk)(i:IE)(k:Nat)(r:Rg)(n0:Int):Bool:=(match r.1 with
 |some x=>decide (0<=x)
 |none=>false)&&((match r.2 with
 |some y=>decide (y<n0)
 |none=>false)||(match i with
 |.sub (.len j) (.c m)=>Nat.beq j k&&decide (1<=m)
 |_=>false)||s.f.any fun p=>p.beq (.lt i (.len k)))
def Rh(a b:Rg):Rg:=(o2 min a.1 b.1,match a.2,b.2 with
 |some x,some y=>some (min x y)
 |some x,none=>some x
 |none,y=>y)
def L4(a b:Rg):Rg:=((match a.1,b.1 with
 |some x,some y=>some (max x y)
 |some x,none=>some x
 |none,y=>y),o2 max a.2 b.2)
def IE.Yz:IE->Option Int
 |.c n=>some n
 |_=>none
def Sk.iv(s:Sk):IE->Rg
 | .v k=>match s.find k with
   |some (.i lo hi)=>(some lo,some hi)
   |_=>(none,none)
 |.c n=>(some n,some n)
 |.add a b=>(o2 (· + ·) (s.iv a).1 (s.iv b).1,o2 (· + ·) (s.iv a).2 (s.iv b).2)
 |.sub a b=>(o2 (· - ·) (s.iv a).1 (s.iv b).2,o2 (· - ·) (s.iv a).2 (s.iv b).1)
 |.mul a b=>if a.beq b then sqR (s.iv a)else mulR (s.iv a) (s.iv b)
 |.tdiv a b=>LY (s.iv a) (s.iv b)
 |.tmod a b=>LZ (s.iv a) (s.iv b)
 |.ediv a n=>if Nat.beq n 0 then(none,none)else((s.iv a).1.map (· / (n:Int)),(s.iv a).2.map (· / (n:Int)))
 | .emod a n=>if Nat.beq n 0 then(none,none)else match s.iv a with
   |(some x,some y)=>if 0<=x/\y<(n:Int)then(some x,some y)else(some 0,some ((n:Int)-1))
   |_=>(some 0,some ((n:Int)-1))
 |.shl a b=>Vm (s.iv a) (s.iv b)
 |.shr a b=>Vn (s.iv a) (s.iv b)
 |.wrap k a=>L0 k (s.iv a)
 |.max a b=>L4 (s.iv a) (s.iv b)
 |.min a b=>Rh (s.iv a) (s.iv b)
 |.bits _ k _ _=>(some k.min,some k.max)
 | .len k=>match s.find k with
   |some (.l n0 n1 _)=>(some (max n0 0),n1)
   |_=>(some 0,none)
 | .get k i j=>match s.find k with
   | some (.l n0 _ cs)=>match cs[j]? with
     |some (x,y)=>if s.Z2 i k (s.iv i) n0 then(some x,some y)else(some (min x 0),some (max y 0))
     |none=>(none,none)
   |_=>(none,none)
 |.kq i n a b=>TE (s.iv a) (s.iv b)
def Jy(c:Int)(e:IE):List (Int×IE)->List (Int×IE)
 | []=>[(c,e)]
 |(d,x)::r=>if e.beq x then(if d+c=0 then r else(d+c,x)::r)else(d,x)::Jy c e r
def L5(c:Int)(a b:List (Int×IE)):List (Int×IE):=a.foldr (fun t r=>Jy (c*t.1) t.2 r) b
def Lf.plus(c:Int)(a b:Lf):Lf:=(L5 c a.1 b.1,c*a.2+b.2)
def within(k:IntKind)(a:Rg):Bool:=match a with
 |(some x,some y)=>decide (k.min<=x/\y<=k.max)
 |_=>false
def Sk.rN(s:Sk):IE->Lf
 |.c n=>([],n)
 |.add a b=>Lf.plus 1 (s.rN a) (s.rN b)
 |.sub a b=>Lf.plus (-1) (s.rN b) (s.rN a)
 | .mul a b=>match a.Yz,b.Yz with
   |some n,_=>Lf.plus n (s.rN b) ([],0)
   |_,some n=>Lf.plus n (s.rN a) ([],0)
   |_,_=>([(1,.mul a b)],0)
 |.wrap k a=>if within k (s.iv a)then s.rN a else([(1,.wrap k a)],0)
 |e=>([(1,e)],0)
def Sk.low(s:Sk):List (Int×IE)->Option Int
 | []=>some 0
 | (c,e)::r=>match s.low r,(if 0<=c then(s.iv e).1 else(s.iv e).2)with
   |some x,some y=>some (x+c*y)
   |_,_=>none
def Sk.te(s:Sk)(l:Lf):Bool:=match s.low l.1 with
 |some x=>decide (0<=x+l.2)
 |none=>false
def shares(a b:List (Int×IE)):Option Int:=a.findSome? fun x=>b.findSome? fun y=>if decide (0<x.1*y.1)&&x.2.beq y.2 then some ((if 1<=y.1/x.1 then y.1/x.1 else 1))else none
def Sk.fork(s:Sk)(l:Lf):List (Int×IE)->Option (Nat×Lf×Lf)
 | []=>none
 |(c,.max a b)::r=>some (if c<0 then 1 else 0,Lf.plus c (s.rN a) (Lf.plus (-c) ([(1,.max a b)],0) l),Lf.plus c (s.rN b) (Lf.plus (-c) ([(1,.max a b)],0) l))
 |(c,.min a b)::r=>some (if 0<c then 1 else 0,Lf.plus c (s.rN a) (Lf.plus (-c) ([(1,.min a b)],0) l),Lf.plus c (s.rN b) (Lf.plus (-c) ([(1,.min a b)],0) l))
 |(c,.kq i n a b)::r=>some (2,Lf.plus c (s.rN a) (Lf.plus (-c) ([(1,.kq i n a b)],0) l),Lf.plus c (s.rN b) (Lf.plus (-c) ([(1,.kq i n a b)],0) l))
 |_::r=>s.fork l r
def Sk.by(s:Sk):Nat->Lf->Bool
 |0,l=>s.te l
 | d+1,l=>s.te l||(s.q.any fun h=>match shares h.1 l.1 with
   |some m=>s.by d (Lf.plus (-m) h l)
   |none=>false)||match s.fork l l.1 with
   |some (0,x,y)=>s.by d x||s.by d y
   |some (_,x,y)=>s.by d x&&s.by d y
   |none=>false
def Sk.diff(s:Sk)(a b:IE):Lf:=Lf.plus (-1) (s.rN a) (s.rN b)
def Sk.gN(s:Sk)(p:BE):Bool:=s.f.any fun x=>x.beq p
mutual
def Sk.pv(s:Sk)(d:Nat):BE->Bool
 |.c x=>x||s.by d ([],-1)
 |.v k=>s.gN (.v k)
 |.lt a b=>s.by d (Lf.plus 1 (s.diff a b) ([],-1))
 |.le a b=>s.by d (s.diff a b)
 |.eq a b=>a.beq b||(s.by d (s.diff a b)&&s.by d (s.diff b a))||s.gN (.eq a b)
 |.not a=>s.nv d a
 |.and a b=>s.pv d a&&s.pv d b
 |.or a b=>s.pv d a||s.pv d b||s.gN (.or a b)
 |.iff a b=>a.beq b||(s.pv d a&&s.pv d b)||(s.nv d a&&s.nv d b)||s.gN (.iff a b)
 |.si a=>s.by d (Lf.plus 1 (s.rN a) ([],-1))||s.by d (Lf.plus (-1) (s.rN a) ([],-1))||s.gN (.si a)
def Sk.nv(s:Sk)(d:Nat):BE->Bool
 |.c x=>!x||s.by d ([],-1)
 |.v k=>s.gN (.not (.v k))
 |.lt a b=>s.by d (s.diff b a)
 |.le a b=>s.by d (Lf.plus 1 (s.diff b a) ([],-1))
 |.eq a b=>s.by d (Lf.plus 1 (s.diff a b) ([],-1))||s.by d (Lf.plus 1 (s.diff b a) ([],-1))||s.gN (.not (.eq a b))
 |.not a=>s.pv d a
 |.and a b=>s.nv d a||s.nv d b||s.gN (.not (.and a b))
 |.or a b=>s.nv d a&&s.nv d b
 |.iff a b=>(s.pv d a&&s.nv d b)||(s.nv d a&&s.pv d b)
 |.si a=>s.by d (s.rN a)&&s.by d (Lf.plus (-1) (s.rN a) ([],0))
end
def B5(k:Nat)(a:A):List (Nat×A)->List (Nat×A)
 | []=>[]
 |(j,x)::r=>if Nat.beq j k then(j,a)::r else(j,x)::B5 k a r
def cdiv(a b:Int):Int:=-((-a)/b)
def Sk.bound(s:Sk)(l:Lf)(c:Int)(e:IE):List (Nat×A):=
 match s.low ((Lf.plus (-1) l ([(c,e)],0)).1)with
 |none=>s.g
 | some nr=>
   let m:=nr+((-1)*l.2+0)
   match e with
   | .v k=>match s.find k with
     |some (.i lo hi)=>if 0<c then B5 k (.i (max lo (cdiv m c)) hi) s.g else if c<0 then B5 k (.i lo (min hi ((-m)/(-c)))) s.g else s.g
     |_=>s.g
   | .len k=>match s.find k with
     | some (.l n0 n1 cs)=>if 0<c then B5 k (.l (max n0 (cdiv m c)) n1 cs) s.g else if c<0 then B5 k (.l n0 (some (match n1 with
       |some y=>min y ((-m)/(-c))
       |none=>(-m)/(-c))) cs) s.g else s.g
     |_=>s.g
   |_=>s.g
def TF:List (Int×IE)->List (Int×IE)->Bool
 | [],[]=>true
 |x::xs,y::ys=>decide (x.1=y.1)&&(x.2.beq y.2&&TF xs ys)
 |_,_=>false
def Sk.qM(s:Sk)(l:Lf):Sk:=
 if s.te l||s.q.any (fun h=>decide (h.2<=l.2)&&TF h.1 l.1)then s else
 let s':=l.1.foldr (fun t s=>{s with g:=s.bound l t.1 t.2}) s
 {s' with q:=l::s'.q}
def Sk.qN(s:Sk):Nat->Lf->Sk
 |0,l=>s.qM l
 | n+1,l=>match s.fork l l.1 with
   |some (1,x,y)=>Sk.qN (Sk.qN (s.qM l) n x) n y
   |_=>s.qM l
def Sk.eG(s:Sk)(l:Lf):Sk:=s.qN 2 l
def TG(a:Rg):Bool:=match a with
 |(some x,some y)=>decide (mn<=x/\y<=mx)
 |_=>false
def leI(a:Rg)(n:Int):Bool:=match a.2 with
 |some y=>decide (y<=n)
 |none=>false
def Sk.mz(s:Sk)(a b:IE)(st:Int):Sk:=match a with
 |.wrap .u64 x=>if TG (s.iv x)&&leI (s.iv b) (mx+st)then(s.eG (s.rN x)).eG (Lf.plus 1 (s.diff x b) ([],-st))else s
 |_=>s
def Sk.fact(s:Sk)(p:BE):Sk:=if s.gN p then s else {s with f:=p::s.f}
mutual
def Sk.add(s:Sk):BE->Sk
 |.c true=>s
 | .lt a b=>(match b with
   |.len k=>Sk.fact (Sk.mz (s.eG (Lf.plus 1 (s.diff a b) ([],-1))) a b 1) (.lt a b)
   |_=>Sk.mz (s.eG (Lf.plus 1 (s.diff a b) ([],-1))) a b 1)
 |.le a b=>Sk.mz (s.eG (s.diff a b)) a b 0
 |.eq a b=>(s.eG (s.diff a b)).eG (s.diff b a)
 |.not a=>s.sub a
 |.and a b=>Sk.add (Sk.add s a) b
 |.or a b=>if s.nv 1 a then s.add b else if s.nv 1 b then s.add a else s.fact (.or a b)
 |.iff a b=>if s.pv 1 a then s.add b else if s.pv 1 b then s.add a else if s.nv 1 a then s.sub b else if s.nv 1 b then s.sub a else s.fact (.iff a b)
 |p=>s.fact p
def Sk.sub(s:Sk):BE->Sk
 |.c false=>s
 |.lt a b=>Sk.mz (s.eG (s.diff b a)) b a 0
 |.le a b=>Sk.mz (s.eG (Lf.plus 1 (s.diff b a) ([],-1))) b a 1
 |.eq a b=>if s.by 1 (s.diff a b)then s.eG (Lf.plus 1 (s.diff a b) ([],-1))else if s.by 1 (s.diff b a)then s.eG (Lf.plus 1 (s.diff b a) ([],-1))else s.fact (.not (.eq a b))
 |.not a=>s.add a
 |.and a b=>if s.pv 1 a then s.sub b else if s.pv 1 b then s.sub a else s.fact (.not (.and a b))
 |.or a b=>Sk.sub (Sk.sub s a) b
 |.iff a b=>if s.pv 1 a then s.sub b else if s.pv 1 b then s.sub a else if s.nv 1 a then s.add b else if s.nv 1 b then s.add a else s.fact (.not (.iff a b))
 |.si a=>(s.eG (s.rN a)).eG (Lf.plus (-1) (s.rN a) ([],0))
 |p=>s.fact (.not p)
end
def Sk.qO(s:Sk):List BE->Sk
 | []=>s
 |.or a b::r=>Sk.qO (if s.nv 1 a then s.add b else if s.nv 1 b then s.add a else s) r
 |.not (.and a b)::r=>Sk.qO (if s.pv 1 a then s.sub b else if s.pv 1 b then s.sub a else s) r
 |.iff a b::r=>Sk.qO (if s.pv 1 a then s.add b else if s.nv 1 a then s.sub b else if s.pv 1 b then s.add a else if s.nv 1 b then s.sub a else s) r
 |.not (.eq a b)::r=>Sk.qO (s.sub (.eq a b)) r
 |_::r=>Sk.qO s r
def Sk.again(s:Sk):List Lf->Sk
 | []=>s
 |l::r=>Sk.again (l.1.foldr (fun t s=>{s with g:=s.bound l t.1 t.2}) s) r
def Sk.adV(s:Sk):BE->Bool
 |.or a b=>s.pv 0 a||s.pv 0 b
 |.not (.and a b)=>s.nv 0 a||s.nv 0 b
 |.not (.eq a b)=>s.te (Lf.plus 1 (s.diff a b) ([],-1))||s.te (Lf.plus 1 (s.diff b a) ([],-1))
 |_=>false
def Sk.tidy(s:Sk):Sk:={s with f:=s.f.filter fun p=>!s.adV p}
def Sk.close(s:Sk):Sk:=let s':=s.qO s.f;(s'.again (s'.q.take 24)).tidy
def Sk.sa(s:Sk)(p:BE):Sk:=(s.add p).close
def Sk.lI(s:Sk)(p:BE):Sk:=(s.sub p).close
def Lf.all(p:Nat->Bool)(l:Lf):Bool:=l.1.all fun t=>t.2.all p
def Sk.fG(s:Sk)(p:Nat->Bool):Sk:=⟨s.g.filter fun x=>p x.1,s.q.filter (Lf.all p),s.f.filter (BE.all p)⟩
def im(base n:Nat):Nat->Bool:=fun k=>Nat.blt k base||Nat.ble (base+n) k
def gl:List (Int×Int)->List (Int×Int)->List (Int×Int)
 |c::cs,d::ds=>(min c.1 d.1,max c.2 d.2)::gl cs ds
 |_,_=>[]
def L6:Option Int->Bool
 |some y=>decide (y<=0)
 |none=>false
def A.yj:A->A->A
 |.i x y,.i z w=>.i (min x z) (max y w)
 |.b,.b=>.b
 |.l x y u,.l z w v=>.l (min x z) (o2 max y w) (if L6 y then v else if L6 w then u else gl u v)
 |_,_=>.t
def B6:List Rg->List (Int×Int)
 |(some x,some y)::r=>(x,y)::B6 r
 |_=>[]
def Sk.wh(s:Sk):Sum IE BE->Rg
 |.inl e=>s.iv e
 |.inr _=>(some 0,some 1)
def Hc:List (List (Int×Int))->List (Int×Int)
 | []=>[]
 | [c]=>c
 |c::cs=>gl c (Hc cs)
def Sk.de(s:Sk):DE->A
 | .i e=>match s.iv e with
   |(some x,some y)=>.i x y
   |_=>.t
 |.b _=>.b
 | .l k=>match s.find k with
   |some (.l a b c)=>.l a b c
   |_=>.l 0 none []
 |.nil=>.l 0 (some 0) []
 |.rows es=>.l es.length (some es.length) (Hc (es.map fun e=>B6 [s.iv e]))
 |.sU xs=>.l 1 (some 1) (B6 (xs.map s.wh))
def ym:List (Int×Int)->List (Int×Int)->Bool
 |_,[]=>true
 |c::cs,d::ds=>decide (d.1<=c.1)&&(decide (c.2<=d.2)&&ym cs ds)
 | [],_::_=>false
def DE.L7:DE->Option IE
 |.l k=>some (.len k)
 |.nil=>some (.c 0)
 |.rows es=>some (.c es.length)
 |.sU _=>some (.c 1)
 |_=>none
def Sk.fits(s:Sk)(d:DE):A->Bool
 |.t=>true
 | .i lo hi=>match d with
   |.i e=>s.pv 2 (.le (.c lo) e)&&s.pv 2 (.le e (.c hi))
   |_=>false
 | .b=>match d with
   |.b _=>true
   |_=>false
 | .l n0 n1 cs=>match d.L7,s.de d with
   | some n,.l a b c=>(decide (n0<=a)||s.pv 3 (.le (.c n0) n))&&(match n1 with
     |none=>true
     |some y=>s.pv 3 (.le n (.c y)))&&(ym c cs||(match b with
     |some z=>decide (z<=0)
     |none=>false))
   |_,_=>false
def Sk.ln(s:Sk):List DE->List A->Bool
 | [],[]=>true
 |d::ds,a::as=>s.fits d a&&s.ln ds as
 |_,_=>false
def B7(cs:List (Int×Int))(j:Nat)(x:Rg):List (Int×Int):=match cs,j with
 | [],_=>[]
 | c::cs,0=>match x with
   |(some a,some b)=>(min c.1 a,max c.2 b)::cs
   |_=>[]
 |c::cs,j+1=>c::B7 cs j x
def DT(cs:List (Int×Int))(j:Nat):List Rg->List (Int×Int)
 | []=>cs
 |x::xs=>DT (B7 cs j x) (j+1) xs
def Sk.iC(s:Sk)(k:Nat):Int×Option Int×List (Int×Int):=match s.find k with
 |some (.l a b c)=>(a,b,c)
 |_=>(0,none,[])
def vf(x:Int×Option Int×List (Int×Int)):Bool:=match x.2.1 with
 |some y=>decide (y<=0)
 |none=>false
def vg(id:Nat):List (Sum IE BE)->Nat->List BE
 | [],_=>[]
 |.inl e::r,j=>.eq (.get id (.c 0) j) e::vg id r (j+1)
 |.inr _::r,j=>vg id r (j+1)
def Sk.K3(s:Sk)(id:Nat):cZ->A×List BE
 | .lit rows=>(.l rows.length (some rows.length) (Hc (rows.map fun r=>B6 (r.map s.wh))),match rows with
   |r::rs=>if rs.length<=1/\r.length<=2 then vg id r 0 else []
   | []=>[])
 | .app a b=>let x:=s.iC a;let y:=s.iC b
   (.l (x.1+y.1) (o2 (· + ·) x.2.1 y.2.1) (if vf x then y.2.2 else if vf y then x.2.2 else gl x.2.2 y.2.2),.eq (.len id) (.add (.len a) (.len b))::if 1<=x.1/\x.2.2.length<=2 then(List.range x.2.2.length).map fun j=>.eq (.get id (.c 0) j) (.get a (.c 0) j)else [])
 | .set a i j x=>let y:=s.iC a
   (.l y.1 y.2.1 (B7 y.2.2 j (s.wh x)),[.eq (.len id) (.len a)])
 | .xm a i xs=>let y:=s.iC a
   (.l y.1 y.2.1 (gl y.2.2 (B6 (xs.map s.wh))),[.eq (.len id) (.len a)])
 | .zu a i j xs=>let y:=s.iC a
   (.l y.1 y.2.1 (DT y.2.2 j (xs.map s.wh)),[.eq (.len id) (.len a)])
 | .take a n=>let y:=s.iC a
   (.l 0 (Rh (none,y.2.1) (L4 (s.iv n) (some 0,some 0))).2 y.2.2,if s.pv 2 (.le n (.len a))&&s.pv 2 (.le (.c 0) n)then [.eq (.len id) n]else [])
 |.rep n row=>(.l 0 (L4 (s.iv n) (some 0,some 0)).2 (row.map fun x=>(x,x)),if s.pv 2 (.le (.c 0) n)then [.eq (.len id) n]else [])
 |.cp a=>let y:=s.iC a;(.l y.1 y.2.1 y.2.2,[.eq (.len id) (.len a)])
 | .Qh a b=>let x:=s.iC a;let y:=s.iC b
   (.l x.1 x.2.1 (if vf x then y.2.2 else if vf y then x.2.2 else gl x.2.2 y.2.2),[.eq (.len id) (.len a)])
 | .sub a _ _ j=>(.l 0 (match(s.iC a).2.2[j]? with
   |some c=>some (max c.2 0)
   |none=>none) [],[])
 |.zA rows=>(.l rows.length (some rows.length) [],[])
def DE.asI:DE->Option IE
 |.i e=>some e
 |_=>none
def DE.asB:DE->Option BE
 |.b e=>some e
 |_=>none
def DE.asL:DE->Option Nat
 |.l k=>some k
 |_=>none
inductive Sb where
 |nm (k:Nat)
 |de (d:DE)
 |no
def Sb.int:Sb->Option IE
 |.nm k=>some (.v k)
 |.de d=>d.asI
 |.no=>none
def Sb.bool:Sb->Option BE
 |.nm k=>some (.v k)
 |.de d=>d.asB
 |.no=>none
def Sb.len:Sb->Option IE
 |.nm k=>some (.len k)
 |.de d=>d.L7
 |.no=>none
def Sb.list:Sb->Option Nat
 |.nm k=>some k
 |.de d=>d.asL
 |.no=>none
def Sb.cell:Sb->Option Int->Nat->Option IE
 |.de .nil,_,_=>some (.c 0)
 |.de (.rows es),some m,0=>if 0<=m then es[m.toNat]? else none
 | .de (.sU xs),some 0,j=>match xs[j]? with
   |some (.inl e)=>some e
   |_=>none
 |_,_,_=>none
def p2{α β γ:Type}(f:α->β->γ):Option α->Option β->Option γ
 |some a,some b=>some (f a b)
 |_,_=>none
def p1{α β:Type}(f:α->β):Option α->Option β
 |some a=>some (f a)
 |none=>none
def IE.put(σ:Nat->Sb):IE->Option IE
 |.v k=>(σ k).int
 |.c n=>some (.c n)
 |.add a b=>p2 .add (a.put σ) (b.put σ)
 |.sub a b=>p2 .sub (a.put σ) (b.put σ)
 |.mul a b=>p2 .mul (a.put σ) (b.put σ)
 |.tdiv a b=>p2 .tdiv (a.put σ) (b.put σ)
 |.tmod a b=>p2 .tmod (a.put σ) (b.put σ)
 |.ediv a n=>p1 (.ediv · n) (a.put σ)
 |.emod a n=>p1 (.emod · n) (a.put σ)
 |.shl a b=>p2 .shl (a.put σ) (b.put σ)
 |.shr a b=>p2 .shr (a.put σ) (b.put σ)
 |.wrap k a=>p1 (.wrap k) (a.put σ)
 |.max a b=>p2 .max (a.put σ) (b.put σ)
 |.min a b=>p2 .min (a.put σ) (b.put σ)
 |.bits o k a b=>p2 (.bits o k) (a.put σ) (b.put σ)
 |.len k=>(σ k).len
 | .get k i j=>match(σ k).cell i.Yz j with
   |some e=>some e
   |none=>p2 (fun l i=>.get l i j) (σ k).list (i.put σ)
 |.kq i n a b=>p2 (fun i x=>.kq i n x.1 x.2) (i.put σ) (p2 Prod.mk (a.put σ) (b.put σ))
def BE.put(σ:Nat->Sb):BE->Option BE
 |.v k=>(σ k).bool
 |.c x=>some (.c x)
 |.lt a b=>p2 .lt (a.put σ) (b.put σ)
 |.le a b=>p2 .le (a.put σ) (b.put σ)
 |.eq a b=>p2 .eq (a.put σ) (b.put σ)
 |.not a=>p1 .not (a.put σ)
 |.and a b=>p2 .and (a.put σ) (b.put σ)
 |.or a b=>p2 .or (a.put σ) (b.put σ)
 |.iff a b=>p2 .iff (a.put σ) (b.put σ)
 |.si a=>p1 .si (a.put σ)
def R0:Nat:=1000000
structure Cn where
 args:List A
 pre:List BE
 res:List A
 post:List BE
 deriving Inhabited
structure Iv where
 as:List A
 ex:List BE
 me:IE
 deriving Inhabited
structure Lc where
 id:Nat
 base:Nat
 iv:Iv
structure An where
 loops:List (Nat×Nat×Iv)
 eO:List (List BE×BE)
 er:Int×Int:=(mn,mx)
def IE.names:IE->List Nat
 |.v k=>[k]
 |.c _=>[]
 |.add a b=>a.names++b.names
 |.sub a b=>a.names++b.names
 |.mul a b=>a.names++b.names
 |.tdiv a b=>a.names++b.names
 |.tmod a b=>a.names++b.names
 |.ediv a _=>a.names
 |.emod a _=>a.names
 |.shl a b=>a.names++b.names
 |.shr a b=>a.names++b.names
 |.wrap _ a=>a.names
 |.max a b=>a.names++b.names
 |.min a b=>a.names++b.names
 |.bits _ _ a b=>a.names++b.names
 |.len k=>[k]
 |.get k i _=>k::i.names
 |.kq i _ a b=>i.names++a.names++b.names
def BE.names:BE->List Nat
 |.v k=>[k]
 |.c _=>[]
 |.lt a b=>a.names++b.names
 |.le a b=>a.names++b.names
 |.eq a b=>a.names++b.names
 |.not a=>a.names
 |.and a b=>a.names++b.names
 |.or a b=>a.names++b.names
 |.iff a b=>a.names++b.names
 |.si a=>a.names
def Iv.names(v:Iv):List Nat:=v.me.names++v.ex.flatMap BE.names
abbrev Vc:=Sk×BE
def Sk.L9(s:Sk)(d:Nat):Bool:=s.q.any fun h=>s.by d (Lf.plus (-1) h ([],-1))
def Sk.pw(s:Sk)(d:Nat):BE->Bool
 |.and a b=>s.pw d a&&s.pw d b
 |.or a b=>s.pv d (.or a b)||(s.lI a).close.pw d b
 |p=>s.pv d p||s.L9 1
def Sk.so(s:Sk)(eO:List (List BE×BE))(p:BE):Bool:=s.pw 2 p||(eO.any fun l=>l.1.all (s.pv 3)&&(s.sa l.2).pw 3 p)||s.pw 3 p
def Sk.ask(s:Sk)(eO:List (List BE×BE))(p:BE):List Vc:=if s.so eO p then []else [(s,p)]
def bad(s:Sk):Vc:=(s,.c false)
def Sk.FG(s:Sk)(eO:List (List BE×BE))(d:DE):A->List Vc
 | .i lo hi=>match d with
   |.i e=>s.ask eO (.le (.c lo) e)++s.ask eO (.le e (.c hi))
   |_=>[bad s]
 |a=>if s.fits d a then []else [bad s]
def Sk.qP(s:Sk)(eO:List (List BE×BE)):List DE->List A->List Vc
 | [],[]=>[]
 |d::ds,a::as=>s.FG eO d a++s.qP eO ds as
 |_,_=>[bad s]
def Sk.asks(s:Sk)(eO:List (List BE×BE))(σ:Nat->Sb)(ps:List BE):List Vc:=ps.flatMap fun p=>match p.put σ with
 |some p'=>s.ask eO p'
 |none=>[bad s]
def mA(base:Nat):List A->List (Nat×A)
 | []=>[]
 |a::as=>(base,a)::mA (base+1) as
def zX:A->A
 |.i _ _=>.i 0 0
 |.b=>.b
 |.l _ _ _=>.l 0 (some 0) []
 |.t=>.t
def o8:List CT->List A->Bool
 | [],[]=>true
 | c::cs,a::as=>(match c,a with
   |_,.t=>true
   |.c (.i _),.i _ _=>true
   |.c .f,.i _ _=>true
   |.c .b,.b=>true
   |.s _ _,.l _ _ _=>true
   |.n _ _,.l _ _ _=>true
   |_,_=>false)&&o8 cs as
 |_,_=>false
def Jz(base n:Nat)(bJ:List DE)(k:Nat):Sb:=if Nat.ble base k&&Nat.blt k (base+n)then(match bJ[k-base]? with
 |some d=>.de d
 |none=>.no)else .nm k
def qQ(args:List DE)(m base:Nat)(k:Nat):Sb:=if Nat.blt k args.length then(match args[k]? with
 |some d=>.de d
 |none=>.no)else if Nat.ble R0 k&&Nat.blt k (R0+m)then .nm (base+(k-R0))else .no
def Ma(n:Nat)(bJ:List DE)(k:Nat):Sb:=if Nat.blt k n then .nm k else if Nat.ble R0 k then(match bJ[k-R0]? with
 |some d=>.de d
 |none=>.no)else .no
def Sk.lJ(s:Sk):List BE->Sk
 | []=>s
 |p::ps=>Sk.lJ (s.sa p) ps
def free(adW:List Nat)(base n:Nat):Bool:=adW.all (im base n)
def DE.off(base n:Nat):DE->Bool
 |.i e=>e.all (im base n)
 |.b e=>e.all (im base n)
 |.l k=>im base n k
 |.nil=>true
 |.rows es=>es.all (IE.all (im base n))
 |.sU xs=>xs.all (ib (im base n))
def aw.mW(K:Nat->Option Cn)(key:FuncId->Nat)(an:An)(out:Cn):aw->Sk->List Lc->Nat->List Nat->List Vc
 |.ret bJ,s,_,_,_=>s.qP an.eO bJ out.res++s.asks an.eO (Ma out.args.length bJ) out.post
 |.stuck _,s,_,_,_=>s.ask an.eO (.c false)
 |.ev (.aG p) t,s,ls,d,pr=>if s.pv 0 p then t.mW K key an out s ls d pr else s.ask an.eO p++t.mW K key an out (s.sa p) ls d pr
 | .ev (.call f g args res base) t,s,ls,d,pr=>match K (key f)with
   |none=>[bad s]
   | some c=>
     let m:=c.res.length
     let s1:=s.sa g
     let vs:=s1.qP an.eO args c.args++s1.asks an.eO (qQ args 0 base) c.pre
     let ok:=free pr base m&&(args.all (DE.off base m)&&(g.all (im base m)&&(o8 (bD res) c.res&&Nat.blt args.length R0)))
     let s2:=s.fG (im base m)
     let σ:=qQ args m base
     let s3:Sk:={s2 with g:=mA base (if g.beq (.c true)then c.res else c.res.map fun a=>a.yj (zX a))++s2.g}
     let s4:=s3.lJ (c.post.filterMap fun p=>(p.put σ).map fun p'=>if g.beq (.c true)then p' else .or (.not g) p')
     vs++((if ok then []else [bad s])++t.mW K key an out s4 ls d pr)
 |.ev (.ch id op) t,s,ls,d,pr=>
     let x:=s.K3 id op
     let s2:=s.fG (im id 1)
     let s3:Sk:={s2 with g:=(id,x.1)::s2.g}
     (if free pr id 1&&op.all (im id 1)then []else [bad s])++t.mW K key an out (s3.lJ x.2) ls d pr
 |.ev (.dd _ _) _,s,_,_,_=>[bad s]
 |.ite c a b,s,ls,d,pr=>if s.pv 1 c then a.mW K key an out (s.sa c) ls d pr else if s.nv 1 c then b.mW K key an out (s.lI c) ls d pr
     else a.mW K key an out (s.sa c) ls d pr++b.mW K key an out (s.lI c) ls d pr
 | .loop id entry _ base body,s,ls,d,pr=>match an.loops.find? fun x=>Nat.beq x.1 id&&Nat.beq x.2.1 base with
   |none=>[bad s]
   | some (_,_,v)=>
     let n:=v.as.length
     let s2:=s.fG (im base n)
     let s3:Sk:={s2 with g:=mA base v.as++s2.g}
     s.qP an.eO entry v.as++(s.asks an.eO (Jz base n entry) v.ex++((if free pr base n then []else [bad s]) ++
       body.mW K key an out (s3.lJ v.ex) (⟨id,base,v⟩::ls) d (v.names++pr)))
 | .again id bJ,s,ls,_,_=>match ls.find? fun l=>Nat.beq l.id id with
   |none=>[bad s]
   | some l=>
     let σ:=Jz l.base l.iv.as.length bJ
     s.qP an.eO bJ l.iv.as++(s.asks an.eO σ l.iv.ex++(s.ask an.eO (.lt (.c 0) l.iv.me)++match l.iv.me.put σ with
       |some me=>s.ask an.eO (.lt me l.iv.me)
       |none=>[bad s]))
 |.fail e,s,_,d,_=>if d=0 then [bad s]else s.ask an.eO (.le (.c an.er.1) e)++s.ask an.eO (.le e (.c an.er.2))
 |.ak5 x tp t,s,ls,d,pr=>
     let s2:=s.fG (im x 1)
     (if free pr x 1 then []else [bad s])++((if an.er.2<an.er.1 then []else tp.mW K key an out {s2 with g:=(x,.i an.er.1 an.er.2)::s2.g} ls d pr)++t.mW K key an out s ls (d+1) pr)
 |.pop t,s,ls,d,pr=>if d=0 then [bad s]else t.mW K key an out s ls (d-1) pr
def o9(c:Cn):Sk:=Sk.lJ {g:=mA 0 c.args,q:=[],f:=[] } c.pre
def wi(K:Nat->Option Cn)(key:FuncId->Nat)(an:An)(out:Cn)(t:aw):List Vc:=t.mW K key an out (o9 out) [] 0 (List.range out.args.length)
end Go.Sx
namespace Go.Sx
def ckA:CK->Int×Int
 |.i k=>(k.min,k.max)
 |.b=>(0,1)
 |.f=>(0,18446744073709551615)
def ctA:CT->A
 |.c (.i k)=>.i k.min k.max
 |.c .b=>.b
 |.c .f=>.i 0 18446744073709551615
 |.s _ ks=>.l 0 none (ks.map ckA)
 |.n _ _=>.l 0 none []
def Z3(s:bN):Cn:=⟨(bD s.args).map ctA,[],(bD s.res).map ctA,[]⟩
theorem vh{a b:Nat}(h:Nat.beq a b=true):a=b:=Nat.eq_of_beq_eq_true h
theorem IE.beq_eq:∀ {a b:IE},a.beq b=true->a=b:=by
 intro a;induction a with
 |v k=>intro b h;cases b<;>simp_all[IE.beq]<;>exact vh h
 |c n=>intro b h;cases b<;>simp_all[IE.beq]
 |ediv a n ih=>intro b h;cases b<;>simp[IE.beq]at h;obtain⟨h1,h2⟩:=h;rw[h1,ih h2]
 |emod a n ih=>intro b h;cases b<;>simp[IE.beq]at h;obtain⟨h1,h2⟩:=h;rw[h1,ih h2]
 |wrap k a ih=>intro b h;cases b<;>simp[IE.beq,CKb]at h;obtain⟨h1,h2⟩:=h;rw[h1,ih h2]
 |bits o k x y Kh Kz=>intro b h;cases b<;>simp[IE.beq,CKb]at h;obtain⟨h1,h2,h3,h4⟩:=h;rw[h1,h2,Kh h3,Kz h4]
 |len k=>intro b h;cases b<;>simp_all[IE.beq]<;>exact vh h
 |get k i j ih=>intro b h;cases b<;>simp[IE.beq]at h;obtain⟨h1,h2,h3⟩:=h;rw[h1,h2,ih h3]
 |kq i n x y rW rX Un=>intro b h;cases b<;>simp[IE.beq]at h;obtain⟨h1,h2,h3,h4⟩:=h;rw[h1,rW h2,rX h3,Un h4]
 |_ x y Kh Kz=>intro b h;cases b<;>simp[IE.beq]at h;rw[Kh h.1,Kz h.2]
theorem BE.beq_eq:∀ {a b:BE},a.beq b=true->a=b:=by
 intro a;induction a with
 |v k=>intro b h;cases b<;>simp_all[BE.beq]<;>exact vh h
 |c n=>intro b h;cases b<;>simp_all[BE.beq]
 |lt x y=>intro b h;cases b<;>simp[BE.beq]at h;rw[IE.beq_eq h.1,IE.beq_eq h.2]
 |le x y=>intro b h;cases b<;>simp[BE.beq]at h;rw[IE.beq_eq h.1,IE.beq_eq h.2]
 |eq x y=>intro b h;cases b<;>simp[BE.beq]at h;rw[IE.beq_eq h.1,IE.beq_eq h.2]
 |not x ih=>intro b h;cases b<;>simp[BE.beq]at h;rw[ih h]
 |si x=>intro b h;cases b<;>simp[BE.beq]at h;rw[IE.beq_eq h]
 |_ x y Kh Kz=>intro b h;cases b<;>simp[BE.beq]at h;rw[Kh h.1,Kz h.2]
def In(r:Rg)(n:Int):Prop:=(∀x,r.1=some x->x<=n)/\(∀y,r.2=some y->n<=y)
theorem In.non{n:Int}:In (none,none) n:=⟨fun _ h=>(by cases h),fun _ h=>(by cases h)⟩
theorem oy{x y n:Int}:In (some x,some y) n↔x<=n/\n<=y:=⟨fun h=>⟨h.1 x rfl,h.2 y rfl⟩,fun h=>⟨fun _ e=>by cases e;exact h.1,fun _ e=>by cases e;exact h.2⟩⟩
theorem jy{f:Int->Int->Int}{a b:Option Int}{z:Int}(h:o2 f a b=some z):∃x y,a=some x/\b=some y/\z=f x y:=by
 cases a<;>cases b<;>simp_all[o2]
theorem Vo{a b:Rg}{m n:Int}(ha:In a m)(hb:In b n):In (o2 (· + ·) a.1 b.1,o2 (· + ·) a.2 b.2) (m+n):=by
 constructor
 . intro z h;obtain⟨x,y,h1,h2,rfl⟩:=jy h;have:=ha.1 x h1;have:=hb.1 y h2;show x+y<=_;omega
 . intro z h;obtain⟨x,y,h1,h2,rfl⟩:=jy h;have:=ha.2 x h1;have:=hb.2 y h2;show _<=x+y;omega
theorem Vp{a b:Rg}{m n:Int}(ha:In a m)(hb:In b n):In (o2 (· - ·) a.1 b.2,o2 (· - ·) a.2 b.1) (m-n):=by
 constructor
 . intro z h;obtain⟨x,y,h1,h2,rfl⟩:=jy h;have:=ha.1 x h1;have:=hb.2 y h2;show x-y<=_;omega
 . intro z h;obtain⟨x,y,h1,h2,rfl⟩:=jy h;have:=ha.2 x h1;have:=hb.1 y h2;show _<=x-y;omega
theorem Vq{x y z w m n:Int}(h1:x<=m)(h2:m<=y)(h3:z<=n)(h4:n<=w):(LX (x*z) (x*w) (y*z) (y*w)).1<=m*n/\m*n<=(LX (x*z) (x*w) (y*z) (y*w)).2:=by
 have key:∀(a b c d t:Int),a<=t->t<=b->∀k:Int,min (a*k) (b*k)<=t*k/\t*k<=max (a*k) (b*k):=by
   intro a b c d t ha hb k;rcases Int.le_total 0 k with hk|hk
   . have e1:=Int.mul_le_mul_of_nonneg_right ha hk;have e2:=Int.mul_le_mul_of_nonneg_right hb hk;omega
   . have e1:=Int.mul_le_mul_of_nonpos_right ha hk;have e2:=Int.mul_le_mul_of_nonpos_right hb hk;omega
 have a1:=key x y 0 0 m h1 h2 n;have a2:=key z w 0 0 n h3 h4 x;have a3:=key z w 0 0 n h3 h4 y;rw[Int.mul_comm n x,Int.mul_comm z x,Int.mul_comm w x]at a2;rw[Int.mul_comm n y,Int.mul_comm z y,Int.mul_comm w y]at a3;unfold LX;constructor
 . show min (min (x*z) (x*w)) (min (y*z) (y*w))<=_;omega
 . show _<=max (max (x*z) (x*w)) (max (y*z) (y*w));omega
theorem Hd{a b:Rg}{m n:Int}(ha:In a m)(hb:In b n):In (mulR a b) (m*n):=by
 unfold mulR;split
 . rename_i x y z w;obtain⟨h1,h2⟩:=oy.1 ha;obtain⟨h3,h4⟩:=oy.1 hb;exact oy.2 (Vq h1 h2 h3 h4)
 . rename_i x _ z _ _;split
   . rename_i h;refine⟨fun t e=>?_,fun _ e=>(by cases e)⟩
     cases e;have h1:=ha.1 x rfl;have h2:=hb.1 z rfl;exact Int.mul_le_mul h1 h2 h.2 (by omega)
   . exact In.non
 . exact In.non
theorem TH(m:Int):0<=m*m:=by
 rcases Int.le_total 0 m with h|h
 . exact Int.mul_nonneg h h
 . exact Int.mul_nonneg_of_nonpos_of_nonpos h h
theorem Vr{a:Rg}{m:Int}(ha:In a m):In (sqR a) (m*m):=by
 unfold sqR;split
 . rename_i x y;obtain⟨h1,h2⟩:=oy.1 ha;have n0:0<=m*m:=by exact TH m
   refine oy.2 ⟨?_,?_⟩
   . split
     . rename_i h;exact Int.mul_le_mul h1 h1 h (by omega)
     . split
       . rename_i h' h;have:=Int.mul_le_mul (show -y<=-m by omega) (show -y<=-m by omega) (by omega) (by omega)
         simpa[Int.neg_mul_neg]using this
       . exact n0
   . rcases Int.le_total 0 m with h|h
     . have:=Int.mul_le_mul h2 h2 h (by omega);omega
     . have:=Int.mul_le_mul (show -m<=-x by omega) (show -m<=-x by omega) (by omega) (by omega)
       simp only[Int.neg_mul_neg]at this;omega
 . refine⟨fun t e=>?_,fun _ e=>(by cases e)⟩
   cases e;exact TH m
theorem wX{a:Rg}{m t:Int}(ha:In a m)(h:t.natAbs<=m.natAbs):In (Jx a) t:=by
 unfold Jx;split
 . rename_i x y;obtain⟨h1,h2⟩:=oy.1 ha;exact oy.2 (by omega)
 . exact In.non
theorem Mb{a b:Rg}{m n:Int}(ha:In a m)(hb:In b n):In (LY a b) (m.tdiv n):=by
 have Mc:(m.tdiv n).natAbs<=m.natAbs:=by
   rw[Int.natAbs_tdiv];exact Nat.div_le_self _ _
 unfold LY;split
 . rename_i x y z _;split
   . rename_i hz;obtain⟨h1,h2⟩:=oy.1 ha;have h3:=hb.1 z rfl;have hn:0<n:=by omega
     have hs:n.sign=1:=Int.sign_eq_one_of_pos hn;refine oy.2 ⟨?_,?_⟩
     . split
       . rename_i hx;exact Int.tdiv_nonneg (by omega) (by omega)
       . rcases Int.le_total 0 m with h|h
         . have e1:=Int.tdiv_nonneg h (show 0<=n by omega)
           have e2:=Int.ediv_nonneg (show 0<=-x by omega) (show 0<=z by omega)
           omega
         . have e1:m.tdiv n = -((-m).tdiv n):=by rw[Int.neg_tdiv];omega
           have e2:(-m).tdiv n=(-m)/n:=Int.tdiv_eq_ediv_of_nonneg (by omega)
           have e3:(-m)/n<=(-x)/z:=by
             have a1:(-m)/n<=(-m)/z:=by
               refine Int.le_ediv_of_mul_le (by omega) ?_
               have:=Int.ediv_mul_le (-m) (show n≠0 by omega)
               have q0:=Int.ediv_nonneg (show 0<=-m by omega) (show 0<=n by omega)
               have:=Int.mul_le_mul_of_nonneg_left h3 q0;omega
             have a2:=Int.ediv_le_ediv (show 0<z by omega) (show -m<=-x by omega)
             omega
           omega
     . split
       . rename_i hy;have e1:m.tdiv n = -((-m).tdiv n):=by rw[Int.neg_tdiv];omega
         have:=Int.tdiv_nonneg (show 0<=-m by omega) (show 0<=n by omega)
         omega
       . rcases Int.le_total 0 m with h|h
         . have e2:m.tdiv n=m/n:=Int.tdiv_eq_ediv_of_nonneg h;have a1:m/n<=m/z:=by
             refine Int.le_ediv_of_mul_le (by omega) ?_
             have:=Int.ediv_mul_le m (show n≠0 by omega)
             have q0:=Int.ediv_nonneg h (show 0<=n by omega)
             have:=Int.mul_le_mul_of_nonneg_left h3 q0;omega
           have a2:=Int.ediv_le_ediv (show 0<z by omega) h2
           omega
         . have e1:m.tdiv n = -((-m).tdiv n):=by rw[Int.neg_tdiv];omega
           have:=Int.tdiv_nonneg (show 0<=-m by omega) (show 0<=n by omega)
           have:=Int.ediv_nonneg (show 0<=y by omega) (show 0<=z by omega)
           omega
   . exact wX ha Mc
 . exact wX ha Mc
theorem Md{a b:Rg}{m n:Int}(ha:In a m)(hb:In b n):In (LZ a b) (m.tmod n):=by
 have Mc:(m.tmod n).natAbs<=m.natAbs:=by
   rw[Int.natAbs_tmod];exact Nat.mod_le _ _
 unfold LZ;split
 . rename_i x y z w;split
   . rename_i hz;obtain⟨h1,h2⟩:=oy.1 ha;obtain⟨h3,h4⟩:=oy.1 hb;have cQ:(m.tmod n).natAbs<n.natAbs:=by rw[Int.natAbs_tmod];exact Nat.mod_lt _ (by omega)
     have hp:0<=m->0<=m.tmod n:=fun h=>Int.tmod_nonneg n h
     have hq:m<=0->m.tmod n<=0:=fun h=>by
       have:=Int.tmod_nonneg n (show 0<=-m by omega)
       rw[Int.neg_tmod]at this;omega
     refine oy.2 ⟨?_,?_⟩
     . split
       . exact hp (by omega)
       . rcases Int.le_total 0 m with h|h
         . have:=hp h;omega
         . have:=hq h;omega
     . split
       . exact hq (by omega)
       . rcases Int.le_total 0 m with h|h
         . have:=hp h;omega
         . have:=hq h;omega
   . exact wX ha Mc
 . exact wX ha Mc
theorem yn{a b:Nat}(h:a<=b):(2:Int) ^ a<=2 ^ b:=by
 have:=Nat.pow_le_pow_right (show 0<2 by omega) h
 have e:∀n:Nat,(2:Int) ^ n=((2 ^ n:Nat):Int):=fun n=>by push_cast;rfl
 rw[e,e];exact_mod_cast this
theorem qR(a:Nat):(0:Int)<2 ^ a:=Int.pow_pos (by omega)
theorem Ri{a b:Rg}{m n:Int}(ha:In a m)(hb:In b n):In (Vm a b) (m*2 ^ n.toNat):=by
 unfold Vm;split
 . rename_i z w;split
   . rename_i h;obtain⟨h3,h4⟩:=oy.1 hb;exact Hd ha (oy.2 ⟨yn (by omega),yn (by omega)⟩)
   . exact In.non
 . exact In.non
theorem div_pow{m:Int}{a b:Nat}(h:a<=b):(0<=m->m/2 ^ b<=m/2 ^ a)/\(m<=0->m/2 ^ a<=m/2 ^ b):=by
 have pa:=qR a;have pb:=qR b;have pm:=yn h;constructor
 . intro h0;refine Int.le_ediv_of_mul_le pa ?_;have q0:=Int.ediv_nonneg h0 (Int.le_of_lt pb);have:=Int.mul_le_mul_of_nonneg_left pm q0;have:=Int.ediv_mul_le m (show(2:Int) ^ b≠0 by omega)
   omega
 . intro h0;refine Int.le_ediv_of_mul_le pb ?_;have q0:m/2 ^ a<=0:=Int.ediv_nonpos_of_nonpos_of_neg h0 pa;have e1:=Int.mul_nonneg (show 0<=-(m/2 ^ a)by omega) (show 0<=(2:Int) ^ b-2 ^ a by omega)
   have:=Int.ediv_mul_le m (show(2:Int) ^ a≠0 by omega)
   have e2: -(m/2 ^ a)*((2:Int) ^ b-2 ^ a)=m/2 ^ a*2 ^ a-m/2 ^ a*2 ^ b:=by grind
   omega
theorem He{m:Int}{k:Nat}{x y:Int}(h1:x<=m)(h2:m<=y):min x 0<=m/2 ^ k/\m/2 ^ k<=max y 0:=by
 have a:=div_pow (m:=m) (show 0<=k by omega)
 simp only[Int.pow_zero,Int.ediv_one]at a;have pk:=qR k;rcases Int.le_total 0 m with h|h
 . have:=a.1 h;have:=Int.ediv_nonneg h (Int.le_of_lt pk);omega
 . have:=a.2 h;have:=Int.ediv_nonpos_of_nonpos_of_neg h pk;omega
theorem Rj{a b:Rg}{m n:Int}(ha:In a m)(hb:In b n):In (Vn a b) (m/2 ^ n.toNat):=by
 unfold Vn;split
 . rename_i x y z w;obtain⟨h1,h2⟩:=oy.1 ha;split
   . rename_i h;obtain⟨h3,h4⟩:=oy.1 hb;have c1:=div_pow (m:=x) (show z.toNat<=n.toNat by omega)
     have c2:=div_pow (m:=x) (show n.toNat<=w.toNat by omega)
     have c3:=div_pow (m:=y) (show z.toNat<=n.toNat by omega)
     have c4:=div_pow (m:=y) (show n.toNat<=w.toNat by omega)
     have d1:=Int.ediv_le_ediv (qR n.toNat) h1;have d2:=Int.ediv_le_ediv (qR n.toNat) h2;refine oy.2 ⟨?_,?_⟩
     . rcases Int.le_total 0 x with h|h
       . have:=c2.1 h;omega
       . have:=c1.2 h;omega
     . rcases Int.le_total 0 y with h|h
       . have:=c3.1 h;omega
       . have:=c4.2 h;omega
   . exact oy.2 (He h1 h2)
 . rename_i x y _ _ _;obtain⟨h1,h2⟩:=oy.1 ha;exact oy.2 (He h1 h2)
 . exact In.non
theorem eX{k:IntKind}{n:Int}:k.min<=k.wrap n/\k.wrap n<=k.max:=Go.wrap_within k n
theorem B9{k:IntKind}{n:Int}(h:k.min<=n/\n<=k.max):k.wrap n=n:=by
 obtain⟨h1,h2⟩:=h;cases k<;>simp[IntKind.wrap,IntKind.min,IntKind.max,IntKind.signed,IntKind.bits]at * <;>omega
theorem Me{a:Rg}{k:IntKind}{m:Int}(ha:In a m):In (L0 k a) (k.wrap m):=by
 unfold L0;split
 . rename_i x y;obtain⟨h1,h2⟩:=oy.1 ha;split
   . rename_i h;rw[B9 (by omega)]
     exact oy.2 ⟨h1,h2⟩
   . exact oy.2 eX
 . exact oy.2 eX
theorem DU{a b:Rg}{m:Int}(h:In a m\/In b m):In (TE a b) m:=by
 constructor
 . intro z e;obtain⟨x,y,h1,h2,rfl⟩:=jy e;rcases h with h|h
   . have:=h.1 x h1;show min x y<=_;omega
   . have:=h.1 y h2;show min x y<=_;omega
 . intro z e;obtain⟨x,y,h1,h2,rfl⟩:=jy e;rcases h with h|h
   . have:=h.2 x h1;show _<=max x y;omega
   . have:=h.2 y h2;show _<=max x y;omega
theorem Hf{a b:Rg}{m n:Int}(ha:In a m)(hb:In b n):In (Rh a b) (min m n):=by
 obtain⟨a1,a2⟩:=a;obtain⟨b1,b2⟩:=b;constructor
 . intro z e;obtain⟨x,y,h1,h2,rfl⟩:=jy e;have:=ha.1 x h1;have:=hb.1 y h2;show min x y<=_;omega
 . intro z e;simp only[Rh]at e;split at e
   . cases e;have:=ha.2 _ rfl;have:=hb.2 _ rfl;omega
   . cases e;have:=ha.2 _ rfl;omega
   . have:=hb.2 _ e;omega
theorem Ca{a b:Rg}{m n:Int}(ha:In a m)(hb:In b n):In (L4 a b) (max m n):=by
 obtain⟨a1,a2⟩:=a;obtain⟨b1,b2⟩:=b;constructor
 . intro z e;simp only[L4]at e;split at e
   . cases e;have:=ha.1 _ rfl;have:=hb.1 _ rfl;omega
   . cases e;have:=ha.1 _ rfl;omega
   . have:=hb.1 _ e;omega
 . intro z e;obtain⟨x,y,h1,h2,rfl⟩:=jy e;have:=ha.2 x h1;have:=hb.2 y h2;show _<=max x y;omega
def nI(U:az):List (Int×IE)->Int
 | []=>0
 |(c,e)::r=>c*e.ae U+nI U r
def Lf.ae(U:az)(l:Lf):Int:=nI U l.1+l.2
structure Sk.ok(s:Sk)(U:az):Prop where
 g:∀p∈s.g,p.2.has (U p.1)
 q:∀l∈s.q,0<=Lf.ae U l
 f:∀p∈s.f,p.ae U=true
theorem Mf{k:Nat}{a:A}:∀ {g:List (Nat×A)},look k g=some a->(k,a)∈g:=by
 intro g;induction g with
 |nil=>intro h;cases h
 | cons x g ih=>
   intro h;obtain⟨j,y⟩:=x;unfold look at h;split at h
   . rename_i e;cases h;rw[vh e];exact aO ..
   . exact bp _ (ih h)
variable {s:Sk}{U:az}
theorem Sk.ok.find(h:s.ok U){k:Nat}{a:A}(e:s.find k=some a):a.has (U k):=h.g _ (Mf e)
theorem Hg{lo hi:Int}{d:DV}(h:(A.i lo hi).has d):∃n,d = .i n/\lo<=n/\n<=hi:=by
 cases d with
 |i n=>exact⟨n,rfl,h⟩
 |b x=>exact h.elim
 |l xs=>exact h.elim
theorem sC{a:Int}{b:Option Int}{cs:List (Int×Int)}{d:DV}(h:(A.l a b cs).has d):∃xs,d = .l xs/\a<=(xs.length:Int)/\(∀y,b=some y->(xs.length:Int)<=y)/\∀r∈xs,cn cs 0 r:=by
 cases d with
 |i n=>exact h.elim
 |b x=>exact h.elim
 |l xs=>exact⟨xs,rfl,h⟩
theorem FH{x y:Int}:∀ {cs:List (Int×Int)} {m j:Nat} {r:List Int},cn cs m r->cs[j]?=some (x,y)->x<=r.getD (m+j) 0/\r.getD (m+j) 0<=y:=by
 intro cs;induction cs with
 |nil=>intro m j r _ h;simp at h
 | cons c cs ih=>
   intro m j r hr h;cases j with
   |zero=>simp only[List.getElem?_cons_zero,af]at h;subst h;exact hr.1
   | succ j=>
     simp only[List.getElem?_cons_succ]at h;have:=ih hr.2 h;rwa[show m+1+j=m+(j+1)by omega]at this
theorem gU(h:s.ok U){p:BE}(e:s.gN p=true):p.ae U=true:=by
 simp only[Sk.gN,List.any_eq_true]at e;obtain⟨x,hx,e⟩:=e;rw[<- BE.beq_eq e];exact h.f x hx
theorem Hh{xs:List (List Int)}{cs:List (Int×Int)}{j:Nat}{x y i:Int}(hr:∀r∈xs,cn cs 0 r)(hc:cs[j]?=some (x,y)):(0<=i/\i<(xs.length:Int)->x<=cellAt xs i j/\cellAt xs i j<=y)/\(min x 0<=cellAt xs i j/\cellAt xs i j<=max y 0):=by
 have key:i.toNat<xs.length->x<=cellAt xs i j/\cellAt xs i j<=y:=by
   intro h;have hm:xs.getD i.toNat []∈xs:=by
     rw[cH,dJ h];exact List.getElem_mem h
   have:=FH (hr _ hm) hc;rw[Nat.zero_add]at this;exact this
 refine⟨fun h=>key (by omega),?_⟩
 by_cases h:i.toNat<xs.length
 . have:=key h;omega
 . have:cellAt xs i j=0:=by
     unfold cellAt;have e:xs.getD i.toNat []=[]:=by rw[cH,List.getElem?_eq_none (Nat.le_of_not_lt h)];rfl
     rw[e];simp
   omega
theorem uc(h:s.ok U):∀e:IE,In (s.iv e) (e.ae U):=by
 intro e;induction e with
 | v k=>
   simp only[Sk.iv,IE.ae];split
   . rename_i lo hi e;obtain⟨n,hn,h1,h2⟩:=Hg (h.find e);rw[hn];exact oy.2 ⟨h1,h2⟩
   . exact In.non
 |c n=>exact oy.2 ⟨Int.le_refl _,Int.le_refl _⟩
 |add a b eF fa=>exact Vo eF fa
 |sub a b eF fa=>exact Vp eF fa
 | mul a b eF fa=>
   simp only[Sk.iv,IE.ae];split
   . rename_i e;rw[<- IE.beq_eq e];exact Vr eF
   . exact Hd eF fa
 |tdiv a b eF fa=>exact Mb eF fa
 |tmod a b eF fa=>exact Md eF fa
 | ediv a n eF=>
   simp only[Sk.iv,IE.ae];split
   . exact In.non
   . rename_i hn;have nC:n≠0:=fun e=>hn (by rw[e];rfl)
     have hp:(0:Int)<n:=by omega
     constructor
     . intro z e;simp only[bB]at e;obtain⟨x,hx,rfl⟩:=e;exact Int.ediv_le_ediv hp (eF.1 x hx)
     . intro z e;simp only[bB]at e;obtain⟨x,hx,rfl⟩:=e;exact Int.ediv_le_ediv hp (eF.2 x hx)
 | emod a n eF=>
   simp only[Sk.iv,IE.ae];split
   . exact In.non
   . rename_i hn;have nC:n≠0:=fun e=>hn (by rw[e];rfl)
     have h1:=Int.emod_nonneg (a.ae U) (show(n:Int)≠0 by omega)
     have h2:=Int.emod_lt_of_pos (a.ae U) (show(0:Int)<n by omega)
     split
     . rename_i x y e;rw[e]at eF;obtain⟨i1,i2⟩:=oy.1 eF;split
       . rename_i hc;rw[Int.emod_eq_of_lt (by omega) (by omega)]
         exact eF
       . exact oy.2 ⟨h1,by omega⟩
     . exact oy.2 ⟨h1,by omega⟩
 |shl a b eF fa=>exact Ri eF fa
 |shr a b eF fa=>exact Rj eF fa
 |wrap k a eF=>exact Me eF
 |max a b eF fa=>exact Ca eF fa
 |min a b eF fa=>exact Hf eF fa
 |bits op k a b eF fa=>exact oy.2 (Go.bits_within op k _ _)
 | len k=>
   simp only[Sk.iv,IE.ae];split
   . rename_i n0 n1 cs e;obtain⟨xs,hx,h1,h2,_⟩:=sC (h.find e);rw[hx];refine⟨fun z e=>?_,fun z e=>h2 z e⟩
     cases e;show max n0 0<=(xs.length:Int);omega
   . refine⟨fun z e=>?_,fun _ e=>(by cases e)⟩
     cases e;omega
 | get k i j ih=>
   simp only[Sk.iv,IE.ae];split
   . rename_i n0 n1 cs e;obtain⟨xs,hx,h1,h2,h3⟩:=sC (h.find e);rw[hx];split
     . rename_i x y hc;have key:=Hh (i:=i.ae U) h3 hc;split
       . rename_i gF;refine oy.2 (key.1 ?_);simp only[Sk.Z2,ao,fy]at gF;obtain⟨g1,g2⟩:=gF;have z0:0<=i.ae U:=by
           split at g1
           . rename_i x U8;have:=ih.1 x U8;simp only[aC]at g1;omega
           . cases g1
         refine⟨z0,?_⟩;rcases g2 with(g2|g2)|g2
         . split at g2
           . rename_i y hy;have:=ih.2 y hy;simp only[aC]at g2;omega
           . cases g2
         . split at g2
           . rename_i l m;simp only[ao,aC]at g2;have:=vh g2.1;subst this;simp only[IE.ae,hx,DV.list];omega
           . cases g2
         . simp only[List.any_eq_true]at g2;obtain⟨p,hp,e⟩:=g2;have:=h.f p hp;rw[BE.beq_eq e]at this;simpa[BE.ae,IE.ae,hx,DV.list]using this
       . exact oy.2 key.2
     . exact In.non
   . exact In.non
 | kq i n a b ihi eF fa=>
   simp only[Sk.iv,IE.ae];split
   . exact DU (.inl eF)
   . exact DU (.inr fa)
end Go.Sx
namespace Go.Sx
variable {s:Sk}{U:az}
theorem Mg{c:Int}{e:IE}:∀ {l:List (Int×IE)},nI U (Jy c e l)=c*e.ae U+nI U l:=by
 intro l;induction l with
 |nil=>simp[Jy,nI]
 | cons x r ih=>
   obtain⟨d,x⟩:=x;unfold Jy;split
   . rename_i h;have:=IE.beq_eq h;subst this;split
     . rename_i h0;have e1:d = -c:=by omega
       subst e1;simp only[nI];grind
     . simp only[nI];grind
   . simp only[nI,ih];omega
theorem Mh{c:Int}{b:List (Int×IE)}:∀ {a:List (Int×IE)},nI U (L5 c a b)=c*nI U a+nI U b:=by
 intro a;induction a with
 |nil=>simp[L5,nI]
 | cons x r ih=>
   have:L5 c (x::r) b=Jy (c*x.1) x.2 (L5 c r b):=rfl;rw[this,Mg,ih];obtain⟨d,e⟩:=x;simp only[nI];grind
theorem Lf.du{c:Int}{a b:Lf}:(Lf.plus c a b).ae U=c*a.ae U+b.ae U:=by
 simp only[Lf.ae,Lf.plus,Mh];grind
theorem mB{c n:Int}{e:IE}:Lf.ae U ([(c,e)],n)=c*e.ae U+n:=by simp[Lf.ae,nI]
theorem ff{n:Int}:Lf.ae U ([],n)=n:=by simp[Lf.ae,nI]
theorem Cb{e:IE}{n:Int}(h:e.Yz=some n):e.ae U=n:=by
 cases e<;>simp_all[IE.Yz,IE.ae]
theorem iN(h:s.ok U):∀e:IE,(s.rN e).ae U=e.ae U:=by
 intro e;induction e with
 |c n=>exact ff
 |add a b eF fa=>simp only[Sk.rN,Lf.du,eF,fa,IE.ae];omega
 |sub a b eF fa=>simp only[Sk.rN,Lf.du,eF,fa,IE.ae];omega
 | mul a b eF fa=>
   simp only[Sk.rN,IE.ae];split
   . rename_i hn;rw[Lf.du,fa,ff,Cb hn];omega
   . rename_i hn _;rw[Lf.du,eF,ff,Cb hn,Int.mul_comm];omega
   . rw[mB];simp[IE.ae]
 | wrap k a eF=>
   simp only[Sk.rN,IE.ae];split
   . rename_i hw;rw[eF];have:=uc h a;unfold within at hw;split at hw
     . rename_i x y e;rw[e]at this;obtain⟨h1,h2⟩:=oy.1 this;simp only[aC]at hw;rw[B9 (by omega)]
     . cases hw
   . rw[mB];simp[IE.ae]
 |_=>simp only[Sk.rN];rw[mB];simp
theorem Mi(h:s.ok U):∀ {l:List (Int×IE)} {x:Int},s.low l=some x->x<=nI U l:=by
 intro l;induction l with
 |nil=>intro x e;cases e;exact Int.le_refl _
 | cons t r ih=>
   intro x e;obtain⟨c,t⟩:=t;simp only[Sk.low]at e;split at e
   . rename_i a b ha hb;cases e;have h1:=ih ha;have h2:=uc h t;have:c*b<=c*t.ae U:=by
       split at hb
       . exact Int.mul_le_mul_of_nonneg_left (h2.1 b hb) (by assumption)
       . exact Int.mul_le_mul_of_nonpos_left (by omega) (h2.2 b hb)
     simp only[nI];omega
   . cases e
theorem yp(h:s.ok U){l:Lf}(e:s.te l=true):0<=l.ae U:=by
 unfold Sk.te at e;split at e
 . rename_i x hx;have:=Mi h hx;simp only[aC]at e;unfold Lf.ae;omega
 . cases e
theorem yq(h:s.ok U){l:Lf}:∀ {ts:List (Int×IE)} {o:Nat} {x y:Lf},s.fork l ts=some (o,x,y)->
   (o=1->0<=l.ae U->0<=x.ae U/\0<=y.ae U)/\(0<=x.ae U/\0<=y.ae U->0<=l.ae U)/\(o=0->0<=x.ae U\/0<=y.ae U->0<=l.ae U):=by
 intro ts;induction ts with
 |nil=>intro o x y e;cases e
 | cons t r ih=>
   intro o x y e;obtain⟨c,t⟩:=t;cases t with
   | max a b=>
     simp only[Sk.fork,af,ax]at e;obtain⟨rfl,rfl,rfl⟩:=e;simp only[Lf.du,iN h,mB,IE.ae];generalize a.ae U=A;generalize b.ae U=B;generalize l.ae U=L;have m1:A<=max A B:=by omega
     have m2:B<=max A B:=by omega
     have m3:max A B=A\/max A B=B:=by omega
     generalize max A B=M at *;simp only[Int.neg_mul,Int.one_mul,Int.add_zero];refine⟨fun hc=>?_,?_,fun hc=>?_⟩
     . have hc:c<0:=by revert hc;split<;>simp_all
       have e1:=Int.mul_le_mul_of_nonpos_left (show c<=0 by omega) m1
       have e2:=Int.mul_le_mul_of_nonpos_left (show c<=0 by omega) m2
       intro h0;constructor<;>omega
     . rintro⟨h1,h2⟩;rcases m3 with rfl|rfl<;>omega
     . have hc:0<=c:=by revert hc;split<;>simp_all
       have e1:=Int.mul_le_mul_of_nonneg_left m1 hc;have e2:=Int.mul_le_mul_of_nonneg_left m2 hc;intro h1;rcases h1 with h1|h1<;>omega
   | min a b=>
     simp only[Sk.fork,af,ax]at e;obtain⟨rfl,rfl,rfl⟩:=e;simp only[Lf.du,iN h,mB,IE.ae];generalize a.ae U=A;generalize b.ae U=B;generalize l.ae U=L;have m1:min A B<=A:=by omega
     have m2:min A B<=B:=by omega
     have m3:min A B=A\/min A B=B:=by omega
     generalize min A B=M at *;simp only[Int.neg_mul,Int.one_mul,Int.add_zero];refine⟨fun hc=>?_,?_,fun hc=>?_⟩
     . have hc:0<c:=by revert hc;split<;>simp_all
       have e1:=Int.mul_le_mul_of_nonneg_left m1 (show 0<=c by omega)
       have e2:=Int.mul_le_mul_of_nonneg_left m2 (show 0<=c by omega)
       intro h0;constructor<;>omega
     . rintro⟨h1,h2⟩;rcases m3 with rfl|rfl<;>omega
     . have hc:c<=0:=by revert hc;split<;>simp_all
       have e1:=Int.mul_le_mul_of_nonpos_left hc m1;have e2:=Int.mul_le_mul_of_nonpos_left hc m2;intro h1;rcases h1 with h1|h1<;>omega
   | kq i n a b=>
     simp only[Sk.fork,af,ax]at e;obtain⟨rfl,rfl,rfl⟩:=e;simp only[Lf.du,iN h,mB,IE.ae,Int.neg_mul,Int.one_mul,Int.add_zero];refine⟨fun hc=>(by cases hc),?_,fun hc=>(by cases hc)⟩
     rintro⟨h1,h2⟩;split at h1<;>split at h2<;>first|omega|contradiction
   |_=>exact ih (by simpa only[Sk.fork]using e)
theorem FI{a b:List (Int×IE)}{m:Int}(h:shares a b=some m):1<=m:=by
 unfold shares at h;obtain⟨x,_,h⟩:=List.exists_of_findSome?_eq_some h;obtain⟨y,_,h⟩:=List.exists_of_findSome?_eq_some h;split at h
 . simp only[af]at h;subst h;split<;>omega
 . cases h
theorem qS(h:s.ok U):∀ {d:Nat} {l:Lf},s.by d l=true->0<=l.ae U:=by
 intro d;induction d with
 |zero=>intro l e;exact yp h e
 | succ d ih=>
   intro l e;simp only[Sk.by,fy]at e
   rcases e with(e|e)|e
   . exact yp h e
   . simp only[List.any_eq_true]at e;obtain⟨f,hf,e⟩:=e;split at e
     . rename_i m hm;have h1:=ih e;have h2:=h.q f hf;have h3:=FI hm;rw[Lf.du]at h1;have:=Int.mul_nonneg (show 0<=m by omega) h2
       rw[Int.neg_mul]at h1;omega
     . cases e
   . split at e
     . rename_i x y hx;simp only[fy]at e;exact(yq h hx).2.2 rfl (e.imp ih ih)
     . rename_i x y _ hx;simp only[ao]at e;exact(yq h hx).2.1 ⟨ih e.1,ih e.2⟩
     . cases e
theorem gV(h:s.ok U)(a b:IE):(s.diff a b).ae U=b.ae U-a.ae U:=by
 unfold Sk.diff;rw[Lf.du,iN h,iN h];omega
theorem YA(h:s.ok U){d:Nat}{a b:IE}(e:s.by d (s.diff a b)=true):a.ae U<=b.ae U:=by
 have:=qS h e;rw[gV h]at this;omega
theorem Rk(h:s.ok U){d:Nat}{a b:IE}(e:s.by d (Lf.plus 1 (s.diff a b) ([],-1))=true):a.ae U<b.ae U:=by
 have:=qS h e;rw[Lf.du,gV h,ff]at this;omega
theorem TI(h:s.ok U){d:Nat}(e:s.by d ([],-1)=true):False:=by
 have:=qS h e;rw[ff]at this;omega
theorem byP(h:s.ok U){d:Nat}{a:IE}(e:s.by d (Lf.plus 1 (s.rN a) ([],-1))=true):0<a.ae U:=by
 have:=qS h e;rw[Lf.du,iN h,ff]at this;omega
theorem byN(h:s.ok U){d:Nat}{a:IE}(e:s.by d (Lf.plus (-1) (s.rN a) ([],-1))=true):a.ae U<0:=by
 have:=qS h e;rw[Lf.du,iN h,ff]at this;omega
theorem by0(h:s.ok U){d:Nat}{a:IE}(e:s.by d (s.rN a)=true):0<=a.ae U:=by
 have:=qS h e;rwa[iN h]at this
theorem adX(h:s.ok U){d:Nat}{a:IE}(e:s.by d (Lf.plus (-1) (s.rN a) ([],0))=true):a.ae U<=0:=by
 have:=qS h e;rw[Lf.du,iN h,ff]at this;omega
theorem pnv(h:s.ok U){d:Nat}:∀p:BE,(s.pv d p=true->p.ae U=true)/\(s.nv d p=true->p.ae U=false):=by
 intro p;induction p with
 | v k=>
   refine⟨fun e=>gU h (by simpa only[Sk.pv]using e),fun e=>?_⟩
   have:=gU h (p:=.not (.v k)) (by simpa only[Sk.nv]using e)
   simpa[BE.ae]using this
 | c x=>
   constructor
   . intro e;simp only[Sk.pv,fy]at e;rcases e with e|e
     . exact e
     . exact(TI h e).elim
   . intro e;simp only[Sk.nv,fy,Bool.not_eq_true']at e;rcases e with e|e
     . exact e
     . exact(TI h e).elim
 | lt a b=>
   constructor
   . intro e;simp only[Sk.pv]at e;simpa[BE.ae]using Rk h e
   . intro e;simp only[Sk.nv]at e;simpa[BE.ae]using YA h e
 | le a b=>
   constructor
   . intro e;simp only[Sk.pv]at e;simpa[BE.ae]using YA h e
   . intro e;simp only[Sk.nv]at e;simpa[BE.ae]using Rk h e
 | eq a b=>
   constructor
   . intro e;simp only[Sk.pv,fy,ao]at e;rcases e with(e|e)|e
     . simp[BE.ae,IE.beq_eq e]
     . have h1:=YA h e.1;have h2:=YA h e.2;simp only[BE.ae,aC];omega
     . exact gU h e
   . intro e;simp only[Sk.nv,fy]at e;rcases e with(e|e)|e
     . have:=Rk h e;simp only[BE.ae,decide_eq_false_iff_not];omega
     . have:=Rk h e;simp only[BE.ae,decide_eq_false_iff_not];omega
     . have:=gU h e;simpa[BE.ae]using this
 | not a ih=>
   constructor
   . intro e;simp only[Sk.pv]at e;simp[BE.ae,ih.2 e]
   . intro e;simp only[Sk.nv]at e;simp[BE.ae,ih.1 e]
 | and a b eF fa=>
   constructor
   . intro e;simp only[Sk.pv,ao]at e;simp[BE.ae,eF.1 e.1,fa.1 e.2]
   . intro e;simp only[Sk.nv,fy]at e;rcases e with(e|e)|e
     . simp[BE.ae,eF.2 e]
     . simp[BE.ae,fa.2 e]
     . have:=gU h e;simpa only[BE.ae,Bool.not_eq_true']using this
 | or a b eF fa=>
   constructor
   . intro e;simp only[Sk.pv,fy]at e;rcases e with(e|e)|e
     . simp[BE.ae,eF.1 e]
     . simp[BE.ae,fa.1 e]
     . exact gU h e
   . intro e;simp only[Sk.nv,ao]at e;simp[BE.ae,eF.2 e.1,fa.2 e.2]
 | iff a b eF fa=>
   constructor
   . intro e;simp only[Sk.pv,fy,ao]at e;rcases e with((e|e)|e)|e
     . simp[BE.ae,BE.beq_eq e]
     . simp[BE.ae,eF.1 e.1,fa.1 e.2]
     . simp[BE.ae,eF.2 e.1,fa.2 e.2]
     . exact gU h e
   . intro e;simp only[Sk.nv,fy,ao]at e;rcases e with e|e
     . simp[BE.ae,eF.1 e.1,fa.2 e.2]
     . simp[BE.ae,eF.2 e.1,fa.1 e.2]
 | si a=>
   constructor
   . intro e;simp only[Sk.pv,fy]at e;rcases e with(e|e)|e
     . have:=byP h e;simp only[BE.ae,aC];omega
     . have:=byN h e;simp only[BE.ae,aC];omega
     . exact gU h e
   . intro e;simp only[Sk.nv,ao]at e;have h1:=by0 h e.1;have h2:=adX h e.2;simp only[BE.ae,decide_eq_false_iff_not];omega
theorem fm(h:s.ok U){d:Nat}{p:BE}(e:s.pv d p=true):p.ae U=true:=(pnv h p).1 e
theorem mC(h:s.ok U){d:Nat}{p:BE}(e:s.nv d p=true):p.ae U=false:=(pnv h p).2 e
theorem Mj{k:Nat}{a:A}{p:Nat×A}:∀ {g:List (Nat×A)},p∈B5 k a g->p∈g\/p=(k,a):=by
 intro g;induction g with
 |nil=>intro h;simp[B5]at h
 | cons x g ih=>
   intro h;obtain⟨j,y⟩:=x;unfold B5 at h;split at h
   . rename_i e;rcases bq.1 h with rfl|h
     . right;rw[vh e]
     . left;exact bp _ h
   . rcases bq.1 h with rfl|h
     . left;exact aO ..
     . rcases ih h with h|h
       . left;exact bp _ h
       . right;exact h
theorem Sk.ok.put(h:s.ok U){k:Nat}{a:A}(ha:a.has (U k)):∀p∈B5 k a s.g,p.2.has (U p.1):=by
 intro p hp;rcases Mj hp with hp|rfl
 . exact h.g p hp
 . exact ha
theorem cdiv_le{m c n:Int}(hc:0<c)(h:m<=c*n):cdiv m c<=n:=by
 unfold cdiv;have: -n<=(-m)/c:=Int.le_ediv_of_mul_le hc (by rw[Int.neg_mul,Int.mul_comm];omega)
 omega
theorem Hi{m c n:Int}(hc:c<0)(h:m<=c*n):n<=(-m)/(-c):=
 Int.le_ediv_of_mul_le (by omega) (by rw[Int.mul_neg,Int.mul_comm];omega)
theorem Mk(h:s.ok U){l:Lf}(hl:0<=l.ae U){c:Int}{e:IE}:∀p∈s.bound l c e,p.2.has (U p.1):=by
 unfold Sk.bound;split
 . exact h.g
 . rename_i nr hn;have h1:=Mi h hn;have h2:Lf.ae U (Lf.plus (-1) l ([(c,e)],0))=(-1)*l.ae U+(c*e.ae U+0):=by rw[Lf.du,mB]
   have h3:Lf.ae U (Lf.plus (-1) l ([(c,e)],0))=nI U (Lf.plus (-1) l ([(c,e)],0)).1+((-1)*l.2+0):=rfl;have hm:nr+((-1)*l.2+0)<=c*e.ae U:=by omega
   generalize ZX:nr+((-1)*l.2+0)=m at hm;simp only[ZX];split
   . rename_i k;split
     . rename_i lo hi hf;obtain⟨n,hn,g1,g2⟩:=Hg (h.find hf);simp only[IE.ae,hn,DV.int]at hm;split
       . rename_i hc;refine h.put ?_;rw[hn];have:=cdiv_le hc hm;exact⟨by omega,g2⟩
       . split
         . rename_i hc;refine h.put ?_;rw[hn];have:=Hi hc hm;exact⟨g1,by omega⟩
         . exact h.g
     . exact h.g
   . rename_i k;split
     . rename_i n0 n1 cs hf;obtain⟨xs,hx,g1,g2,g3⟩:=sC (h.find hf);simp only[IE.ae,hx,DV.list]at hm;split
       . rename_i hc;refine h.put ?_;rw[hx];have:=cdiv_le hc hm;exact⟨by omega,g2,g3⟩
       . split
         . rename_i hc;refine h.put ?_;rw[hx];have:=Hi hc hm;refine⟨g1,fun y e=>?_,g3⟩
           split at e
           . rename_i z;have:=g2 _ rfl;simp only[af]at e;omega
           . simp only[af]at e;omega
         . exact h.g
     . exact h.g
   . exact h.g
theorem rO(h:s.ok U){l:Lf}(hl:0<=l.ae U):∀ts:List (Int×IE),(ts.foldr (fun t (s:Sk)=>{s with g:=s.bound l t.1 t.2}) s).ok U:=by
 intro ts;induction ts with
 |nil=>exact h
 |cons t ts ih=>exact⟨Mk ih hl,ih.q,ih.f⟩
theorem qT(h:s.ok U){l:Lf}(hl:0<=l.ae U):(s.qM l).ok U:=by
 unfold Sk.qM;split
 . exact h
 . have k:=rO h hl l.1;refine⟨k.g,fun x hx=>?_,k.f⟩
   rcases bq.1 hx with rfl|hx
   . exact hl
   . exact k.q x hx
theorem DW:∀ {n:Nat} {s:Sk} {l:Lf},s.ok U->0<=l.ae U->(s.qN n l).ok U:=by
 intro n;induction n with
 |zero=>intro s l h hl;exact qT h hl
 | succ n ih=>
   intro s l h hl;simp only[Sk.qN];split
   . rename_i x y hx;obtain⟨h1,h2⟩:=(yq h hx).1 rfl hl;exact ih (ih (qT h hl) h1) h2
   . exact qT h hl
theorem eQ(h:s.ok U){l:Lf}(hl:0<=l.ae U):(s.eG l).ok U:=DW h hl
theorem lK(h:s.ok U){p:BE}(hp:p.ae U=true):(s.fact p).ok U:=by
 unfold Sk.fact;split
 . exact h
 . refine⟨h.g,h.q,fun x hx=>?_⟩
   rcases bq.1 hx with rfl|hx
   . exact hp
   . exact h.f x hx
theorem mX(h:s.ok U){a b:IE}{st:Int}(hs:a.ae U+st<=b.ae U)(h0:0<=st)(h1:st<=1):(Sk.mz s a b st).ok U:=by
 unfold Sk.mz;split
 . rename_i x;split
   . rename_i hc;simp only[ao]at hc;have hx:=uc h x;have hb:=uc h b;have e1:mn<=x.ae U/\x.ae U<=mx:=by
       have:=hc.1;unfold TG at this;split at this
       . rename_i u v e;rw[e]at hx;obtain⟨g1,g2⟩:=oy.1 hx;simp only[aC]at this;omega
       . cases this
     have e2:b.ae U<=mx+st:=by
       have:=hc.2;unfold leI at this;split at this
       . rename_i y e;have:=hb.2 y e;rename_i Z4;simp only[aC]at Z4;omega
       . cases this
     have e3:IntKind.u64.wrap (x.ae U)<=mx:=by simp only[IE.ae]at hs;omega
     have e4:0<=x.ae U/\IntKind.u64.wrap (x.ae U)=x.ae U:=by
       have:IntKind.u64.wrap (x.ae U)=x.ae U%18446744073709551616:=by simp[IntKind.wrap,IntKind.signed,IntKind.bits]
       unfold mn mx at *;omega
     have k1:(s.eG (s.rN x)).ok U:=eQ h (by rw[iN h];exact e4.1)
     refine eQ k1 ?_;rw[Lf.du,gV h,ff];simp only[IE.ae]at hs;omega
   . exact h
 . exact h
theorem Hj:∀(p:BE) {s:Sk},s.ok U->(p.ae U=true->(s.add p).ok U)/\(p.ae U=false->(s.sub p).ok U):=by
 intro p;induction p with
 |v k=>intro s h;exact⟨fun e=>by simpa only[Sk.add]using lK h e,fun e=>by simpa only[Sk.sub]using lK h (p:=.not (.v k)) (by simpa[BE.ae]using e)⟩
 | c x=>
   intro s h;cases x
   . exact⟨fun e=>(by cases e),fun _=>(by simpa only[Sk.sub]using h)⟩
   . exact⟨fun _=>(by simpa only[Sk.add]using h),fun e=>(by cases e)⟩
 | lt a b=>
   intro s h;constructor
   . intro e;have e':a.ae U<b.ae U:=by simpa[BE.ae]using e
     have k1:(s.eG (Lf.plus 1 (s.diff a b) ([],-1))).ok U:=eQ h (by rw[Lf.du,gV h,ff];omega)
     have k2:=mX k1 (a:=a) (b:=b) (st:=1) (by omega) (by omega) (by omega)
     simp only[Sk.add];split
     . exact lK k2 e
     . exact k2
   . intro e;have e':b.ae U<=a.ae U:=by simpa[BE.ae]using e
     have k1:(s.eG (s.diff b a)).ok U:=eQ h (by rw[gV h];omega)
     simpa only[Sk.sub]using mX k1 (a:=b) (b:=a) (st:=0) (by omega) (by omega) (by omega)
 | le a b=>
   intro s h;constructor
   . intro e;have e':a.ae U<=b.ae U:=by simpa[BE.ae]using e
     have k1:(s.eG (s.diff a b)).ok U:=eQ h (by rw[gV h];omega)
     simpa only[Sk.add]using mX k1 (a:=a) (b:=b) (st:=0) (by omega) (by omega) (by omega)
   . intro e;have e':b.ae U<a.ae U:=by simpa[BE.ae]using e
     have k1:(s.eG (Lf.plus 1 (s.diff b a) ([],-1))).ok U:=eQ h (by rw[Lf.du,gV h,ff];omega)
     simpa only[Sk.sub]using mX k1 (a:=b) (b:=a) (st:=1) (by omega) (by omega) (by omega)
 | eq a b=>
   intro s h;constructor
   . intro e;have e':a.ae U=b.ae U:=by simpa[BE.ae]using e
     have k1:(s.eG (s.diff a b)).ok U:=eQ h (by rw[gV h];omega)
     simp only[Sk.add];exact eQ k1 (by rw[gV h];omega)
   . intro e;have e':a.ae U≠b.ae U:=by simpa[BE.ae]using e
     simp only[Sk.sub];split
     . rename_i hb;have:=YA h hb;exact eQ h (by rw[Lf.du,gV h,ff];omega)
     . split
       . rename_i hb;have:=YA h hb;exact eQ h (by rw[Lf.du,gV h,ff];omega)
       . exact lK h (by simpa[BE.ae]using e)
 | not a ih=>
   intro s h;constructor
   . intro e;simp only[Sk.add];exact(ih h).2 (by simpa[BE.ae]using e)
   . intro e;simp only[Sk.sub];exact(ih h).1 (by simpa[BE.ae]using e)
 | and a b eF fa=>
   intro s h;constructor
   . intro e;simp only[BE.ae,ao]at e;simp only[Sk.add];exact(fa ((eF h).1 e.1)).1 e.2
   . intro e;simp only[Sk.sub];have e':=e;simp only[BE.ae]at e;split
     . rename_i hp;rw[fm h hp,Bool.true_and]at e;exact(fa h).2 e
     . split
       . rename_i hp;rw[fm h hp,Bool.and_true]at e;exact(eF h).2 e
       . exact lK h (by simp only[BE.ae,e,Bool.not_false])
 | or a b eF fa=>
   intro s h;constructor
   . intro e;simp only[Sk.add];have e':=e;simp only[BE.ae]at e;split
     . rename_i hp;rw[mC h hp,Bool.false_or]at e;exact(fa h).1 e
     . split
       . rename_i hp;rw[mC h hp,Bool.or_false]at e;exact(eF h).1 e
       . exact lK h e'
   . intro e;simp only[BE.ae,Bool.or_eq_false_iff]at e;simp only[Sk.sub];exact(fa ((eF h).2 e.1)).2 e.2
 | iff a b eF fa=>
   intro s h;constructor
   . intro e;simp only[Sk.add];have e':=e;simp only[BE.ae,beq_iff_eq]at e;split
     . rename_i hp;exact(fa h).1 (by rw[<- e];exact fm h hp)
     . split
       . rename_i hp;exact(eF h).1 (by rw[e];exact fm h hp)
       . split
         . rename_i hp;exact(fa h).2 (by rw[<- e];exact mC h hp)
         . split
           . rename_i hp;exact(eF h).2 (by rw[e];exact mC h hp)
           . exact lK h e'
   . intro e;simp only[Sk.sub];have e':=e;simp only[BE.ae]at e;split
     . rename_i hp;have:=fm h hp;exact(fa h).2 (by rw[this]at e;revert e;cases b.ae U<;>simp)
     . split
       . rename_i hp;have:=fm h hp;exact(eF h).2 (by rw[this]at e;revert e;cases a.ae U<;>simp)
       . split
         . rename_i hp;have:=mC h hp;exact(fa h).1 (by rw[this]at e;revert e;cases b.ae U<;>simp)
         . split
           . rename_i hp;have:=mC h hp;exact(eF h).1 (by rw[this]at e;revert e;cases a.ae U<;>simp)
           . exact lK h (by simp only[BE.ae,e,Bool.not_false])
 | si a=>
   intro s h;constructor
   . intro e;simp only[Sk.add];exact lK h e
   . intro e;have e':a.ae U=0:=by simpa[BE.ae]using e
     simp only[Sk.sub];have k1:(s.eG (s.rN a)).ok U:=eQ h (by rw[iN h];omega)
     exact eQ k1 (by rw[Lf.du,iN h,ff];omega)
theorem yt(h:s.ok U){p:BE}(e:p.ae U=true):(s.add p).ok U:=(Hj p h).1 e
theorem vi(h:s.ok U){p:BE}(e:p.ae U=false):(s.sub p).ok U:=(Hj p h).2 e
theorem JA:∀ {l:List BE} {s:Sk},s.ok U->(∀p∈l,p.ae U=true)->(s.qO l).ok U:=by
 intro l;induction l with
 |nil=>intro s h _;exact h
 | cons p l ih=>
   intro s h hl;have hp:=hl p (aO ..);have hr:∀q∈l,q.ae U=true:=fun q hq=>hl q (bp _ hq)
   unfold Sk.qO;split
   . cases ‹_=_›
   . rename_i heq;injection heq with h1 h2;subst h1;subst h2;refine ih ?_ hr;simp only[BE.ae]at hp;split
     . rename_i hn;rw[mC h hn,Bool.false_or]at hp;exact yt h hp
     . split
       . rename_i hn;rw[mC h hn,Bool.or_false]at hp;exact yt h hp
       . exact h
   . rename_i heq;injection heq with h1 h2;subst h1;subst h2;refine ih ?_ hr;simp only[BE.ae,Bool.not_eq_true']at hp;split
     . rename_i hn;rw[fm h hn,Bool.true_and]at hp;exact vi h hp
     . split
       . rename_i hn;rw[fm h hn,Bool.and_true]at hp;exact vi h hp
       . exact h
   . rename_i heq;injection heq with h1 h2;subst h1;subst h2;refine ih ?_ hr;simp only[BE.ae,beq_iff_eq]at hp;split
     . rename_i hn;exact yt h (by rw[<- hp];exact fm h hn)
     . split
       . rename_i hn;exact vi h (by rw[<- hp];exact mC h hn)
       . split
         . rename_i hn;exact yt h (by rw[hp];exact fm h hn)
         . split
           . rename_i hn;exact vi h (by rw[hp];exact mC h hn)
           . exact h
   . rename_i heq;injection heq with h1 h2;subst h1;subst h2;exact ih (vi h (by simpa[BE.ae]using hp)) hr
   . rename_i heq;injection heq with h1 h2;subst h2;exact ih h hr
theorem Ml:∀ {ls:List Lf} {s:Sk},s.ok U->(∀l∈ls,0<=l.ae U)->(s.again ls).ok U:=by
 intro ls;induction ls with
 |nil=>intro s h _;exact h
 |cons l ls ih=>intro s h hl;exact ih (rO h (hl l (aO ..)) _) fun x hx=>hl x (bp _ hx)
theorem Rl(h:s.ok U):s.tidy.ok U:=⟨h.g,h.q,fun p hp=>h.f p (List.mem_filter.mp hp).1⟩
theorem yu(h:s.ok U):s.close.ok U:=by
 have h1:=JA h h.f;exact Rl (Ml h1 fun l hl=>h1.q l (List.mem_of_mem_take hl))
theorem rP(h:s.ok U){p:BE}(e:p.ae U=true):(s.sa p).ok U:=by
 exact yu (yt h e)
theorem tf(h:s.ok U){p:BE}(e:p.ae U=false):(s.lI p).ok U:=by
 exact yu (vi h e)
theorem Mm(h:s.ok U){d:Nat}(e:s.L9 d=true):False:=by
 simp only[Sk.L9,List.any_eq_true]at e;obtain⟨f,hf,e⟩:=e;have h1:=qS h e;have h2:=h.q f hf;rw[Lf.du,ff]at h1;omega
theorem FJ{d:Nat}:∀(p:BE) {s:Sk},s.ok U->s.pw d p=true->p.ae U=true:=by
 intro p;induction p with
 | and a b eF fa=>
   intro s h e;simp only[Sk.pw,ao]at e;simp[BE.ae,eF h e.1,fa h e.2]
 | or a b eF fa=>
   intro s h e;simp only[Sk.pw,fy]at e;rcases e with e|e
   . exact fm h e
   . cases ha:a.ae U with
     |true=>simp[BE.ae,ha]
     |false=>simp[BE.ae,fa (yu (tf h ha)) e]
 | _=>
   intro s h e;simp only[Sk.pw,fy]at e;rcases e with e|e
   . exact fm h e
   . exact(Mm h e).elim
def fv(l:List BE×BE):Prop:=∀U:az,(∀p∈l.1,p.ae U=true)->l.2.ae U=true
theorem Vs(h:s.ok U){eO:List (List BE×BE)}(hl:∀l∈eO,fv l){p:BE}(e:s.so eO p=true):p.ae U=true:=by
 simp only[Sk.so,fy,List.any_eq_true,ao,List.all_eq_true]at e;rcases e with(e|⟨l,hm,h1,h2⟩)|e
 . exact FJ p h e
 . exact FJ p (rP h (hl l hm U fun q hq=>fm h (h1 q hq))) h2
 . exact FJ p h e
theorem j4:∀ {l:List BE} {s:Sk},s.ok U->(∀p∈l,p.ae U=true)->(s.lJ l).ok U:=by
 intro l;induction l with
 |nil=>intro s h _;exact h
 |cons p l ih=>intro s h hl;exact ih (rP h (hl p (aO ..))) fun q hq=>hl q (bp _ hq)
end Go.Sx
namespace Go.Sx
variable {s:Sk}{U ak:az}
theorem DX{base n k:Nat}:im base n k=true↔k<base\/base+n<=k:=by
 simp[im,Nat.blt_eq,Nat.ble_eq]
theorem Lf.aq{p:Nat->Bool}(h:∀k,p k=true->U k=ak k){l:Lf}(e:l.all p=true):l.ae U=l.ae ak:=by
 obtain⟨ts,n⟩:=l;simp only[Lf.all]at e;have:nI U ts=nI ak ts:=by
   induction ts with
   |nil=>rfl
   | cons t ts ih=>
     obtain⟨c,t⟩:=t;simp only[List.all_cons,ao]at e;simp only[nI,ih e.2,IE.aq h e.1]
 simp only[Lf.ae,this]
theorem Hk(h:s.ok U){p:Nat->Bool}(he:∀k,p k=true->U k=ak k):(s.fG p).ok ak:=by
 refine⟨fun x hx=>?_,fun l hl=>?_,fun q hq=>?_⟩
 . obtain⟨h1,h2⟩:=List.mem_filter.1 hx;rw[<- he _ h2];exact h.g x h1
 . obtain⟨h1,h2⟩:=List.mem_filter.1 hl;rw[<- Lf.aq he h2];exact h.q l h1
 . obtain⟨h1,h2⟩:=List.mem_filter.1 hq;rw[<- BE.aq he h2];exact h.f q h1
theorem qU{base n:Nat}{ds:List DV}(hn:ds.length=n){k:Nat}(h:im base n k=true):U k=U.ar base ds k:=by
 rcases DX.1 h with h|h
 . exact(az.aX h).symm
 . exact(az.ej (by omega)).symm
theorem Cc{k j:Nat}{d:DV}(h:im j 1 k=true):U k=U.set j d k:=by
 have:=DX.1 h;simp only[az.set];rw[if_neg (by omega)]
theorem kT.len:∀ {as:List A} {ds:List DV},kT as ds->as.length=ds.length:=by
 intro as;induction as with
 | nil=>intro ds h;cases ds with
   |nil=>rfl
   |cons d ds=>exact h.elim
 | cons a as ih=>intro ds h;cases ds with
   |nil=>exact h.elim
   |cons d ds=>simp[ih h.2]
theorem kT.at:∀ {as:List A} {ds:List DV} {i:Nat} {a:A},kT as ds->as[i]?=some a->∃d,ds[i]?=some d/\a.has d:=by
 intro as;induction as with
 |nil=>intro ds i a _ h;simp at h
 | cons x as ih=>
   intro ds i a h hi;cases ds with
   |nil=>exact h.elim
   | cons d ds=>
     cases i with
     |zero=>simp only[List.getElem?_cons_zero,af]at hi;subst hi;exact⟨d,rfl,h.1⟩
     |succ i=>simp only[List.getElem?_cons_succ]at hi ⊢;exact ih h.2 hi
theorem FK:∀ {as:List A} {base:Nat} {p:Nat×A},p∈mA base as->∃i,p.1=base+i/\as[i]?=some p.2:=by
 intro as;induction as with
 |nil=>intro base p h;simp[mA]at h
 | cons a as ih=>
   intro base p h;rcases bq.1 h with rfl|h
   . exact⟨0,rfl,rfl⟩
   . obtain⟨i,h1,h2⟩:=ih h;exact⟨i+1,by omega,by simpa using h2⟩
theorem mD{as:List A}{ds:List DV}{base:Nat}(h:kT as ds):∀p∈mA base as,p.2.has (U.ar base ds p.1):=by
 intro p hp;obtain⟨i,h1,h2⟩:=FK hp;obtain⟨d,h3,h4⟩:=h.at h2;rw[h1,az.cm h3];exact h4
theorem yv:∀ {cs ds:List (Int×Int)} {j:Nat} {r:List Int},cn cs j r->cn (gl cs ds) j r:=by
 intro cs;induction cs with
 |nil=>intro ds j r h;simp[gl,cn]
 | cons c cs ih=>
   intro ds j r h;cases ds with
   |nil=>simp[gl,cn]
   | cons d ds=>
     have:=h.1;refine⟨?_,ih h.2⟩;show min c.1 d.1<=_/\_<=max c.2 d.2;omega
theorem yw:∀ {cs ds:List (Int×Int)} {j:Nat} {r:List Int},cn ds j r->cn (gl cs ds) j r:=by
 intro cs;induction cs with
 |nil=>intro ds j r h;simp[gl,cn]
 | cons c cs ih=>
   intro ds j r h;cases ds with
   |nil=>simp[gl,cn]
   | cons d ds=>
     have:=h.1;refine⟨?_,ih h.2⟩;show min c.1 d.1<=_/\_<=max c.2 d.2;omega
theorem DY:∀ {rs:List Rg} {xs:List Int} {j:Nat} {row:List Int},(∀i r,rs[i]?=some r->In r (row.getD (j+i) 0))->cn (B6 rs) j row:=by
 intro rs;induction rs with
 |nil=>intro xs j row h;simp[B6,cn]
 | cons r rs ih=>
   intro xs j row h;unfold B6;split
   . rename_i x y r' e;injection e with e1 e2;subst e1;subst e2;have:=h 0 _ rfl;refine⟨oy.1 this,ih (xs:=[]) fun i r hi=>?_⟩
     have:=h (i+1) r (by simpa using hi)
     rwa[show j+(i+1)=j+1+i by omega]at this
   . simp[cn]
theorem yx(h:s.ok U)(x:Sum IE BE):In (s.wh x) (bV U x):=by
 cases x with
 |inl e=>exact uc h e
 |inr b=>simp only[Sk.wh,bV];split<;>exact oy.2 (by omega)
theorem vj(h:s.ok U)(xs:List (Sum IE BE)):cn (B6 (xs.map s.wh)) 0 (xs.map (bV U)):=by
 refine DY (xs:=[]) fun i r hi=>?_
 simp only[List.getElem?_map,bB]at hi;obtain⟨x,hx,rfl⟩:=hi;rw[Nat.zero_add,cH,List.getElem?_map,hx];exact yx h x
theorem AT:∀ {cs:List (List (Int×Int))} {c:List (Int×Int)} {r:List Int},c∈cs->cn c 0 r->cn (Hc cs) 0 r:=by
 intro cs;induction cs with
 |nil=>intro c r h;cases h
 | cons d cs ih=>
   intro c r hm h;cases cs with
   | nil => rcases bq.1 hm with rfl|hm
            . exact h
            . cases hm
   | cons e cs=>
     rcases bq.1 hm with rfl|hm
     . exact yv h
     . exact yw (ih hm h)
theorem Vt(h:s.ok U)(d:DE):(s.de d).has (d.ae U):=by
 cases d with
 | i e=>
   simp only[Sk.de,DE.ae];have:=uc h e;split
   . rename_i x y he;rw[he]at this;exact oy.1 this
   . trivial
 |b e=>trivial
 | l k=>
   simp only[Sk.de,DE.ae];split
   . rename_i a b c e;obtain⟨xs,hx,h1⟩:=sC (h.find e);rw[hx];exact h1
   . exact⟨by omega,fun _ e=>(by cases e),fun _ _=>trivial⟩
 |nil=>exact⟨by simp,fun y e=>(by cases e;simp),fun r hr=>(by cases hr)⟩
 | rows es=>
   refine⟨by simp,fun y e=>(by cases e;simp),fun r hr=>?_⟩
   obtain⟨e,he,rfl⟩:=List.mem_map.1 hr;refine AT (List.mem_map.2 ⟨e,he,rfl⟩) (DY (xs:=[]) fun i r hi=>?_)
   cases i with
   |zero=>simp only[List.getElem?_cons_zero,af]at hi;subst hi;exact uc h e
   |succ i=>simp at hi
 | sU xs=>
   refine⟨by simp,fun y e=>(by cases e;simp),fun r hr=>?_⟩
   rcases List.mem_singleton.1 hr with rfl;exact vj h xs
theorem DZ{d:DE}{n:IE}(h:d.L7=some n):∃xs,d.ae U = .l xs/\n.ae U=(xs.length:Int):=by
 cases d<;>simp[DE.L7]at h<;>subst h
 . exact⟨_,rfl,rfl⟩
 . exact⟨_,rfl,rfl⟩
 . exact⟨_,rfl,by simp[IE.ae]⟩
 . exact⟨_,rfl,by simp[IE.ae]⟩
theorem FL:∀ {cs ds:List (Int×Int)} {j:Nat} {r:List Int},ym cs ds=true->cn cs j r->cn ds j r:=by
 intro cs;induction cs with
 | nil=>intro ds j r h _;cases ds with
   |nil=>trivial
   |cons d ds=>simp[ym]at h
 | cons c cs ih=>
   intro ds j r h hr;cases ds with
   |nil=>trivial
   | cons d ds=>
     simp only[ym,ao,aC]at h;have:=hr.1;exact⟨by omega,ih h.2.2 hr.2⟩
theorem yy(h:s.ok U){d:DE}{a:A}(e:s.fits d a=true):a.has (d.ae U):=by
 cases a with
 |t=>cases d<;>trivial
 | i lo hi=>
   cases d with
   | i x=>
     simp only[Sk.fits,ao]at e;exact⟨of_decide_eq_true (fm h e.1),of_decide_eq_true (fm h e.2)⟩
   |_=>simp[Sk.fits]at e
 | b=>cases d with
   |b x=>trivial
   |_=>simp[Sk.fits]at e
 | l n0 n1 cs=>
   simp only[Sk.fits]at e;split at e
   . rename_i n a b c hn hd;obtain⟨xs,hx,hl⟩:=DZ (U:=U) hn;have hde:=Vt h d;rw[hd,hx]at hde;obtain⟨g1,g2,g3⟩:=hde;simp only[ao,fy,aC]at e;rw[hx];refine⟨?_,fun y hy=>?_,fun r hr=>?_⟩
     . rcases e.1.1 with e|e
       . omega
       . have:n0<=n.ae U:=of_decide_eq_true (fm h e);omega
     . have:=e.1.2;subst hy;have:n.ae U<=y:=of_decide_eq_true (fm h this);omega
     . rcases e.2 with e|e
       . exact FL e (g3 r hr)
       . cases b with
         |none=>cases e
         | some z=>
           have:=g2 z rfl;have e:=of_decide_eq_true e;have:xs.length=0:=by omega
           rw[List.length_eq_zero_iff]at this;subst this;cases hr
   . cases e
theorem mY{r:List Int}{j:Nat}{x:Int}(k:Nat):(nB r j x).getD k 0=if k=j then x else r.getD k 0:=by
 unfold nB;split
 . rename_i h;simp only[cH,List.getElem?_set];split
   . rename_i e;subst e;simp[h]
   . rename_i e;rw[if_neg (fun e'=>e e'.symm)]
 . rename_i h;simp only[cH];by_cases h1:k<r.length
   . rw[List.getElem?_append_left h1,if_neg (by omega)]
   . rw[List.getElem?_append_right (by omega)]
     rw[List.getElem?_eq_none (l:=r) (by omega)]
     by_cases h2:k=j
     . rw[if_pos h2,List.getElem?_append_right (by simp;omega)]
       simp only[List.length_replicate];rw[show k-r.length-(j-r.length)=0 by omega]
       rfl
     . rw[if_neg h2];by_cases h3:k<j
       . rw[List.getElem?_append_left (by simp;omega),List.getElem?_replicate,if_pos (by omega)];rfl
       . rw[List.getElem?_eq_none (by simp;omega)]
theorem D0:∀ {cs:List (Int×Int)} {j m:Nat} {x:Rg} {r r':List Int},cn cs m r->In x (r'.getD (m+j) 0)->(∀k,k≠m+j->r'.getD k 0=r.getD k 0)->cn (B7 cs j x) m r':=by
 intro cs;induction cs with
 |nil=>intro j m x r r' _ _ _;cases j<;>simp[B7,cn]
 | cons c cs ih=>
   intro j m x r r' h hx hr;cases j with
   | zero=>
     simp only[B7];split
     . rename_i a b;obtain⟨g1,g2⟩:=oy.1 hx;rw[Nat.add_zero]at g1 g2;refine⟨⟨by show min c.1 a<=_;omega,by show _<=max c.2 b;omega⟩,?_⟩
       have:∀ {cs:List (Int×Int)} {n:Nat},m<n->cn cs n r->cn cs n r':=by
         intro cs;induction cs with
         |nil=>intro n _ _;trivial
         | cons d ds ihd=>
           intro n hn h;refine⟨?_,ihd (by omega) h.2⟩
           rw[hr n (by omega)]
           exact h.1
       exact this (by omega) h.2
     . trivial
   | succ j=>
     refine⟨?_,ih h.2 ?_ fun k hk=>hr k (by omega)⟩
     . rw[hr m (by omega)];exact h.1
     . rwa[show m+1+j=m+(j+1)by omega]
theorem JB:∀ {xs:List Rg} {vs:List Int} {cs:List (Int×Int)} {j:Nat} {r:List Int},cn cs 0 r->(xs.length=vs.length/\∀(i:Nat) (x:Rg) (v:Int),xs[i]?=some x->vs[i]?=some v->In x v)->cn (DT cs j xs) 0 (iL r j vs):=by
 intro xs;induction xs with
 | nil=>intro vs cs j r h hx;cases vs with
   |nil=>exact h
   |cons v vs=>simp at hx
 | cons x xs ih=>
   intro vs cs j r h hx;cases vs with
   |nil=>simp at hx
   | cons v vs=>
     simp only[DT,iL];refine ih (D0 h ?_ fun k hk=>?_) ⟨by simpa using hx.1,fun i x v h1 h2=>hx.2 (i+1) x v (by simpa using h1) (by simpa using h2)⟩
     . rw[mY,if_pos (by omega)]
       exact hx.2 0 x v rfl rfl
     . rw[mY,if_neg (by omega)]
theorem tg{xs:List (List Int)}{cs ds:List (Int×Int)}{i:Nat}{f:List Int->List Int}(h:∀r∈xs,cn cs 0 r)(hw:∀r,cn cs 0 r->cn ds 0 r)(hf:∀r∈xs,cn ds 0 (f r)):∀r∈xs.modify i f,cn ds 0 r:=by
 intro r hr;obtain⟨n,hn,rfl⟩:=List.getElem_of_mem hr;rw[List.getElem_modify];rw[List.length_modify]at hn;split
 . exact hf _ (List.getElem_mem hn)
 . exact hw _ (h _ (List.getElem_mem hn))
theorem fB(h:s.ok U)(k:Nat):(s.iC k).1<=((U k).list.length:Int)/\(∀y,(s.iC k).2.1=some y->((U k).list.length:Int)<=y)/\∀r∈(U k).list,cn (s.iC k).2.2 0 r:=by
 unfold Sk.iC;split
 . rename_i a b c e;obtain⟨xs,hx,h1⟩:=sC (h.find e);rw[hx];exact h1
 . exact⟨by simp,fun _ e=>(by cases e),fun _ _=>trivial⟩
theorem AU{cs:List (Int×Int)}{j m:Nat}{x:Rg}{r:List Int}(h:cn cs m r):cn (B7 cs j x) m r:=by
 induction cs generalizing j m with
 |nil=>cases j<;>simp[B7,cn]
 | cons c cs ih=>
   cases j with
   | zero=>
     simp only[B7];split
     . rename_i a b;have:=h.1;exact⟨⟨by show min c.1 a<=_;omega,by show _<=max c.2 b;omega⟩,h.2⟩
     . trivial
   |succ j=>exact⟨h.1,ih h.2⟩
theorem FM:∀ {xs:List Rg} {cs:List (Int×Int)} {j:Nat} {r:List Int},cn cs 0 r->cn (DT cs j xs) 0 r:=by
 intro xs;induction xs with
 |nil=>intro cs j r h;exact h
 |cons x xs ih=>intro cs j r h;exact ih (AU h)
theorem pc{x:Int×Option Int×List (Int×Int)}{n:List (List Int)}(e:vf x=true)(h:∀y,x.2.1=some y->(n.length:Int)<=y):n=[]:=by
 unfold vf at e;split at e
 . rename_i y hy;have:=h y hy;simp only[aC]at e;exact List.length_eq_zero_iff.1 (by omega)
 . cases e
theorem Mn:∀ {aK:List NK} {hs rest:List Int} {j:Nat},(nD aK hs rest j).length<=(hs.getD j 0).toNat:=by
 intro aK;induction aK with
 |nil=>intro hs rest j;simp[nD]
 | cons k aK ih=>
   intro hs rest j;cases k with
   | c x=>
     cases j with
     |zero=>simp[nD]
     | succ j=>
       have:=ih (hs:=hs.tail) (rest:=rest) (j:=j);simp only[nD];cases hs with
       |nil=>simpa using this
       |cons h hs=>simpa using this
   | s e x=>
     cases j with
     | zero=>
       simp only[nD];cases hs with
       |nil=>simp
       |cons h hs=>simp;omega
     | succ j=>
       have:=ih (hs:=hs.tail) (rest:=rest.drop (hs.headD 0).toNat) (j:=j);simp only[nD];cases hs with
       |nil=>simpa using this
       |cons h hs=>simpa using this
theorem FN{aK:List NK}{r:List Int}{j:Nat}:(dK aK r j).length<=(r.getD j 0).toNat:=by
 unfold dK;refine Nat.le_trans Mn ?_;simp only[cH,List.getElem?_take];split
 . exact Nat.le_refl _
 . simp
theorem Rm(h:s.ok U){id:Nat}{op:cZ}(ho:op.all (im id 1)=true):(s.K3 id op).1.has (.l (op.ae U))/\∀p∈(s.K3 id op).2,p.ae (U.set id (.l (op.ae U)))=true:=by
 have kx:∀k,im id 1 k=true->U.set id (.l (op.ae U)) k=U k:=fun k hk=>(Cc hk).symm
 have hi:(U.set id (.l (op.ae U)) id) = .l (op.ae U):=by simp[az.set]
 have key:∀ {n:IE} {m:Int},((op.ae U).length:Int)=m->n.ae (U.set id (.l (op.ae U)))=m->∀p∈[BE.eq (.len id) n],p.ae (U.set id (.l (op.ae U)))=true:=by
   intro n m h1 h2 p hp;rcases List.mem_singleton.1 hp with rfl;simp only[BE.ae,IE.ae,hi,DV.list,aC];omega
 have hlen:∀k,im id 1 k=true->IE.ae (U.set id (.l (op.ae U))) (.len k)=((U k).list.length:Int):=fun k hk=>by simp only[IE.ae,kx k hk]
 have ien:∀ {e:IE},e.all (im id 1)=true->e.ae (U.set id (.l (op.ae U)))=e.ae U:=fun {e} he=>IE.aq (fun k hk=>kx k hk) he
 cases op with
 | lit rows=>
   refine⟨⟨by simp[cZ.ae],fun y e=>(by cases e;simp[cZ.ae]),fun r hr=>?_⟩,fun p hp=>?_⟩
   . obtain⟨x,hx,rfl⟩:=List.mem_map.1 hr;exact AT (List.mem_map.2 ⟨x,hx,rfl⟩) (vj h x)
   . simp only[Sk.K3]at hp;split at hp
     . rename_i r rs;split at hp
       . simp only[cZ.all,List.all_cons,ao]at ho;have hc:∀(l:List (Sum IE BE)) (j:Nat),l.all (ib (im id 1))=true->(∀i,(r.map (bV U)).getD (j+i) 0=(l.map (bV U)).getD i 0)->∀p∈vg id l j,p.ae (U.set id (.l (cZ.ae U (.lit (r::rs)))))=true:=by
           intro l;induction l with
           |nil=>intro j _ _ p hp;cases hp
           | cons x l ih=>
             intro j ha hg p hp;simp only[List.all_cons,ao]at ha;have Tg:=ih (j+1) ha.2 fun i=>by
               have:=hg (i+1);rw[show j+1+i=j+(i+1)by omega,this];simp
             cases x with
             |inr b=>exact Tg p (by simpa[vg]using hp)
             | inl e=>
               simp only[vg,bq]at hp;rcases hp with rfl|hp
               . have h0:=hg 0;simp only[Nat.add_zero,List.map_cons,List.getD_cons_zero,bV]at h0;refine decide_eq_true ?_;have e1:IE.ae (U.set id (.l (cZ.ae U (.lit (r::rs))))) e=e.ae U:=ien ha.1;rw[e1,<- h0];show cellAt ((U.set id (.l (cZ.ae U (.lit (r::rs))))) id).list 0 j=_;rw[hi];rfl
               . exact Tg p hp
         exact hc r 0 ho.1 (fun i=>by rw[Nat.zero_add]) p hp
       . cases hp
     . cases hp
 | app a b=>
   simp only[cZ.all,ao]at ho;obtain⟨a1,a2,a3⟩:=fB h a;obtain⟨b1,b2,b3⟩:=fB h b;refine⟨⟨by simp only[cZ.ae,eH];omega,fun y e=>?_,fun r hr=>?_⟩,?_⟩
   . obtain⟨u,v,hu,hv,rfl⟩:=jy e;have:=a2 u hu;have:=b2 v hv;simp only[cZ.ae,eH];show _<=u+v;omega
   . rcases List.mem_append.1 hr with hr|hr
     . split
       . rename_i he;rw[pc he a2]at hr;cases hr
       . split
         . exact a3 r hr
         . exact yv (a3 r hr)
     . split
       . exact b3 r hr
       . split
         . rename_i he;rw[pc he b2]at hr;cases hr
         . exact yw (b3 r hr)
   . intro p hp;rcases bq.1 hp with rfl|hp
     . refine key (m:=((U a).list.length:Int)+((U b).list.length:Int)) (by simp[cZ.ae]) ?_ _ (List.mem_singleton.2 rfl)
       have e1:=hlen a ho.1;have e2:=hlen b ho.2;simp only[IE.ae]at e1 e2 ⊢;rw[e1,e2]
     . split at hp
       . rename_i hc;obtain⟨j,_,rfl⟩:=List.mem_map.1 hp;refine decide_eq_true ?_;show cellAt ((U.set id (.l (cZ.ae U (.app a b)))) id).list 0 j=cellAt ((U.set id (.l (cZ.ae U (.app a b)))) a).list 0 j;rw[hi,kx a ho.1];show cellAt ((U a).list++(U b).list) 0 j=_;unfold cellAt;have hl:0<(U a).list.length:=by omega
         have e3:((U a).list++(U b).list).getD (0:Int).toNat []=(U a).list.getD (0:Int).toNat []:=by
           rw[cH,cH,List.getElem?_append_left (by simpa using hl)]
         rw[e3]
       . cases hp
 | set a i j x=>
   simp only[cZ.all,ao]at ho;obtain⟨a1,a2,a3⟩:=fB h a;have hl:(cZ.ae U (.set a i j x)).length=(U a).list.length:=by simp[cZ.ae,setAt]
   refine⟨⟨by rw[hl];exact a1,fun y e=>(by rw[hl];exact a2 y e),?_⟩,key (m:=((U a).list.length:Int)) (by rw[hl]) (hlen a ho.1)⟩
   refine tg a3 (fun r hr=>AU hr) fun r hr=>D0 (a3 r hr) ?_ fun k hk=>?_
   . rw[mY,if_pos (by omega)];exact yx h x
   . rw[mY,if_neg (by omega)]
 | xm a i xs=>
   simp only[cZ.all,ao]at ho;obtain⟨a1,a2,a3⟩:=fB h a;have hl:(cZ.ae U (.xm a i xs)).length=(U a).list.length:=by simp[cZ.ae]
   refine⟨⟨by rw[hl];exact a1,fun y e=>(by rw[hl];exact a2 y e),?_⟩,key (m:=((U a).list.length:Int)) (by rw[hl]) (hlen a ho.1)⟩
   exact tg a3 (fun r hr=>yv hr) fun r hr=>yw (vj h xs)
 | zu a i j xs=>
   simp only[cZ.all,ao]at ho;obtain⟨a1,a2,a3⟩:=fB h a;have hl:(cZ.ae U (.zu a i j xs)).length=(U a).list.length:=by simp[cZ.ae]
   refine⟨⟨by rw[hl];exact a1,fun y e=>(by rw[hl];exact a2 y e),?_⟩,key (m:=((U a).list.length:Int)) (by rw[hl]) (hlen a ho.1)⟩
   refine tg a3 (fun r hr=>FM hr) fun r hr=>JB (a3 r hr) ⟨by simp,fun k x v h1 h2=>?_⟩
   simp only[List.getElem?_map,bB]at h1 h2;obtain⟨u,hu,rfl⟩:=h1;obtain⟨v,hv,rfl⟩:=h2;rw[hu]at hv;cases hv;exact yx h u
 | take a n=>
   simp only[cZ.all,ao]at ho;obtain⟨a1,a2,a3⟩:=fB h a;have hn:=Ca (uc h n) (show In (some 0,some 0) 0 from oy.2 (by omega))
   have hl:((cZ.ae U (.take a n)).length:Int)=min ((U a).list.length:Int) (max (n.ae U) 0):=by simp only[cZ.ae,List.length_take];omega
   refine⟨⟨Int.natCast_nonneg _,fun y e=>?_,fun r hr=>a3 r (List.mem_of_mem_take hr)⟩,?_⟩
   . rw[hl];exact(Hf (a:=(none,(s.iC a).2.1)) ⟨fun _ e=>(by cases e),a2⟩ hn).2 y e
   . simp only[Sk.K3];split
     . rename_i hc;simp only[ao]at hc;have h1:n.ae U<=((U a).list.length:Int):=of_decide_eq_true (fm h hc.1);have h2:0<=n.ae U:=of_decide_eq_true (fm h hc.2);exact key (m:=n.ae U) (by rw[hl];omega) (ien ho.2)
     . intro p hp;cases hp
 | rep n row=>
   simp only[cZ.all]at ho;have hn:=Ca (uc h n) (show In (some 0,some 0) 0 from oy.2 (by omega))
   have hl:((cZ.ae U (.rep n row)).length:Int)=max (n.ae U) 0:=by simp only[cZ.ae,List.length_replicate];omega
   refine⟨⟨Int.natCast_nonneg _,fun y e=>(by rw[hl];exact hn.2 y e),fun r hr=>?_⟩,?_⟩
   . have:=List.eq_of_mem_replicate hr;subst this;have gen:∀ {l:List Int} {m:Nat},(∀i,r.getD (m+i) 0=l.getD i 0)->cn (l.map fun x=>(x,x)) m r:=by
       intro l;induction l with
       |nil=>intro m _;trivial
       | cons x l ih=>
         intro m hm;refine⟨?_,ih fun i=>?_⟩
         . have:=hm 0;simp only[Nat.add_zero]at this;rw[this];simp
         . have:=hm (i+1);rw[show m+1+i=m+(i+1)by omega,this]
           simp
     exact gen fun i=>by rw[Nat.zero_add]
   . simp only[Sk.K3];split
     . rename_i hc;have h1:0<=n.ae U:=of_decide_eq_true (fm h hc);exact key (m:=n.ae U) (by rw[hl];omega) (ien ho)
     . intro p hp;cases hp
 | cp a=>
   simp only[cZ.all]at ho;obtain⟨a1,a2,a3⟩:=fB h a;exact⟨⟨a1,a2,a3⟩,key (m:=((U a).list.length:Int)) rfl (hlen a ho)⟩
 | sub a i aK j=>
   refine⟨⟨by omega,fun y e=>?_,fun _ _=>trivial⟩,fun p hp=>(by cases hp)⟩
   obtain⟨a1,a2,a3⟩:=fB h a;split at e
   . rename_i c hc;cases e;have:=(Hh (i:=i.ae U) a3 (show(s.iC a).2.2[j]?=some (c.1,c.2)from hc)).2.2
     have hl:=FN (aK:=aK) (r:=(U a).list.getD (i.ae U).toNat []) (j:=j);simp only[cZ.ae,List.length_map];unfold cellAt at this;omega
   . cases e
 | Qh a b=>
   simp only[cZ.all,ao]at ho;obtain⟨a1,a2,a3⟩:=fB h a;obtain⟨b1,b2,b3⟩:=fB h b;have hl:(cZ.ae U (.Qh a b)).length=(U a).list.length:=by simp only[cZ.ae,eH,List.length_take,List.length_drop];omega
   refine⟨⟨by rw[hl];exact a1,fun y e=>(by rw[hl];exact a2 y e),fun r hr=>?_⟩,key (m:=((U a).list.length:Int)) (by rw[hl]) (hlen a ho.1)⟩
   rcases List.mem_append.1 hr with hr|hr
   . have cF:=List.mem_of_mem_take hr;split
     . exact b3 r cF
     . split
       . rename_i he;rw[pc he b2]at cF;cases cF
       . exact yw (b3 r cF)
   . have cF:=List.mem_of_mem_drop hr;split
     . rename_i he;rw[pc he a2]at cF;cases cF
     . split
       . exact a3 r cF
       . exact yv (a3 r cF)
 |zA rows=>exact⟨⟨by simp[cZ.ae],fun y e=>(by cases e;simp[cZ.ae]),fun _ _=>trivial⟩,fun p hp=>(by cases hp)⟩
def Sb.is(U:az):Sb->DV->Prop
 |.nm k,d=>U k=d
 |.de x,d=>x.ae U=d
 |.no,_=>True
variable {σ:Nat->Sb}{fK:az}
theorem lL{α β γ:Type}{f:α->β->γ}{a:Option α}{b:Option β}{z:γ}(h:p2 f a b=some z):∃x y,a=some x/\b=some y/\z=f x y:=by
 cases a<;>cases b<;>simp_all[p2]
theorem ud{α β:Type}{f:α->β}{a:Option α}{z:β}(h:p1 f a=some z):∃x,a=some x/\z=f x:=by
 cases a<;>simp_all[p1]
theorem Z5{b:Sb}{d:DV}{e:IE}(h:b.is U d)(he:b.int=some e):e.ae U=d.int:=by
 cases b with
 |nm k=>simp only[Sb.int,af]at he;subst he;simp only[IE.ae];rw[show U k=d from h]
 | de x=>
   cases x<;>simp[Sb.int,DE.asI]at he;subst he;rw[<- (show _=d from h)];rfl
 |no=>simp[Sb.int]at he
theorem Vu{b:Sb}{d:DV}{e:BE}(h:b.is U d)(he:b.bool=some e):e.ae U=d.bool:=by
 cases b with
 |nm k=>simp only[Sb.bool,af]at he;subst he;simp only[BE.ae];rw[show U k=d from h]
 | de x=>
   cases x<;>simp[Sb.bool,DE.asB]at he;subst he;rw[<- (show _=d from h)];rfl
 |no=>simp[Sb.bool]at he
theorem Z6{b:Sb}{d:DV}{e:IE}(h:b.is U d)(he:b.len=some e):e.ae U=(d.list.length:Int):=by
 cases b with
 |nm k=>simp only[Sb.len,af]at he;subst he;simp only[IE.ae];rw[show U k=d from h]
 | de x=>
   obtain⟨xs,h1,h2⟩:=DZ (U:=U) (show x.L7=some e from he)
   rw[h2,<- (show _=d from h),h1];rfl
 |no=>simp[Sb.len]at he
theorem Vv{b:Sb}{d:DV}{k:Nat}(h:b.is U d)(he:b.list=some k):(U k).list=d.list:=by
 cases b with
 |nm j=>simp only[Sb.list,af]at he;subst he;rw[show U j=d from h]
 | de x=>
   cases x<;>simp[Sb.list,DE.asL]at he;subst he;rw[<- (show _=d from h)];rfl
 |no=>simp[Sb.list]at he
theorem Vw{b:Sb}{d:DV}{m:Option Int}{j:Nat}{e i:IE}(h:b.is U d)(hm:i.Yz=m)(he:b.cell m j=some e)(hi:i.ae fK=i.ae fK):e.ae U=cellAt d.list (i.ae fK) j:=by
 unfold Sb.cell at he;split at he
 . cases he;rw[<- (show _=d from h)]
   simp[DE.ae,DV.list,cellAt,IE.ae]
 . rename_i es m;split at he
   . rename_i h0;rw[Cb hm,<- (show _=d from h)]
     have e2:(es.map fun e=>[e.ae U]).getD m.toNat []=[e.ae U]:=by
       rw[cH,List.getElem?_map,he];rfl
     show _=((es.map fun e=>[e.ae U]).getD m.toNat []).getD 0 0
     rw[e2];rfl
   . cases he
 . rename_i xs;rw[Cb hm,<- (show _=d from h)]
   split at he
   . rename_i e' hx;cases he;simp only[DE.ae,DV.list,cellAt];show _=(List.map (bV U) xs).getD j 0;rw[cH,List.getElem?_map,hx];rfl
   . cases he
 . cases he
theorem D1(h:∀k,(σ k).is U (fK k)):∀ {e e':IE},e.put σ=some e'->e'.ae U=e.ae fK:=by
 intro e;induction e with
 |v k=>intro e' he;exact Z5 (h k) he
 |c n=>intro e' he;cases he;rfl
 |ediv a n ih=>intro e' he;obtain⟨x,hx,rfl⟩:=ud he;simp only[IE.ae,ih hx]
 |emod a n ih=>intro e' he;obtain⟨x,hx,rfl⟩:=ud he;simp only[IE.ae,ih hx]
 |wrap k a ih=>intro e' he;obtain⟨x,hx,rfl⟩:=ud he;simp only[IE.ae,ih hx]
 |len k=>intro e' he;exact Z6 (h k) he
 | get k i j ih=>
   intro e' he;simp only[IE.put]at he;split at he
   . rename_i x hx;cases he;exact Vw (h k) rfl hx rfl
   . obtain⟨x,y,hx,hy,rfl⟩:=lL he;simp only[IE.ae,ih hy,Vv (h k) hx]
 | kq i n a b ihi eF fa=>
   intro e' he;obtain⟨x,y,hx,hy,rfl⟩:=lL he;obtain⟨u,v,hu,hv,rfl⟩:=lL hy;simp only[IE.ae,ihi hx,eF hu,fa hv]
 |bits o k a b eF fa=>intro e' he;obtain⟨x,y,hx,hy,rfl⟩:=lL he;simp only[IE.ae,eF hx,fa hy]
 |_ a b eF fa=>intro e' he;obtain⟨x,y,hx,hy,rfl⟩:=lL he;simp only[IE.ae,eF hx,fa hy]
theorem Z7(h:∀k,(σ k).is U (fK k)):∀ {e e':BE},e.put σ=some e'->e'.ae U=e.ae fK:=by
 intro e;induction e with
 |v k=>intro e' he;exact Vu (h k) he
 |c n=>intro e' he;cases he;rfl
 |not a ih=>intro e' he;obtain⟨x,hx,rfl⟩:=ud he;simp only[BE.ae,ih hx]
 |si a=>intro e' he;obtain⟨x,hx,rfl⟩:=ud he;simp only[BE.ae,D1 h hx]
 |lt a b=>intro e' he;obtain⟨x,y,hx,hy,rfl⟩:=lL he;simp only[BE.ae,D1 h hx,D1 h hy]
 |le a b=>intro e' he;obtain⟨x,y,hx,hy,rfl⟩:=lL he;simp only[BE.ae,D1 h hx,D1 h hy]
 |eq a b=>intro e' he;obtain⟨x,y,hx,hy,rfl⟩:=lL he;simp only[BE.ae,D1 h hx,D1 h hy]
 |_ a b eF fa=>intro e' he;obtain⟨x,y,hx,hy,rfl⟩:=lL he;simp only[BE.ae,eF hx,fa hy]
theorem pf(e:IE):(∀k∈e.names,U k=ak k)->e.ae U=e.ae ak:=by
 induction e with
 |v k=>intro h;simp only[IE.ae,h k (by simp[IE.names])]
 |c n=>intro _;rfl
 |len k=>intro h;simp only[IE.ae,h k (by simp[IE.names])]
 |get k i j ih=>intro h;simp only[IE.names,bq,forall_eq_or_imp]at h;simp only[IE.ae,h.1,ih h.2]
 |kq i n a b rW rX Un=>intro h;simp only[IE.names,List.mem_append]at h;simp only[IE.ae,rW fun k hk=>h k (.inl (.inl hk)),rX fun k hk=>h k (.inl (.inr hk)),Un fun k hk=>h k (.inr hk)]
 |ediv a n ih=>intro h;simp only[IE.ae,ih h]
 |emod a n ih=>intro h;simp only[IE.ae,ih h]
 |wrap k a ih=>intro h;simp only[IE.ae,ih h]
 |bits o k a b rW rX=>intro h;simp only[IE.names,List.mem_append]at h;simp only[IE.ae,rW fun k hk=>h k (.inl hk),rX fun k hk=>h k (.inr hk)]
 |_ a b rW rX=>intro h;simp only[IE.names,List.mem_append]at h;simp only[IE.ae,rW fun k hk=>h k (.inl hk),rX fun k hk=>h k (.inr hk)]
theorem Vx(e:BE):(∀k∈e.names,U k=ak k)->e.ae U=e.ae ak:=by
 induction e with
 |v k=>intro h;simp only[BE.ae,h k (by simp[BE.names])]
 |c n=>intro _;rfl
 |not a ih=>intro h;simp only[BE.ae,ih h]
 |si a=>intro h;simp only[BE.ae,pf a h]
 |lt a b=>intro h;simp only[BE.names,List.mem_append]at h;simp only[BE.ae,pf a fun k hk=>h k (.inl hk),pf b fun k hk=>h k (.inr hk)]
 |le a b=>intro h;simp only[BE.names,List.mem_append]at h;simp only[BE.ae,pf a fun k hk=>h k (.inl hk),pf b fun k hk=>h k (.inr hk)]
 |eq a b=>intro h;simp only[BE.names,List.mem_append]at h;simp only[BE.ae,pf a fun k hk=>h k (.inl hk),pf b fun k hk=>h k (.inr hk)]
 |_ a b rW rX=>intro h;simp only[BE.names,List.mem_append]at h;simp only[BE.ae,rW fun k hk=>h k (.inl hk),rX fun k hk=>h k (.inr hk)]
end Go.Sx
namespace Go.Sx
variable {s:Sk}{U:az}
def Cn.fS(c:Cn)(ds:List DV):Prop:=kT c.args ds/\∀p∈c.pre,p.ae (aM.ar 0 ds)=true
def fK(ds rs:List DV):az:=(aM.ar 0 ds).ar R0 rs
def Cn.fX(c:Cn)(ds rs:List DV):Prop:=kT c.res rs/\∀p∈c.post,p.ae (fK ds rs)=true
theorem append_nil{α:Type}{a b:List α}(h:a++b=[]):a=[]/\b=[]:=by
 cases a<;>simp_all
theorem lM(h:s.ok U){eO:List (List BE×BE)}(hl:∀l∈eO,fv l){p:BE}(e:s.ask eO p=[]):p.ae U=true:=by
 unfold Sk.ask at e;split at e
 . rename_i hs;exact Vs h hl hs
 . cases e
theorem Mo(h:s.ok U){eO:List (List BE×BE)}(hl:∀l∈eO,fv l){d:DE}{a:A}(e:s.FG eO d a=[]):a.has (d.ae U):=by
 cases a with
 | i lo hi=>
   cases d with
   | i x=>
     simp only[Sk.FG]at e;obtain⟨e1,e2⟩:=append_nil e;exact⟨of_decide_eq_true (lM h hl e1),of_decide_eq_true (lM h hl e2)⟩
   |_=>simp[Sk.FG]at e
 | b => simp only[Sk.FG]at e;split at e
        . rename_i hf;exact yy h hf
        . cases e
 | t => simp only[Sk.FG]at e;split at e
        . rename_i hf;exact yy h hf
        . cases e
 | l x y z => simp only[Sk.FG]at e;split at e
              . rename_i hf;exact yy h hf
              . cases e
theorem rQ(h:s.ok U){eO:List (List BE×BE)}(hl:∀l∈eO,fv l):∀ {ds:List DE} {as:List A},s.qP eO ds as=[]->kT as (ds.map (DE.ae U)):=by
 intro ds;induction ds with
 | nil=>intro as e;cases as with
   |nil=>trivial
   |cons a as=>simp[Sk.qP]at e
 | cons d ds ih=>
   intro as e;cases as with
   |nil=>simp[Sk.qP]at e
   | cons a as=>
     simp only[Sk.qP]at e;obtain⟨e1,e2⟩:=append_nil e;exact⟨Mo h hl e1,ih e2⟩
theorem ue(h:s.ok U){eO:List (List BE×BE)}(hl:∀l∈eO,fv l){σ:Nat->Sb}{e2:az}(YB:∀k,(σ k).is U (e2 k)){ps:List BE}(e:s.asks eO σ ps=[]):∀p∈ps,p.ae e2=true:=by
 intro p hp;unfold Sk.asks at e;rw[List.flatMap_eq_nil_iff]at e;have:=e p hp;split at this
 . rename_i p' vd;rw[<- Z7 YB vd];exact lM h hl this
 . cases this
theorem Rn{a c:A}{d:DV}(h:a.has d):(a.yj c).has d:=by
 cases a with
 | i x y=>cases c with
   |i z w=>obtain⟨n,rfl,g1,g2⟩:=Hg h;exact⟨by omega,by omega⟩
   |_=>cases d<;>trivial
 | b=>cases c with
   |b=>exact h
   |_=>cases d<;>trivial
 |t=>cases c<;>cases d<;>trivial
 | l x y u=>cases c with
   | l z w v=>
     obtain⟨xs,rfl,g1,g2,g3⟩:=sC h;refine⟨by omega,fun t e=>?_,fun r hr=>?_⟩
     . obtain⟨p,q,hp,hq,rfl⟩:=jy e;have:=g2 p hp;show _<=max p q;omega
     . split
       . rename_i hn;cases y with
         |none=>cases hn
         | some y=>
           have:=g2 y rfl;have hn:=of_decide_eq_true hn;have:xs=[]:=List.length_eq_zero_iff.1 (by omega)
           subst this;cases hr
       . split
         . exact g3 r hr
         . exact yv (g3 r hr)
   |_=>cases d<;>trivial
theorem Ro{a c:A}{d:DV}(h:c.has d):(a.yj c).has d:=by
 cases a with
 | i x y=>cases c with
   |i z w=>obtain⟨n,rfl,g1,g2⟩:=Hg h;exact⟨by omega,by omega⟩
   |_=>cases d<;>trivial
 | b=>cases c with
   |b=>exact h
   |_=>cases d<;>trivial
 |t=>cases c<;>cases d<;>trivial
 | l x y u=>cases c with
   | l z w v=>
     obtain⟨xs,rfl,g1,g2,g3⟩:=sC h;refine⟨by omega,fun t e=>?_,fun r hr=>?_⟩
     . obtain⟨p,q,hp,hq,rfl⟩:=jy e;have:=g2 q hq;show _<=max p q;omega
     . split
       . exact g3 r hr
       . split
         . rename_i hn;cases w with
           |none=>cases hn
           | some w=>
             have:=g2 w rfl;have hn:=of_decide_eq_true hn;have:xs=[]:=List.length_eq_zero_iff.1 (by omega)
             subst this;cases hr
         . exact yw (g3 r hr)
   |_=>cases d<;>trivial
theorem Rp:∀ {as:List A} {ds:List DV},kT as ds->kT (as.map fun a=>a.yj (zX a)) ds:=by
 intro as;induction as with
 |nil=>intro ds h;exact h
 | cons a as ih=>intro ds h;cases ds with
   |nil=>exact h.elim
   |cons d ds=>exact⟨Rn h.1,ih h.2⟩
theorem Rq:∀ {cs:List CT} {as:List A},o8 cs as=true->kT (as.map fun a=>a.yj (zX a)) (defs cs):=by
 intro cs;induction cs with
 | nil=>intro as h;cases as with
   |nil=>trivial
   |cons a as=>simp[o8]at h
 | cons c cs ih=>
   intro as h;cases as with
   |nil=>simp[o8]at h
   | cons a as=>
     simp only[o8,ao]at h;have hr:=ih h.2;have h1:=h.1;have key:∀d:DV,(zX a).has d->defs (c::cs)=d::defs cs->kT (List.map (fun a=>a.yj (zX a)) (a::as)) (defs (c::cs)):=fun d hd e=>by
       rw[e];exact⟨Ro hd,hr⟩
     cases c with
     | c k=>cases k with
       | i k=>cases a with
         |i x y=>exact key (.i 0) ⟨by omega,by omega⟩ rfl
         |t=>exact key (.i 0) trivial rfl
         |_=>simp at h1
       | b=>cases a with
         |b=>exact key (.b false) trivial rfl
         |t=>exact key (.b false) trivial rfl
         |_=>simp at h1
       | f=>cases a with
         |i x y=>exact key (.i 0) ⟨by omega,by omega⟩ rfl
         |t=>exact key (.i 0) trivial rfl
         |_=>simp at h1
     | s e ks=>cases a with
       |l x y z=>exact key (.l []) ⟨by simp,fun y e=>(by cases e;simp),fun r hr=>(by cases hr)⟩ rfl
       |t=>exact key (.l []) trivial rfl
       |_=>simp at h1
     | n e ks=>cases a with
       |l x y z=>exact key (.l []) ⟨by simp,fun y e=>(by cases e;simp),fun r hr=>(by cases hr)⟩ rfl
       |t=>exact key (.l []) trivial rfl
       |_=>simp at h1
def Rr(U:az)(pr:List Nat)(ls:List Lc)(F:Nat->List DV->Prop):Prop:=
 ∀id l,ls.find? (fun l=>Nat.beq l.id id)=some l->(∀k∈l.iv.names,k∈pr)/\∀vs,kT l.iv.as vs->(∀p∈l.iv.ex,p.ae (U.ar l.base vs)=true)->(l.iv.me.ae (U.ar l.base vs)).toNat<(l.iv.me.ae U).toNat->F id vs
def Z8(er:Int×Int):Nat->List (Int->Prop)->Prop
 |0,_=>True
 |d+1,p::ps=>(∀n,er.1<=n->n<=er.2->p n)/\Z8 er d ps
 |_+1,[]=>False
theorem AV{base:Nat}{vs:List DV}{ak:az}{k:Nat}(h:U k=ak k):U.ar base vs k=ak.ar base vs k:=by
 by_cases h1:k<base
 . rw[az.aX h1,az.aX h1,h]
 . by_cases h2:base+vs.length<=k
   . rw[az.ej h2,az.ej h2,h]
   . have e:vs[k-base]?=some (vs[k-base]'(by omega)):=dJ _
     rw[show k=base+(k-base)by omega,az.cm e,az.cm e]
theorem Rr.move{ak:az}{pr:List Nat}{ls:List Lc}{F:Nat->List DV->Prop}(h:Rr U pr ls F)(he:∀k∈pr,U k=ak k):Rr ak pr ls F:=by
 intro id l hl;obtain⟨h1,h2⟩:=h id l hl;refine⟨h1,fun vs hv hx hm=>h2 vs hv (fun p hp=>?_) ?_⟩
 . rw[Vx p (ak:=ak.ar l.base vs) fun k hk=>AV (he k (h1 k ?_))]
   . exact hx p hp
   . exact List.mem_append_right _ (List.mem_flatMap.2 ⟨p,hp,hk⟩)
 . have e1:l.iv.me.ae (U.ar l.base vs)=l.iv.me.ae (ak.ar l.base vs):=pf _ fun k hk=>AV (he k (h1 k (List.mem_append_left _ hk)))
   have e2:l.iv.me.ae U=l.iv.me.ae ak:=pf _ fun k hk=>he k (h1 k (List.mem_append_left _ hk))
   rw[e1,e2];exact hm
theorem oh{pr:List Nat}{base n:Nat}(h:free pr base n=true){ds:List DV}(hn:ds.length=n):∀k∈pr,U k=U.ar base ds k:=by
 intro k hk;exact qU hn (List.all_eq_true.1 h k hk)
theorem rR{pr:List Nat}{base:Nat}(h:free pr base 1=true){d:DV}:∀k∈pr,U k=U.set base d k:=by
 intro k hk;exact Cc (List.all_eq_true.1 h k hk)
theorem Rt{base n:Nat}{ds:List DV}(hn:ds.length=n){d:DE}(h:d.off base n=true):d.ae (U.ar base ds)=d.ae U:=by
 have he:∀k,im base n k=true->U.ar base ds k=U k:=fun k hk=>(qU hn hk).symm
 cases d with
 |i e=>simp only[DE.ae,IE.aq he h]
 |b e=>simp only[DE.ae,BE.aq he h]
 |l k=>simp only[DE.ae,he k h]
 |nil=>rfl
 | rows es=>
   simp only[DE.ae];congr 1;exact List.map_congr_left fun e hm=>by rw[IE.aq he (List.all_eq_true.1 h e hm)]
 | sU xs=>
   simp only[DE.ae];congr 2;refine List.map_congr_left fun e hm=>?_
   have:=List.all_eq_true.1 h e hm;cases e with
   |inl e=>simp only[bV];exact IE.aq he this
   |inr e=>simp only[bV,BE.aq he (show e.all _=true from this)]
theorem Mp{ds:List DV}{k:Nat}{d:DV}(h:ds[k]?=some d):aM.ar 0 ds k=d:=by
 have:=az.cm (U:=aM) (k:=0) h;rwa[Nat.zero_add]at this
theorem Hl{ds rs:List DV}{k:Nat}(h:k<R0):fK ds rs k=aM.ar 0 ds k:=az.aX h
theorem Hm{ds rs:List DV}{k:Nat}{d:DV}(h:rs[k]?=some d):fK ds rs (R0+k)=d:=az.cm h
theorem AW{args:List DE}{base:Nat}{rs:List DV}{ak:az}{ds:List DV}(hd:ds=args.map (DE.ae ak))(hsm:args.length<R0)(hr:∀j d,rs[j]?=some d->ak (base+j)=d) :
   ∀k,(qQ args rs.length base k).is ak (fK ds rs k):=by
 intro k;unfold qQ;split
 . rename_i h1;have h1:k<args.length:=by simpa[Nat.blt_eq]using h1
   split
   . rename_i d hk;show d.ae ak=_;rw[Hl (by omega)]
     refine(Mp ?_).symm;rw[hd,List.getElem?_map,hk];rfl
   . trivial
 . split
   . rename_i h1;simp only[ao,Nat.ble_eq,Nat.blt_eq]at h1;show ak _=_;have e:rs[k-R0]?=some (rs[k-R0]'(by omega)):=dJ _
     rw[hr _ _ e];have:=Hm (ds:=ds) e;rw[show R0+(k-R0)=k by omega]at this
     rw[this]
   . trivial
theorem Hn{base:Nat}{bJ:List DE}:∀k,(Jz base bJ.length bJ k).is U (U.ar base (bJ.map (DE.ae U)) k):=by
 intro k;unfold Jz;split
 . rename_i h;simp only[ao,Nat.ble_eq,Nat.blt_eq]at h;split
   . rename_i d hd;have e:(bJ.map (DE.ae U))[k-base]?=some (d.ae U):=by rw[List.getElem?_map,hd];rfl
     show d.ae U=_;have:=az.cm (U:=U) (k:=base) e;rw[show base+(k-base)=k by omega]at this
     exact this.symm
   . trivial
 . rename_i h;simp only[ao,Nat.ble_eq,Nat.blt_eq]at h;show U k=_;by_cases h1:k<base
   . exact(az.aX h1).symm
   . exact(az.ej (by simp;omega)).symm
theorem Mq{n:Nat}{bJ:List DE}{ds:List DV}(hn:n<=R0)(ha:∀k,k<n->U k=aM.ar 0 ds k):∀k,(Ma n bJ k).is U (fK ds (bJ.map (DE.ae U)) k):=by
 intro k;unfold Ma;split
 . rename_i h;have h:k<n:=by simpa[Nat.blt_eq]using h
   show U k=_;rw[Hl (by omega),ha k h]
 . split
   . rename_i h;simp only[Nat.ble_eq]at h;split
     . rename_i d hd;have e:(bJ.map (DE.ae U))[k-R0]?=some (d.ae U):=by rw[List.getElem?_map,hd];rfl
       show d.ae U=_;have:=Hm (ds:=ds) e;rw[show R0+(k-R0)=k by omega]at this
       exact this.symm
     . trivial
   . trivial
theorem vk(h:s.ok U){as:List A}{base:Nat}{ds:List DV}(ha:kT as ds):({s.fG (im base as.length)with g:=mA base as++(s.fG (im base as.length)).g}:Sk).ok (U.ar base ds):=by
 have hk:=Hk (ak:=U.ar base ds) h (p:=im base as.length) fun k hk=>qU ha.len.symm hk
 refine⟨fun p hp=>?_,hk.q,hk.f⟩
 rcases List.mem_append.1 hp with hp|hp
 . exact mD ha p hp
 . exact hk.g p hp
theorem D2(h:s.ok U){a:A}{id:Nat}{d:DV}(ha:a.has d):({s.fG (im id 1)with g:=(id,a)::(s.fG (im id 1)).g}:Sk).ok (U.set id d):=by
 have hk:=Hk (ak:=U.set id d) h (p:=im id 1) fun k hk=>Cc hk
 refine⟨fun p hp=>?_,hk.q,hk.f⟩
 rcases bq.1 hp with rfl|hp
 . simpa[az.set]using ha
 . exact hk.g p hp
theorem Ho{c:Bool}{v:Vc}(h:(if c=true then []else [v])=[]):c=true:=by
 cases c
 . cases h
 . rfl
theorem Hp{K:Nat->Option Cn}{key:FuncId->Nat}{an:An}{out:Cn}{E:Nat->List DV->List DV->Prop}{Vh:List DV}
   (hK:∀f c,K (key f)=some c->∀ds,c.fS ds->∃rs,E f ds rs/\c.fX ds rs) (hl:∀l∈an.eO,fv l) (u9:out.args.length<=R0) :
   ∀ {t:aw} {s:Sk} {ls:List Lc} {d:Nat} {pr:List Nat} {U:az} {Ps:List (Int->Prop)} {F:Nat->List DV->Prop},
     s.ok U->t.mW K key an out s ls d pr=[]->(∀k,k<out.args.length->k∈pr)->(∀k,k<out.args.length->U k=aM.ar 0 Vh k)->Rr U pr ls F->Z8 an.er d Ps->t.fW E (out.fX Vh) Ps U F:=by
 intro t;induction t with
 | ret bJ=>
   intro s ls d pr U Ps F h e hp ha hL hP;simp only[aw.mW]at e;obtain⟨e1,e2⟩:=append_nil e;exact⟨rQ h hl e1,ue h hl (Mq u9 ha) e2⟩
 | stuck w=>
   intro s ls d pr U Ps F h e hp ha hL hP;have:=lM h hl (by simpa only[aw.mW]using e)
   cases this
 | ev ev t ih=>
   intro s ls d pr U Ps F h e hp ha hL hP;cases ev with
   | aG p=>
     simp only[aw.mW]at e;split at e
     . rename_i hpv;exact⟨fm h hpv,ih h e hp ha hL hP⟩
     . obtain⟨e1,e2⟩:=append_nil e;have hd:=lM h hl e1;exact⟨hd,ih (rP h hd) e2 hp ha hL hP⟩
   |dd p x=>simp[aw.mW]at e
   | ch id op=>
     simp only[aw.mW]at e;obtain⟨e1,e2⟩:=append_nil e;have hc:=Ho e1;simp only[ao]at hc;obtain⟨l1,l2⟩:=Rm h hc.2;have k:=j4 (D2 h l1) l2;exact ih k e2 hp (fun j hj=>by rw[<- rR hc.1 j (hp j hj)];exact ha j hj) (hL.move (rR hc.1)) hP
   | call f g args res base=>
     simp only[aw.mW]at e;split at e
     . cases e
     . rename_i c hc;obtain⟨ea,e⟩:=append_nil e;obtain⟨eb,e⟩:=append_nil e;obtain⟨ea1,ea2⟩:=append_nil ea;have gD:=Ho eb;simp only[ao,Nat.blt_eq]at gD;obtain⟨aR,Z9,TJ,sO,hsm⟩:=gD;refine⟨fun hg=>?_,fun hg=>?_⟩
       . have h1:=rP h hg;have hd:∀k,(qQ args 0 base k).is U (fK (args.map (DE.ae U)) [] k):=AW (rs:=[]) rfl hsm (fun j d hj=>by simp at hj)
         have zI:c.fS (args.map (DE.ae U)):=⟨rQ h1 hl ea1,ue (e2:=aM.ar 0 (args.map (DE.ae U))) h1 hl (fun k=>by
           have:=hd k;rwa[show fK (args.map (DE.ae U)) [] k=aM.ar 0 (args.map (DE.ae U)) k from rfl]at this) ea2⟩
         obtain⟨rs,hE,rZ,DM⟩:=hK f c hc _ zI;refine⟨rs,hE,?_⟩;have hlen:=rZ.len;have hA:kT (if g.beq (.c true)then c.res else c.res.map fun a=>a.yj (zX a)) rs:=by
           split
           . exact rZ
           . exact Rp rZ
         have Lz:(if g.beq (.c true)then c.res else c.res.map fun a=>a.yj (zX a)).length=c.res.length:=by split<;>simp
         have k3:=vk h (base:=base) hA;rw[Lz]at k3;have eK:args.map (DE.ae (U.ar base rs))=args.map (DE.ae U):=List.map_congr_left fun x hx=>Rt hlen.symm (List.all_eq_true.1 Z9 x hx)
         have YB:∀k,(qQ args c.res.length base k).is (U.ar base rs) (fK (args.map (DE.ae U)) rs k):=by
           rw[hlen];exact AW eK.symm hsm fun j d hj=>az.cm hj
         have kf:g.ae (U.ar base rs)=true:=by
           rw[BE.aq (fun k hk=>(qU hlen.symm hk).symm) TJ];exact hg
         refine ih (j4 k3 fun p hp=>?_) e hp (fun j hj=>by rw[<- oh aR hlen.symm j (hp j hj)];exact ha j hj) (hL.move (oh aR hlen.symm)) hP
         obtain⟨q,hq,uW⟩:=List.mem_filterMap.1 hp;simp only[bB]at uW;obtain⟨q',Km,rfl⟩:=uW;have:q'.ae (U.ar base rs)=true:=by rw[Z7 YB Km];exact DM q hq
         split
         . exact this
         . simp[BE.ae,this]
       . have hA:kT (c.res.map fun a=>a.yj (zX a)) (defs (bD res)):=Rq sO
         have hlen:c.res.length=(defs (bD res)).length:=by have:=hA.len;simpa using this
         have Yk:g.beq (.c true)=false:=by
           cases hb:g.beq (.c true)with
           |false=>rfl
           |true=>rw[BE.beq_eq hb]at hg;cases hg
         have k3:=vk h (base:=base) hA;simp only[List.length_map]at k3;have kf:g.ae (U.ar base (defs (bD res)))=false:=by
           rw[BE.aq (fun k hk=>(qU hlen.symm hk).symm) TJ];exact hg
         simp only[Yk]at e;refine ih (j4 k3 fun p hp=>?_) e hp (fun j hj=>by rw[<- oh aR hlen.symm j (hp j hj)];exact ha j hj) (hL.move (oh aR hlen.symm)) hP
         obtain⟨q,hq,uW⟩:=List.mem_filterMap.1 hp;simp only[bB]at uW;obtain⟨q',Km,rfl⟩:=uW;simp[BE.ae,kf]
 | ite c a b eF fa=>
   intro s ls d pr U Ps F h e hp ha hL hP;simp only[aw.mW]at e;split at e
   . rename_i hpv;have:=fm h hpv;exact⟨fun hc=>eF (rP h hc) e hp ha hL hP,fun hc=>(by rw[this]at hc;cases hc)⟩
   . split at e
     . rename_i Yh;have:=mC h Yh;exact⟨fun hc=>(by rw[this]at hc;cases hc),fun hc=>fa (tf h hc) e hp ha hL hP⟩
     . obtain⟨e1,e2⟩:=append_nil e;exact⟨fun hc=>eF (rP h hc) e1 hp ha hL hP,fun hc=>fa (tf h hc) e2 hp ha hL hP⟩
 | loop id entry ks base body ih=>
   intro s ls d pr U Ps F h e hp ha hL hP;simp only[aw.mW]at e;split at e
   . cases e
   . rename_i _ _ v _;obtain⟨e1,e⟩:=append_nil e;obtain⟨e2,e⟩:=append_nil e;obtain⟨e3,e⟩:=append_nil e;have aR:=Ho e3;have hen:=rQ h hl e1;have hlen:entry.length=v.as.length:=by have:=hen.len;simpa using this.symm
     refine⟨fun vs=>kT v.as vs/\∀p∈v.ex,p.ae (U.ar base vs)=true,fun vs=>(v.me.ae (U.ar base vs)).toNat,⟨hen,?_⟩,fun vs hi=>?_⟩
     . refine ue h hl (fun k=>?_) e2
       have:=Hn (U:=U) (base:=base) (bJ:=entry) k;rwa[hlen]at this
     . obtain⟨GH,Mr⟩:=hi;have Ao:=GH.len;refine ih (j4 (vk h GH) Mr) e (fun k hk=>List.mem_append_right _ (hp k hk)) (fun j hj=>by rw[<- oh aR Ao.symm j (hp j hj)];exact ha j hj) ?_ hP
       intro tA l tu;by_cases kx:tA=id
       . subst kx;have:(Lc.mk tA base v)=l:=by simpa[List.find?]using tu
         subst this;refine⟨fun k hk=>List.mem_append_left _ hk,fun us hu hx hm=>?_⟩
         simp only[ox,if_pos];have e5:∀us:List DV,us.length=vs.length->(U.ar base vs).ar base us=U.ar base us:=fun us hl=>by
           funext k;by_cases h1:k<base
           . rw[az.aX h1,az.aX h1,az.aX h1]
           . by_cases h2:base+us.length<=k
             . rw[az.ej h2,az.ej (by omega),az.ej h2]
             . have e:us[k-base]?=some (us[k-base]'(by omega)):=dJ _
               rw[show k=base+(k-base)by omega,az.cm e,az.cm e]
         have hul:us.length=vs.length:=by have:=hu.len;simp only at this;omega
         simp only at hx hm;rw[e5 us hul]at hx hm;exact⟨⟨hu,hx⟩,hm⟩
       . have:ls.find? (fun l=>Nat.beq l.id tA)=some l:=by
           have cx:Nat.beq id tA=false:=by
             cases hb:Nat.beq id tA with
             |false=>rfl
             |true=>exact absurd (vh hb).symm kx
           simpa[List.find?,cx]using tu
         obtain⟨g1,g2⟩:=(hL.move (oh aR Ao.symm)) tA l this;refine⟨fun k hk=>List.mem_append_right _ (g1 k hk),fun us hu hx hm=>?_⟩
         simp only[ox,if_neg kx];exact g2 us hu hx hm
 | again id bJ=>
   intro s ls d pr U Ps F h e hp ha hL hP;simp only[aw.mW]at e;split at e
   . cases e
   . rename_i l hf;obtain⟨e1,e⟩:=append_nil e;obtain⟨e2,e⟩:=append_nil e;obtain⟨e3,e⟩:=append_nil e;obtain⟨g1,g2⟩:=hL id l hf;have hv:=rQ h hl e1;have hlen:bJ.length=l.iv.as.length:=by have:=hv.len;simpa using this.symm
     have YB:∀k,(Jz l.base l.iv.as.length bJ k).is U (U.ar l.base (bJ.map (DE.ae U)) k):=fun k=>by
       have:=Hn (U:=U) (base:=l.base) (bJ:=bJ) k;rwa[hlen]at this
     refine g2 _ hv (ue h hl YB e2) ?_;have h3:=of_decide_eq_true (lM h hl e3);split at e
     . rename_i me hme;have h4:=of_decide_eq_true (lM h hl e);rw[D1 YB hme]at h4;simp only[IE.ae]at h3;omega
     . cases e
 | fail x=>
   intro s ls d pr U Ps F h e hp ha hL hP;simp only[aw.mW]at e;split at e
   . cases e
   . rename_i hd;obtain⟨e1,e2⟩:=append_nil e;cases d with
     |zero=>exact absurd rfl hd
     | succ d=>
       cases Ps with
       |nil=>exact hP.elim
       | cons p ps=>
         exact hP.1 _ (of_decide_eq_true (lM h hl e1)) (of_decide_eq_true (lM h hl e2))
 | ak5 x tp t zW ih=>
   intro s ls d pr U Ps F h e hp ha hL hP;simp only[aw.mW]at e;obtain⟨e1,e⟩:=append_nil e;obtain⟨e2,e3⟩:=append_nil e;have aR:=Ho e1;refine ih (Ps:=_::Ps) h e3 hp ha hL ⟨fun n h1 h2=>?_,hP⟩
   rw[if_neg (by omega)]at e2
   exact zW (D2 h (a:=.i an.er.1 an.er.2) (d:=.i n) ⟨h1,h2⟩) e2 hp (fun j hj=>by rw[<- rR aR j (hp j hj)];exact ha j hj) (hL.move (rR aR)) hP
 | pop t ih=>
   intro s ls d pr U Ps F h e hp ha hL hP;simp only[aw.mW]at e;split at e
   . cases e
   . rename_i hd;cases d with
     |zero=>exact absurd rfl hd
     | succ d=>
       cases Ps with
       |nil=>exact hP.elim
       |cons p ps=>exact ih h e hp ha hL hP.2
theorem Hq{T:Nat->Option gR}{X:bA}{k:Nat}{e:gR}{K:Nat->Option Cn}{an:An}{out:Cn}(hk:T k=some e)
   (hK:∀j c,K j=some c->lH T X j c.fS c.fX) (hl:∀l∈an.eO,fv l) (u9:Nat.ble out.args.length R0=true) (hc:(wi K e.key an out e.tree).isEmpty=true):lH T X k out.fS out.fX:=by
 intro ds hp;refine yd hk ?_;have h0:(o9 out).ok (aM.ar 0 ds):=by
   refine j4 ⟨fun p vd=>mD hp.1 p vd,fun l hl=>(by cases hl),fun p hp=>(by cases hp)⟩ hp.2
 exact Hp (Vh:=ds) (fun f c hc ds hd=>hK _ c hc ds hd) hl (by simpa[Nat.ble_eq]using u9) h0 (List.isEmpty_iff.1 hc) (fun k hk=>List.mem_range.2 hk) (fun k _=>rfl) (fun id l h=>by cases h) trivial
end Go.Sx
namespace Go.Sx
def jP{α:Type}(k:Nat):List (Nat×α)->Option α
 | []=>none
 |(j,a)::r=>if Nat.beq j k then some a else jP k r
theorem AX{α:Type}{k:Nat}{a:α}:∀ {l:List (Nat×α)},jP k l=some a->(k,a)∈l:=by
 intro l;induction l with
 |nil=>intro h;cases h
 | cons x l ih=>
   intro h;obtain⟨j,b⟩:=x;unfold jP at h;split at h
   . rename_i e;cases h;rw[vh e];exact aO ..
   . exact bp _ (ih h)
structure lN where
 f:FuncId
 Z':jo
 sl:List (FuncId×bN)
 s:bN
 sub:List (FuncId×Nat)
def lN.aJ(r:lN):jo:={r.Z' with sig:=qA r.sl}
def Cd:Nat:=6000
def fT(P:Program)(r:lN):aw:=match P.funcs[r.f]? with
 |some fn=>prune [] (qy P r.aJ r.f fn r.s Cd)
 |none=>.stuck ""
def kD(P:Program)(t:List (Nat×lN))(k:Nat):Option gR:=match jP k t with
 |some r=>some ⟨r.f,fT P r,r.sub⟩
 |none=>none
def Ru(kc:Nat->Cn)(ks:List Nat)(j:Nat):Option Cn:=if ks.any (Nat.beq j)then some (kc j)else none
def mE(T:Nat->Option gR)(X:bA)(kc:Nat->Cn)(ks:List Nat):Prop:=∀j∈ks,lH T X j (kc j).fS (kc j).fX
def Ms(T:Nat->Option gR)(kc:Nat->Cn)(an:Nat->An)(ks:List Nat)(k:Nat):Bool:=match T k with
 |some e=>Nat.ble (kc k).args.length R0&&(wi (Ru kc ks) e.key (an k) (kc k) e.tree).isEmpty
 |none=>false
theorem FO{T:Nat->Option gR}{X:bA}{kc:Nat->Cn}{ks:List Nat}(h:mE T X kc ks):∀j c,Ru kc ks j=some c->lH T X j c.fS c.fX:=fun j c hj=>by
 unfold Ru at hj;split at hj
 . rename_i hm;cases hj;obtain⟨x,hx,hb⟩:=List.any_eq_true.1 hm;rw[vh hb];exact h x hx
 . cases hj
theorem av{T:Nat->Option gR}{X:bA}{kc:Nat->Cn}{an:Nat->An}(hl:∀k,∀l∈(an k).eO,fv l){ks:List Nat}{k:Nat}(h:mE T X kc ks)(e:Ms T kc an ks k=true):lH T X k (kc k).fS (kc k).fX:=by
 unfold Ms at e;split at e
 . rename_i en hk;simp only[ao]at e;exact Hq (X:=X) hk (FO h) (hl k) e.1 e.2
 . cases e
theorem mE.next{T:Nat->Option gR}{X:bA}{kc:Nat->Cn}{l:List Nat}{i k:Nat}(h:mE T X kc (l.take i))(hk:l[i]?=some k)(g:lH T X k (kc k).fS (kc k).fX):mE T X kc (l.take (i+1)):=fun j hj=>by
 rw[List.take_add_one,hk]at hj;rcases List.mem_append.1 hj with hj|hj
 . exact h j hj
 . rcases List.mem_singleton.1 hj with rfl;exact g
theorem mE.mono{T:Nat->Option gR}{X:bA}{kc:Nat->Cn}{ks ls:List Nat}(h:mE T X kc ks)(hs:(ls.all fun j=>ks.any (Nat.beq j))=true):mE T X kc ls:=fun j hj=>by
 obtain⟨x,hx,hb⟩:=List.any_eq_true.1 (List.all_eq_true.1 hs j hj);rw[vh hb];exact h x hx
theorem mE.and{T:Nat->Option gR}{X:bA}{kc:Nat->Cn}{k:Nat}{ks:List Nat}(h:mE T X kc ks)(g:lH T X k (kc k).fS (kc k).fX):mE T X kc (k::ks):=fun j hj=>by
 rcases bq.1 hj with rfl|hj
 . exact g
 . exact h j hj
def fN{α:Type}(n:Nat)(k:Nat->α):α:=match n with
 |0=>k 0
 |.succ m=>k (.succ m)
theorem aae{α:Type}(n:Nat)(k:Nat->α):fN n k=k n:=by cases n<;>rfl
def fI{α:Type}(n:Int)(k:Int->α):α:=match n with
 |.ofNat m=>fN m fun m=>k (.ofNat m)
 |.negSucc m=>fN m fun m=>k (.negSucc m)
theorem MA{α:Type}(n:Int)(k:Int->α):fI n k=k n:=by cases n<;>simp only[fI,aae]
def fL{α β:Type}(f:β->(β->α)->α):List β->(List β->α)->α
 | [],k=>k []
 |x::xs,k=>f x fun x=>fL f xs fun xs=>k (x::xs)
theorem MB{α β:Type}{f:β->(β->α)->α}(h:∀x k,f x k=k x):∀(xs:List β) (k:List β->α),fL f xs k=k xs:=by
 intro xs;induction xs with
 |nil=>intro k;rfl
 |cons x xs ih=>intro k;simp only[fL,h,ih]
def fD{α:Type}(d:DV)(k:DV->α):α:=match d with
 |.i n=>fI n fun n=>k (.i n)
 | .b b=>match b with
   |true=>k (.b true)
   |false=>k (.b false)
 |.l xs=>fL (fL fI) xs fun xs=>k (.l xs)
theorem TM{α:Type}(d:DV)(k:DV->α):fD d k=k d:=by
 cases d with
 |i n=>simp only[fD,MA]
 |b b=>cases b<;>rfl
 | l xs=>
   simp only[fD];exact MB (f:=fL fI) (fun x k=>MB (fun x k=>MA x k) x k) xs (fun xs=>k (.l xs))
def Vz{α:Type}(ds:List DV)(k:List DV->α):α:=fL fD ds k
theorem Ck{α:Type}(ds:List DV)(k:List DV->α):Vz ds k=k ds:=MB (fun x k=>TM x k) _ _
def om:List (Nat×DV)->az
 | [],k=>aM k
 | (j,d)::r,k=>match Nat.beq j k with
   |true=>d
   |false=>om r k
theorem vl(j:Nat)(d:DV)(E:List (Nat×DV)):om ((j,d)::E)=(om E).set j d:=by
 funext k;unfold om az.set;split
 . rename_i h;rw[if_pos (Nat.eq_of_beq_eq_true h).symm]
 . rename_i h;rw[if_neg (fun e=>by rw[e,Nat.beq_refl]at h;cases h)]
def yA(E:List (Nat×DV))(k:Nat):List DV->List (Nat×DV)
 | []=>E
 |d::ds=>yA ((k,d)::E) (k+1) ds
theorem yB:∀(ds:List DV) (E:List (Nat×DV)) (k:Nat),om (yA E k ds)=(om E).ar k ds:=by
 intro ds;induction ds with
 |nil=>intro E k;rfl
 |cons d ds ih=>intro E k;rw[yA,ih,vl];rfl
def aw.mM(C:bA)(N:Nat):aw->List (Int->Option (List DV))->List (Nat×DV)->oe->Option (List DV)
 |.ret bJ,_,E,_=>Vz (bJ.map (DE.ae (om E))) some
 |.stuck _,_,_,_=>none
 | .ev (.aG p) t,Ps,E,F=>match p.ae (om E)with
   |true=>t.mM C N Ps E F
   |false=>none
 | .ev (.call f g args res base) t,Ps,E,F=>match g.ae (om E)with
   | true=>Vz (args.map (DE.ae (om E))) fun as=>match C f as with
     |some rs=>Vz rs fun rs=>t.mM C N Ps (yA E base rs) F
     |none=>none
   |false=>t.mM C N Ps (yA E base (defs (bD res))) F
 |.ev (.ch id op) t,Ps,E,F=>fD (.l (op.ae (om E))) fun d=>t.mM C N Ps ((id,d)::E) F
 |.ev (.dd _ _) _,_,_,_=>none
 | .ite c a b,Ps,E,F=>match c.ae (om E)with
   |true=>a.mM C N Ps E F
   |false=>b.mM C N Ps E F
 |.loop id entry _ base body,Ps,E,F=>Vz (entry.map (DE.ae (om E))) fun ds=>iter (fun rec ds=>Vz ds fun ds=>body.mM C N Ps (yA E base ds) (zk F id rec)) N ds
 |.again id bJ,_,E,F=>Vz (bJ.map (DE.ae (om E))) fun ds=>F id ds
 | .fail e,Ps,E,_=>match Ps with
   |p::_=>fI (e.ae (om E)) fun n=>p n
   | []=>none
 |.ak5 x tp t,Ps,E,F=>t.mM C N ((fun n=>tp.mM C N Ps ((x,.i n)::E) F)::Ps) E F
 | .pop t,Ps,E,F=>match Ps with
   |_::U'=>t.mM C N U' E F
   | []=>none
theorem RD{C:bA}{N:Nat}:∀(t:aw) (Ps:List (Int->Option (List DV))) (E:List (Nat×DV)) (F:oe),t.mM C N Ps E F=t.run C N Ps (om E) F:=by
 intro t;induction t with
 |ret bJ=>intro Ps E F;simp only[aw.mM,aw.run,Ck]
 |stuck s=>intro Ps E F;rfl
 | ev e t ih=>
   intro Ps E F;cases e with
   | aG p=>
     simp only[aw.mM,aw.run,Ev.run];cases h:p.ae (om E)
     . simp
     . simp[ih]
   | call f g args res base=>
     simp only[aw.mM,aw.run,Ev.run,Ck,ih,yB];cases h:g.ae (om E)
     . simp
     . simp only[if_true];cases C f (List.map (DE.ae (om E)) args)<;>rfl
   |ch id op=>simp only[aw.mM,aw.run,Ev.run,TM,ih,vl]
   |dd p e=>rfl
 | ite c a b eF fa=>
   intro Ps E F;simp only[aw.mM,aw.run,eF,fa];cases h:c.ae (om E)<;>simp
 | loop id es ks base body ih=>
   intro Ps E F;simp only[aw.mM,aw.run,Ck,ih,yB]
 |again id bJ=>intro Ps E F;simp only[aw.mM,aw.run,Ck]
 |fail e=>intro Ps E F;cases Ps<;>simp only[aw.mM,aw.run,MA]
 | ak5 x tp t zW ih=>
   intro Ps E F;simp only[aw.mM,aw.run,ih,zW,vl]
 |pop t ih=>intro Ps E F;cases Ps<;>simp only[aw.mM,aw.run,ih]
def eqI:Int->Int->Bool
 |.ofNat a,.ofNat b=>Nat.beq a b
 |.negSucc a,.negSucc b=>Nat.beq a b
 |_,_=>false
theorem MC{a b:Int}(h:eqI a b=true):a=b:=by
 cases a<;>cases b<;>simp only[eqI]at h
 . rw[Nat.eq_of_beq_eq_true h]
 . cases h
 . cases h
 . rw[Nat.eq_of_beq_eq_true h]
def TN{α:Type}(f:α->α->Bool):List α->List α->Bool
 | [],[]=>true
 | a::as,b::bs=>match f a b with
   |true=>TN f as bs
   |false=>false
 |_,_=>false
theorem Cl{α:Type}{f:α->α->Bool}(hf:∀a b,f a b=true->a=b):∀ {as bs:List α},TN f as bs=true->as=bs:=by
 intro as;induction as with
 | nil=>intro bs h;cases bs with
   |nil=>rfl
   |cons b bs=>cases h
 | cons a as ih=>intro bs h;cases bs with
   |nil=>cases h
   | cons b bs=>
     unfold TN at h;split at h
     . rename_i e;rw[hf _ _ e,ih h]
     . cases h
def eqD:DV->DV->Bool
 |.i a,.i b=>eqI a b
 | .b a,.b b=>match a,b with
   |true,true=>true
   |false,false=>true
   |_,_=>false
 |.l a,.l b=>TN (TN eqI) a b
 |_,_=>false
theorem MD{a b:DV}(h:eqD a b=true):a=b:=by
 cases a<;>cases b<;>simp only[eqD]at h<;>first|cases h|skip
 . rw[MC h]
 . rename_i x y;cases x<;>cases y<;>simp_all
 . rw[Cl (fun a b h=>Cl (fun a b h=>MC h) h) h]
def eqO:Option (List DV)->List DV->Bool
 |some a,b=>TN eqD a b
 |none,_=>false
theorem VA{a:Option (List DV)}{b:List DV}(h:eqO a b=true):a=some b:=by
 cases a with
 |none=>cases h
 |some a=>rw[Cl (fun a b h=>MD h) (show TN eqD a b=true from h)]
abbrev aW:=Nat×List DV×List DV
def A3(k:Nat)(ds:List DV):List aW->Option (List DV)
 | []=>none
 | (j,as,rs)::r=>match Nat.beq j k with
   | true=>match TN eqD as ds with
     |true=>some rs
     |false=>A3 k ds r
   |false=>A3 k ds r
theorem JI{k:Nat}{ds rs:List DV}:∀ {tb:List aW},A3 k ds tb=some rs->(k,ds,rs)∈tb:=by
 intro tb;induction tb with
 |nil=>intro h;cases h
 | cons x tb ih=>
   intro h;obtain⟨j,as,r⟩:=x;unfold A3 at h;split at h
   . rename_i e;split at h
     . rename_i e';cases h;rw[Nat.eq_of_beq_eq_true e,Cl (fun a b h=>MD h) e']
       exact aO ..
     . exact bp _ (ih h)
   . exact bp _ (ih h)
def ME(T:Nat->Option gR)(X:bA):List aW->Prop
 | []=>True
 |x::r=>bK T X x.1 x.2.1 x.2.2/\ME T X r
theorem ME.fuel{T:Nat->Option gR}{X:bA}:∀ {tb:List aW},ME T X tb->∃n,∀x∈tb,ev T X n x.1 x.2.1=some x.2.2:=by
 intro tb;induction tb with
 |nil=>intro _;exact⟨0,fun x h=>(by cases h)⟩
 | cons x tb ih=>
   intro h;obtain⟨⟨n,hn⟩,hr⟩:=h;obtain⟨m,hm⟩:=ih hr;refine⟨max n m,fun y hy=>?_⟩
   rcases bq.1 hy with rfl|hy
   . exact lV n _ _ _ (Nat.le_max_left ..) _ hn
   . exact lV m _ _ _ (Nat.le_max_right ..) _ (hm y hy)
def Cm(T:Nat->Option gR)(k:Nat)(tb:List aW)(N:Nat)(ds rs:List DV):Bool:=match T k with
 |some e=>eqO (e.tree.mM (fun g as=>A3 (e.key g) as tb) N [] (yA [] 0 ds) (fun _ _=>none)) rs
 |none=>false
theorem j6{T:Nat->Option gR}{X:bA}{tb:List aW}(htb:ME T X tb){k N:Nat}{ds rs:List DV}(h:Cm T k tb N ds rs=true):bK T X k ds rs:=by
 unfold Cm at h;split at h
 . rename_i e hk;have h:=VA h;rw[RD,yB]at h;obtain⟨n,hn⟩:=htb.fuel;refine⟨max n N+1,?_⟩;simp only[ev,hk];refine og (C:=fun g as=>A3 (e.key g) as tb) (fun f as r hr=>?_) (Nat.le_max_right ..) tZ.refl (fun _ _ _ h=>h) rs h
   exact lV n _ _ _ (Nat.le_max_left ..) _ (hn _ (JI hr))
 . cases h
variable {K:Nat->Option Cn}{key:FuncId->Nat}{an:An}{out:Cn}
def Rv(x n:Nat):BE:=.eq (.v x) (.c (n:Int))
def Qv(x:Nat)(ks:List BE):Nat->List BE
 |0=>ks
 |n+1=>(BE.not (Rv x n)).mk::Qv x ks n
def sN(x:Nat)(s:Sk):Nat->Sk
 |0=>s
 |n+1=>(sN x s n).lI (Rv x n)
theorem Rw{c:BE}{a b:aw}{s:Sk}{ls:List Lc}{d:Nat}{pr:List Nat}(h1:a.mW K key an out (s.sa c) ls d pr=[])(h2:b.mW K key an out (s.lI c) ls d pr=[]):(aw.ite c a b).mW K key an out s ls d pr=[]:=by
 simp only[aw.mW];split
 . exact h1
 . split
   . exact h2
   . rw[h1,h2];rfl
theorem FP{x m:Nat}{f:Int->aw}{dt:aw}{s0:Sk}{ks0:List BE}{ls:List Lc}{d:Nat}{pr:List Nat}
   (hf:∀n,n<m->(prune (gO (Rv x n) (Qv x ks0 n)) (f n)).mW K key an out ((sN x s0 n).sa (Rv x n)) ls d pr=[]) (hd:(prune (Qv x ks0 m) dt).mW K key an out (sN x s0 m) ls d pr=[]) :
   ∀(j n:Nat),n+j=m->(prune (Qv x ks0 n) (s6 x f dt (List.range' n j))).mW K key an out (sN x s0 n) ls d pr=[]:=by
 intro j;induction j with
 | zero=>
   intro n hn;have:n=m:=by omega
   subst this;exact hd
 | succ j ih=>
   intro n hn;show(prune (Qv x ks0 n) (.ite (.eq (.v x) (.c (n:Int))) (f n) (s6 x f dt (List.range' (n+1) j)))).mW K key an out (sN x s0 n) ls d pr=[];exact Rw (hf n (by omega)) (ih (n+1) (by omega))
def uf(P:Program)(r:lN)(aJ:jo)(g:St->St):aw:=match P.funcs[r.f]? with
 | some fn=>match fn.body with
   |some c=>exec P aJ Cd none [] r.f fn [.code c] (g (start fn r.s.args)) (if r.s.cons=0 then oS r.s.res else mo r.s)
   |none=>.stuck "no body"
 |none=>.stuck ""
def Rx(x m:Nat):List (Nat×Int):=(List.range m).map fun(v:Nat)=>(x,(v:Int))
def AY(K:Nat->Option Cn)(key:FuncId->Nat)(an:An)(out:Cn)(rs:List CT)(s:Sk)(t:aw):Bool:=(t.mW K key an out s [] 0 (List.range out.args.length)).isEmpty&&t.lG rs
def AZ(P:Program)(r:lN)(K:Nat->Option Cn)(key:FuncId->Nat)(an:An)(out:Cn)(x n:Nat):Bool:=
 AY K key an out (bD r.s.res) ((sN x (o9 out) n).sa (Rv x n)) (prune (gO (Rv x n) (Qv x [] n)) (uf P r r.aJ fun st=>st.fix x n))
def D3(P:Program)(r:lN)(K:Nat->Option Cn)(key:FuncId->Nat)(an:An)(out:Cn)(x m:Nat):Bool:=
 AY K key an out (bD r.s.res) (sN x (o9 out) m) (prune (Qv x [] m) (uf P r {r.aJ with no:=Rx x m} id))
theorem ug{P:Program}{r:lN}{x m:Nat}{fn:Func}{c:Code}(ki:P.funcs[r.f]?=some fn)(hc:fn.body=some c)(hs:r.aJ.xx=some (x,m))(hx:decide (x<(start fn r.s.args).next)=true) :
   fT P r=prune [] (s6 x (fun v=>uf P r r.aJ fun st=>st.fix x v) (uf P r {r.aJ with no:=Rx x m} id) (List.range' 0 m)):=by
 rw[<- List.range_eq_range'];simp only[fT,ki,qy,hc,hs,hx,if_true,uf,Rx,id]
theorem JC{P:Program}{r:lN}{x m:Nat}{fn:Func}{c:Code}(ki:P.funcs[r.f]?=some fn)(hc:fn.body=some c)(hs:r.aJ.xx=some (x,m))(hx:decide (x<(start fn r.s.args).next)=true)
   (hp:∀n,n<m->AZ P r K key an out x n=true) (hr:D3 P r K key an out x m=true):(wi K key an out (fT P r)).isEmpty=true:=by
 rw[List.isEmpty_iff,ug ki hc hs hx];unfold wi;refine FP (m:=m) (s0:=o9 out) (ks0:=[]) (fun n hn=>?_) ?_ m 0 (by omega)
 . have:=hp n hn;simp only[AZ,AY,ao]at this;exact List.isEmpty_iff.1 this.1
 . simp only[D3,AY,ao]at hr;exact List.isEmpty_iff.1 hr.1
theorem FQ{P:Program}{r:lN}{x m:Nat}{fn:Func}{c:Code}(ki:P.funcs[r.f]?=some fn)(hc:fn.body=some c)(hs:r.aJ.xx=some (x,m))(hx:decide (x<(start fn r.s.args).next)=true)
   (hp:∀n,n<m->AZ P r K key an out x n=true) (hr:D3 P r K key an out x m=true):(fT P r).lG (bD r.s.res)=true:=by
 rw[ug ki hc hs hx];have key:∀(j n:Nat),n+j=m->(prune (Qv x [] n) (s6 x (fun v=>uf P r r.aJ fun st=>st.fix x v) (uf P r {r.aJ with no:=Rx x m} id) (List.range' n j))).lG (bD r.s.res)=true:=by
   intro j;induction j with
   | zero=>
     intro n hn;have:n=m:=by omega
     subst this;simp only[D3,AY,ao]at hr;exact hr.2
   | succ j ih=>
     intro n hn;have h1:=hp n (by omega)
     simp only[AZ,AY,ao]at h1;have h2:=ih (n+1) (by omega)
     show(aw.ite _ _ _).lG _=true;simp only[aw.lG,ao];exact⟨h1.2,h2⟩
 exact key m 0 (by omega)
end Go.Sx
namespace Go.Sx
variable {P:Program}
def Mx(iD:Nat->Option bN)(jF:List (Nat×lN))(key:FuncId->Nat)(sl:List (FuncId×bN))(g:FuncId):Bool:=match qA sl g with
 | some s'=>decide (iD (key g)=some s')&&Nat.beq (match jP (key g) jF with
   |some r=>r.f
   |none=>key g) g
 |none=>false
def RB(jF:List (Nat×lN))(xs:List Nat)(k:Nat):Bool:=(jP k jF).isSome||xs.any (Nat.beq k)
structure Kind where
 aG:FuncId
 uX:FuncId
 cK:TypeId
 nE:TypeId
 wG:FuncId
 vM:List (Nat×List Int)
def aad(k:Kind)(c:jo):Bool:=decide (c.aG=some k.aG)&&(decide (c.uX=some k.uX)&&(decide (c.cK=k.cK)&&(decide (c.nE=k.nE)&&(decide (c.wG=some k.wG)&&(decide (c.vM=k.vM)&&c.no.isEmpty)))))
def fnB(P:Program)(f:FuncId):Bool:=match P.funcs[f]? with
 |some fn=>fn.body.isSome && !(fn.name == "runtime.NumGoroutine")
 |none=>false
def JG(P:Program)(kd:Kind)(iD:Nat->Option bN)(jF:List (Nat×lN))(xs:List Nat)(k:Nat)(r:lN):Bool:=
 aad kd r.Z' && (fnB P r.f && (decide (iD k=some r.s)&&(r.sl.all (fun p=>Mx iD jF (gR.key ⟨r.f,.stuck "",r.sub⟩) r.sl p.1) &&
   (jF.map (·.1)++xs).all fun j=>(r.sub.any fun p=>Nat.beq p.1 j)||(qA r.sl j).isSome)&&(r.sub.all fun p=>(qA r.sl p.1).isSome || !RB jF xs p.2)))
def kindOk(P:Program)(kd:Kind):Prop:=∀aJ:jo,aJ.aG=some kd.aG->aJ.uX=some kd.uX->aJ.cK=kd.cK->aJ.nE=kd.nE->aJ.wG=some kd.wG->iS P aJ
theorem FU{l:List (FuncId×bN)}{g:FuncId}{s:bN}(h:qA l g=some s):∃p∈l,p.1=g:=by
 unfold qA at h;simp only[bB]at h;obtain⟨p,hp,_⟩:=h;exact⟨p,List.mem_of_find?_eq_some hp,by have:=List.find?_some hp;simpa using this⟩
theorem Vy{Wd:World->Prop}{kd:Kind}{iD:Nat->Option bN}{jF:List (Nat×lN)}{xs:List Nat}{k:Nat}{r:lN}(hk:kindOk P kd)(hw:∀w,Wd w->∀g cs,(g,cs)∈kd.vM->∃T z,w.heap[g]?=some (.cells (cs.map fun n=>Value.int .i64 n).toArray T z))
   (h:JG P kd iD jF xs k r=true) (hr:(fT P r).lG (bD r.s.res)=true):TD P Wd (kD P jF) (fun k=>xs.any (Nat.beq k)) iD k ⟨r.f,fT P r,r.sub⟩:=by
 simp only[JG,aad,fnB,ao,aC]at h;obtain⟨⟨c1,c2,c3,c4,c5,c6,c7⟩,hf,⟨hs,va,U3⟩,dX⟩:=h;split at hf
 . rename_i fn ki;simp only[ao,Bool.not_eq_true',Option.isSome_iff_exists]at hf;obtain⟨⟨c,hc⟩,hn⟩:=hf;refine⟨r.aJ,fn,c,Cd,r.s,⟨by simpa[lN.aJ]using List.isEmpty_iff.1 c7,hr⟩,hs,hk r.aJ c1 c2 c3 c4 c5,?_,?_,ki,hc,hn,?_,fun w ET g cs hg=>hw w ET g cs (by rw[<- c6];exact hg)⟩
   . intro g s' hg;have hg:qA r.sl g=some s':=hg;obtain⟨p,hp,rfl⟩:=FU hg;have:=List.all_eq_true.1 va p hp;simp only[Mx,hg,ao,aC]at this;refine⟨this.1,?_⟩;have e:=vh this.2;show mV (kD P jF) (gR.key ⟨r.f,.stuck "",r.sub⟩ p.1)=p.1;unfold mV kD;split at e
     . rename_i r' cF;first|exact e|(rw[cF];exact e)
     . rename_i cF;first|exact e|(rw[cF];exact e)
   . intro g hg;show(qA r.sl g).isSome=true;have hd:RB jF xs (gR.key ⟨r.f,fT P r,r.sub⟩ g)=true:=by
       unfold sB kD at hg;unfold RB;cases hl:jP (gR.key ⟨r.f,fT P r,r.sub⟩ g) jF with
       |none=>simpa[hl]using hg
       |some r'=>simp
     cases QJ:r.sub.find? (fun p=>p.1==g)with
     | some p=>
       have e:gR.key ⟨r.f,fT P r,r.sub⟩ g=p.2:=by simp only[gR.key,QJ]
       have e2:p.1=g:=by have:=List.find?_some QJ;simpa using this
       have:=List.all_eq_true.1 dX p (List.mem_of_find?_eq_some QJ);rw[e]at hd;simp only[hd,Bool.not_true,Bool.or_false]at this;rw[<- e2];exact this
     | none=>
       have e:gR.key ⟨r.f,fT P r,r.sub⟩ g=g:=by simp only[gR.key,QJ]
       rw[e]at hd;have hm:g∈jF.map (·.1)++xs:=by
         unfold RB at hd;simp only[fy]at hd;rcases hd with hd|hd
         . obtain⟨r',cF⟩:=Option.isSome_iff_exists.1 hd;exact List.mem_append_left _ (List.mem_map.2 ⟨_,AX cF,rfl⟩)
         . obtain⟨x,hx,hb⟩:=List.any_eq_true.1 hd;rw[vh hb];exact List.mem_append_right _ hx
       have:=List.all_eq_true.1 U3 g hm;simp only[fy]at this;rcases this with this|this
       . obtain⟨p,hp,hb⟩:=List.any_eq_true.1 this;have:=List.find?_eq_none.1 QJ p hp;simp[vh hb]at this
       . exact this
   . show prune [] (qy P r.aJ r.f fn r.s Cd)=fT P r;simp only[fT,ki]
 . cases hf
end Go.Sx
namespace Go.Sx
def aw.strip(S:BE->Bool):aw->aw
 |.ret bJ=>.ret bJ
 |.stuck w=>.stuck w
 |.ev (.aG p) t=>if S p then t.strip S else .ev (.aG p) (t.strip S)
 |.ev (.call f g args res base) t=>.ev (.call f g args res base) (t.strip S)
 |.ev (.ch id op) t=>.ev (.ch id op) (t.strip S)
 |.ev (.dd p e) t=>.ev (.dd p e) (t.strip S)
 |.ite c a b=>.ite c (a.strip S) (b.strip S)
 |.loop id en ks base t=>.loop id en ks base (t.strip S)
 |.again id bJ=>.again id bJ
 |.fail e=>.fail e
 |.ak5 x a b=>.ak5 x (a.strip S) (b.strip S)
 |.pop t=>.pop (t.strip S)
def aw.kU(S:BE->Bool)(H:Nat->List DV->Prop)(E:Nat->List DV->List DV->Prop)(R:List DV->Prop):aw->List (Int->Prop)->az->(Nat->List DV->Prop)->Prop
 |.ret bJ,_,U,_=>R (bJ.map (DE.ae U))
 |.stuck _,_,_,_=>True
 |.ev (.aG p) t,Ps,U,F=>(S p=true->p.ae U=true)/\(p.ae U=true->t.kU S H E R Ps U F)
 |.ev (.call f g args res base) t,Ps,U,F=>(g.ae U=true->H f (args.map (DE.ae U))/\∀rs,E f (args.map (DE.ae U)) rs->t.kU S H E R Ps (U.ar base rs) F)/\(g.ae U=false->t.kU S H E R Ps (U.ar base (defs (bD res))) F)
 |.ev (.ch id op) t,Ps,U,F=>t.kU S H E R Ps (U.set id (.l (op.ae U))) F
 |.ev (.dd _ _) _,_,_,_=>True
 |.ite c a b,Ps,U,F=>(c.ae U=true->a.kU S H E R Ps U F)/\(c.ae U=false->b.kU S H E R Ps U F)
 |.loop id entry _ base body,Ps,U,F=>∃inv:List DV->Prop,inv (entry.map (DE.ae U))/\∀ds,inv ds->body.kU S H E R Ps (U.ar base ds) (ox F id inv)
 |.again id bJ,_,U,F=>F id (bJ.map (DE.ae U))
 |.fail e,Ps,U,_=>jd Ps (e.ae U)
 |.ak5 x tp t,Ps,U,F=>t.kU S H E R ((fun n=>tp.kU S H E R Ps (U.set x (.i n)) F)::Ps) U F
 |.pop t,Ps,U,F=>t.kU S H E R Ps.tail U F
def Ce:List (Int->Prop)->List (Int->Prop)->List (Int->Prop)->Prop
 | [],[],[]=>True
 |p::ps,q::qs,r::rs=>(∀e,p e->q e->r e)/\Ce ps qs rs
 |_,_,_=>False
theorem Ce.head{ps qs rs:List (Int->Prop)}(h:Ce ps qs rs){e:Int}(h1:jd ps e)(h2:jd qs e):jd rs e:=by
 match ps,qs,rs,h with
 | [],[],[],_=>exact h1
 |p::ps,q::qs,r::rs,h=>exact h.1 e h1 h2
theorem JD{S:BE->Bool}{H:Nat->List DV->Prop}{E1 E:Nat->List DV->List DV->Prop}{R1 R2:List DV->Prop}(hE:∀f ds rs,H f ds->E1 f ds rs->E f ds rs) :
   ∀ {t:aw} {Ps Qs Rs:List (Int->Prop)} {U:az} {F G K:Nat->List DV->Prop},(t.strip S).fW E1 R1 Ps U F->t.kU S H E R2 Qs U G->Ce Ps Qs Rs->(∀j vs,F j vs->G j vs->K j vs)->t.fW E (fun rs=>R1 rs/\R2 rs) Rs U K:=by
 intro t;induction t with
 |ret bJ=>intro Ps Qs Rs U F G K h1 h2 _ _;exact⟨h1,h2⟩
 |stuck w=>intro Ps Qs Rs U F G K h1;exact h1.elim
 | ev e t ih=>
   intro Ps Qs Rs U F G K h1 h2 hP hF;cases e with
   | aG p=>
     simp only[aw.strip]at h1;split at h1
     . rename_i hs;have hp:=h2.1 hs;exact⟨hp,ih h1 (h2.2 hp) hP hF⟩
     . exact⟨h1.1,ih h1.2 (h2.2 h1.1) hP hF⟩
   | call f g args res base=>
     refine⟨fun hg=>?_,fun hg=>ih (h1.2 hg) (h2.2 hg) hP hF⟩
     obtain⟨rs,he,ht⟩:=h1.1 hg;obtain⟨hh,h3⟩:=h2.1 hg;have he:=hE _ _ _ hh he;exact⟨rs,he,ih ht (h3 rs he) hP hF⟩
   | ch id op=>
     have EF:(t.strip S).fW E1 R1 Ps (U.set id (.l (op.ae U))) F:=h1;have UQ:t.kU S H E R2 Qs (U.set id (.l (op.ae U))) G:=h2;exact ih EF UQ hP hF
   |dd p e=>exact h1.elim
 | ite c a b eF fa=>
   intro Ps Qs Rs U F G K h1 h2 hP hF;exact⟨fun hc=>eF (h1.1 hc) (h2.1 hc) hP hF,fun hc=>fa (h1.2 hc) (h2.2 hc) hP hF⟩
 | loop id en ks base body ih=>
   intro Ps Qs Rs U F G K h1 h2 hP hF;obtain⟨inv1,me,a1,b1⟩:=h1;obtain⟨inv2,a2,b2⟩:=h2;refine⟨fun vs=>inv1 vs/\inv2 vs,me,⟨a1,a2⟩,fun ds hd=>ih (b1 ds hd.1) (b2 ds hd.2) hP fun j vs x y=>?_⟩
   unfold ox at *;split
   . rename_i e;rw[if_pos e]at x y;exact⟨⟨x.1,y⟩,x.2⟩
   . rename_i e;rw[if_neg e]at x y;exact hF j vs x y
 |again id bJ=>intro Ps Qs Rs U F G K h1 h2 _ hF;exact hF _ _ h1 h2
 |fail e=>intro Ps Qs Rs U F G K h1 h2 hP _;exact hP.head h1 h2
 | ak5 x a b eF fa=>
   intro Ps Qs Rs U F G K h1 h2 hP hF;exact fa (Ps:=_::Ps) (Qs:=_::Qs) (Rs:=_::Rs) h1 h2 ⟨fun e p q=>eF p q hP hF,hP⟩ hF
 | pop t ih=>
   intro Ps Qs Rs U F G K h1 h2 hP hF
   match Ps,Qs,Rs,hP with
   | [],[],[],_=>exact h1.elim
   |p::ps,q::qs,r::rs,hP=>exact ih (Ps:=ps) (Qs:=qs) h1 h2 hP.2 hF
def Mt(T:Nat->Option gR)(X:bA)(H:Nat->List DV->Prop)(j:Nat)(c:Cn):Prop:=∀ds,c.fS ds->(H j ds->∃rs,bK T X j ds rs/\c.fX ds rs)/\(¬ H j ds->∃rs,c.fX ds rs)
theorem JE{T:Nat->Option gR}{X:bA}{k:Nat}{e:gR}{K:Nat->Option Cn}{an:An}{out:Cn}{S:BE->Bool}{H:Nat->List DV->Prop}{R:List DV->List DV->Prop}(hk:T k=some e)
   (hK:∀j c,K j=some c->Mt T X H j c) (hl:∀l∈an.eO,fv l) (u9:Nat.ble out.args.length R0=true) (hc:(wi K e.key an out (e.tree.strip S)).isEmpty=true)
   (hp:∀ds,out.fS ds->e.tree.kU S (fun g=>H (e.key g)) (fun g=>bK T X (e.key g)) (R ds) [] (aM.ar 0 ds) (fun _ _=>True)):lH T X k out.fS (fun ds rs=>out.fX ds rs/\R ds rs):=by
 intro ds hd;refine yd hk ?_;have h0:(o9 out).ok (aM.ar 0 ds):=by
   refine j4 ⟨fun p vd=>mD hd.1 p vd,fun l hl=>(by cases hl),fun p hp=>(by cases hp)⟩ hd.2
 refine JD (S:=S) (Ps:=[]) (Qs:=[]) (E1:=fun g ds rs=>H (e.key g) ds->bK T X (e.key g) ds rs) (F:=fun _ _=>False) (G:=fun _ _=>True) (fun f ds rs h1 h2=>h2 h1) ?_ (hp ds hd) trivial fun _ _ h _=>h
 refine Hp (Vh:=ds) (K:=K) (key:=e.key) (an:=an) (fun f c hc ds hd=>?_) hl (by simpa[Nat.ble_eq]using u9) h0 (List.isEmpty_iff.1 hc) (fun k hk=>List.mem_range.2 hk) (fun k _=>rfl) (fun id l h=>by cases h) trivial
 obtain⟨w1,w2⟩:=hK _ c hc ds hd;by_cases hh:H (e.key f) ds
 . obtain⟨rs,g1,g2⟩:=w1 hh;exact⟨rs,fun _=>g1,g2⟩
 . obtain⟨rs,g2⟩:=w2 hh;exact⟨rs,fun h=>absurd h hh,g2⟩
variable {S:BE->Bool}{H:Nat->List DV->Prop}{E:Nat->List DV->List DV->Prop}{R:List DV->Prop}{Ps:List (Int->Prop)}{U:az}{F:Nat->List DV->Prop}{t t':aw}
theorem eJ{p:BE}(hs:S p=false)(ht:p.ae U=true->t.kU S H E R Ps U F):(aw.ev (.aG p) t).kU S H E R Ps U F:=⟨fun h=>(by rw[hs]at h;cases h),ht⟩
theorem Cf{p:BE}(hp:p.ae U=true)(ht:t.kU S H E R Ps U F):(aw.ev (.aG p) t).kU S H E R Ps U F:=⟨fun _=>hp,fun _=>ht⟩
theorem ak2{id:Nat}{op:cZ}(ht:t.kU S H E R Ps (U.set id (.l (op.ae U))) F):(aw.ev (.ch id op) t).kU S H E R Ps U F:=ht
theorem nJ{id:Nat}{op:cZ}{M:List (List Int)}(e:op.ae U=M)(ht:t.kU S H E R Ps (U.set id (.l M)) F):(aw.ev (.ch id op) t).kU S H E R Ps U F:=by subst e;exact ht
theorem s_call{f:FuncId}{args:List DE}{res:List VT}{base:Nat}(hh:H f (args.map (DE.ae U)))(ht:∀rs,E f (args.map (DE.ae U)) rs->t.kU S H E R Ps (U.ar base rs) F):(aw.ev (.call f (.c true) args res base) t).kU S H E R Ps U F:=
 ⟨fun _=>⟨hh,ht⟩,fun h=>by simp[BE.ae]at h⟩
theorem Hr{c:BE}(h1:c.ae U=true->t.kU S H E R Ps U F)(h2:c.ae U=false->t'.kU S H E R Ps U F):(aw.ite c t t').kU S H E R Ps U F:=⟨h1,h2⟩
theorem uh{a b:IE}(h1:a.ae U<b.ae U->t.kU S H E R Ps U F)(h2:b.ae U<=a.ae U->t'.kU S H E R Ps U F):(aw.ite (.lt a b) t t').kU S H E R Ps U F:=
 Hr (fun h=>h1 (of_decide_eq_true h)) (fun h=>h2 (Int.not_lt.1 (of_decide_eq_false h)))
theorem mZ{a b:IE}(h1:a.ae U=b.ae U->t.kU S H E R Ps U F)(h2:a.ae U≠b.ae U->t'.kU S H E R Ps U F):(aw.ite (.eq a b) t t').kU S H E R Ps U F:=
 Hr (fun h=>h1 (of_decide_eq_true h)) (fun h=>h2 (of_decide_eq_false h))
theorem D4{c:BE}(h1:c.ae U=false->t.kU S H E R Ps U F)(h2:c.ae U=true->t'.kU S H E R Ps U F):(aw.ite (.not c) t t').kU S H E R Ps U F:=
 Hr (fun h=>h1 (by simpa[BE.ae]using h)) (fun h=>h2 (by simpa[BE.ae]using h))
theorem Cg{id:Nat}{entry:List DE}{ks:List CT}{base:Nat}{body:aw}(inv:List DV->Prop)(h0:inv (entry.map (DE.ae U)))
   (hb:∀ds,inv ds->body.kU S H E R Ps (U.ar base ds) (ox F id inv)):(aw.loop id entry ks base body).kU S H E R Ps U F:=⟨inv,h0,hb⟩
theorem wY{id:Nat}{bJ:List DE}{G:List DV->Prop}(h:G (bJ.map (DE.ae U))):(aw.again id bJ).kU S H E R Ps U (ox F id G):=by
 simpa[aw.kU,ox]using h
theorem aac{bJ:List DE}{rs:List DV}(e:bJ.map (DE.ae U)=rs)(h:R rs):(aw.ret bJ).kU S H E R Ps U F:=by subst e;exact h
theorem Ch{e:IE}{p:Int->Prop}(h:p (e.ae U)):(aw.fail e).kU S H E R (p::Ps) U F:=h
theorem Ry{x:Nat}(h:t'.kU S H E R ((fun n=>t.kU S H E R Ps (U.set x (.i n)) F)::Ps) U F):(aw.ak5 x t t').kU S H E R Ps U F:=h
theorem A0{p:Int->Prop}(h:t.kU S H E R Ps U F):(aw.pop t).kU S H E R (p::Ps) U F:=h
end Go.Sx
namespace Go.Sx
def aw.eY(K:Nat->Option Cn)(key:FuncId->Nat)(an:An)(out:Cn):aw->List Bool->Sk->List Lc->Nat->List Nat->List Vc
 |.ev (.aG q) t,p,s,ls,d,pr=>if s.pv 0 q then t.eY K key an out p s ls d pr else s.ask an.eO q++t.eY K key an out p (s.sa q) ls d pr
 | .ev (.call f g args res base) t,p,s,ls,d,pr=>match K (key f)with
   |none=>[bad s]
   | some c=>
     let m:=c.res.length
     let s1:=s.sa g
     let vs:=s1.qP an.eO args c.args++s1.asks an.eO (qQ args 0 base) c.pre
     let ok:=free pr base m&&(args.all (DE.off base m)&&(g.all (im base m)&&(o8 (bD res) c.res&&Nat.blt args.length R0)))
     let s2:=s.fG (im base m)
     let σ:=qQ args m base
     let s3:Sk:={s2 with g:=mA base (if g.beq (.c true)then c.res else c.res.map fun a=>a.yj (zX a))++s2.g}
     let s4:=s3.lJ (c.post.filterMap fun p=>(p.put σ).map fun p'=>if g.beq (.c true)then p' else .or (.not g) p')
     vs++((if ok then []else [bad s])++t.eY K key an out p s4 ls d pr)
 |.ev (.ch id op) t,p,s,ls,d,pr=>
     let x:=s.K3 id op
     let s2:=s.fG (im id 1)
     let s3:Sk:={s2 with g:=(id,x.1)::s2.g}
     (if free pr id 1&&op.all (im id 1)then []else [bad s])++t.eY K key an out p (s3.lJ x.2) ls d pr
 |.ite c a b,p,s,ls,d,pr=>if s.pv 1 c then a.eY K key an out p (s.sa c) ls d pr else if s.nv 1 c then b.eY K key an out p (s.lI c) ls d pr
     else match p with
       | []=>a.eY K key an out [] (s.sa c) ls d pr++b.eY K key an out [] (s.lI c) ls d pr
       |true::p=>a.eY K key an out p (s.sa c) ls d pr
       |false::p=>b.eY K key an out p (s.lI c) ls d pr
 | .loop id entry tys base body,p,s,ls,d,pr=>match an.loops.find? fun x=>Nat.beq x.1 id&&Nat.beq x.2.1 base with
   |none=>[bad s]
   | some (_,_,v)=>
     let n:=v.as.length
     let s2:=s.fG (im base n)
     let s3:Sk:={s2 with g:=mA base v.as++s2.g}
     s.qP an.eO entry v.as++(s.asks an.eO (Jz base n entry) v.ex++((if free pr base n then []else [bad s]) ++
       body.eY K key an out p (s3.lJ v.ex) (⟨id,base,v⟩::ls) d (v.names++pr)))
 |.ak5 x tp t,p,s,ls,d,pr=>
     let s2:=s.fG (im x 1)
     match p with
     | []=>(if free pr x 1 then []else [bad s])++((if an.er.2<an.er.1 then []else tp.eY K key an out [] {s2 with g:=(x,.i an.er.1 an.er.2)::s2.g} ls d pr)++t.eY K key an out [] s ls (d+1) pr)
     |true::p=>(if free pr x 1 then []else [bad s])++(if an.er.2<an.er.1 then []else tp.eY K key an out p {s2 with g:=(x,.i an.er.1 an.er.2)::s2.g} ls d pr)
     |false::p=>t.eY K key an out p s ls (d+1) pr
 |.pop t,p,s,ls,d,pr=>if d=0 then [bad s]else t.eY K key an out p s ls (d-1) pr
 |t,_,s,ls,d,pr=>t.mW K key an out s ls d pr
variable {K:Nat->Option Cn}{key:FuncId->Nat}{an:An}{out:Cn}
theorem Mu:∀(t:aw) (s:Sk) (ls:List Lc) (d:Nat) (pr:List Nat),t.eY K key an out [] s ls d pr=t.mW K key an out s ls d pr:=by
 intro t;induction t with
 |ret bJ=>intro s ls d pr;simp only[aw.eY]
 |stuck m=>intro s ls d pr;simp only[aw.eY]
 | ev e t ih=>
   intro s ls d pr;cases e with
   |aG q=>simp only[aw.eY,aw.mW,ih]
   |call f g args res base=>cases hK:K (key f)<;>simp only[aw.eY,aw.mW,ih,hK]
   |ch id op=>simp only[aw.eY,aw.mW,ih]
   |dd a b=>simp only[aw.eY]
 |ite c a b eF fa=>intro s ls d pr;simp only[aw.eY,aw.mW,eF,fa]
 | loop id entry tys base body ih=>
   intro s ls d pr;cases hL:(an.loops.find? fun x=>Nat.beq x.1 id&&Nat.beq x.2.1 base)<;>simp only[aw.eY,aw.mW,ih,hL]
 |again id bJ=>intro s ls d pr;simp only[aw.eY]
 |fail e=>intro s ls d pr;simp only[aw.eY]
 |ak5 x tp t iht ih=>intro s ls d pr;simp only[aw.eY,aw.mW,iht,ih]
 |pop t ih=>intro s ls d pr;simp only[aw.eY,aw.mW,ih]
theorem eo{α:Type}{a b:List α}:a++b=[]↔a=[]/\b=[]:=List.append_eq_nil_iff
theorem FR:∀(t:aw) {p:List Bool} {s:Sk} {ls:List Lc} {d:Nat} {pr:List Nat},t.eY K key an out (p++[true]) s ls d pr=[]->t.eY K key an out (p++[false]) s ls d pr=[]->t.eY K key an out p s ls d pr=[]:=by
 intro t;induction t with
 |ret bJ=>intro p s ls d pr h1 _;simpa only[aw.eY]using h1
 |stuck m=>intro p s ls d pr h1 _;simpa only[aw.eY]using h1
 | ev e t ih=>
   intro p s ls d pr h1 h2;cases e with
   | aG q=>
     simp only[aw.eY]at h1 h2 ⊢;split at h1
     . rename_i h;rw[if_pos h]at h2 ⊢;exact ih h1 h2
     . rename_i h;rw[if_neg h]at h2 ⊢;rw[eo]at h1 h2 ⊢;exact⟨h1.1,ih h1.2 h2.2⟩
   | call f g args res base=>
     cases hK:K (key f)
     . simp only[aw.eY,hK]at h1;cases h1
     . simp only[aw.eY,hK]at h1 h2 ⊢;have a1:=eo.1 h1;have a2:=eo.1 a1.2;have b2:=eo.1 (eo.1 h2).2;exact eo.2 ⟨a1.1,eo.2 ⟨a2.1,ih a2.2 b2.2⟩⟩
   | ch id op=>
     simp only[aw.eY]at h1 h2 ⊢;rw[eo]at h1 h2 ⊢;exact⟨h1.1,ih h1.2 h2.2⟩
   |dd a b=>simpa only[aw.eY]using h1
 | ite c a b eF fa=>
   intro p s ls d pr h1 h2;simp only[aw.eY]at h1 h2 ⊢;split at h1
   . rename_i h;rw[if_pos h]at h2 ⊢;exact eF h1 h2
   . rename_i h;rw[if_neg h]at h2 ⊢;split at h1
     . rename_i h;rw[if_pos h]at h2 ⊢;exact fa h1 h2
     . rename_i h;rw[if_neg h]at h2 ⊢
       match p,h1,h2 with
       | [],h1,h2=>exact eo.2 ⟨h1,h2⟩
       |true::p,h1,h2=>exact eF h1 h2
       |false::p,h1,h2=>exact fa h1 h2
 | loop id entry tys base body ih=>
   intro p s ls d pr h1 h2;cases hL:(an.loops.find? fun x=>Nat.beq x.1 id&&Nat.beq x.2.1 base)
   . simp only[aw.eY,hL]at h1;cases h1
   . simp only[aw.eY,hL]at h1 h2 ⊢;have a1:=eo.1 h1;have a2:=eo.1 a1.2;have a3:=eo.1 a2.2;have b3:=eo.1 (eo.1 (eo.1 h2).2).2;exact eo.2 ⟨a1.1,eo.2 ⟨a2.1,eo.2 ⟨a3.1,ih a3.2 b3.2⟩⟩⟩
 |again id bJ=>intro p s ls d pr h1 _;simpa only[aw.eY]using h1
 |fail e=>intro p s ls d pr h1 _;simpa only[aw.eY]using h1
 | ak5 x tp t iht ih=>
   intro p s ls d pr h1 h2
   match p,h1,h2 with
   | [],h1,h2=>
     simp only[List.nil_append,aw.eY]at h1 h2 ⊢;rw[eo]at h1;exact eo.2 ⟨h1.1,eo.2 ⟨h1.2,h2⟩⟩
   | true::p,h1,h2=>
     simp only[List.cons_append,aw.eY]at h1 h2 ⊢;rw[eo]at h1 h2 ⊢;refine⟨h1.1,?_⟩;have a1:=h1.2;have a2:=h2.2;split at a1
     . rename_i h;rw[if_pos h]
     . rename_i h;rw[if_neg h]at a2 ⊢;exact iht a1 a2
   | false::p,h1,h2=>
     simp only[List.cons_append,aw.eY]at h1 h2 ⊢;exact ih h1 h2
 | pop t ih=>
   intro p s ls d pr h1 h2;simp only[aw.eY]at h1 h2 ⊢;split at h1
   . rename_i h;rw[if_pos h];exact h1
   . rename_i h;rw[if_neg h]at h2 ⊢;exact ih h1 h2
def JF(P:Program)(r:lN)(K:Nat->Option Cn)(key:FuncId->Nat)(an:An)(out:Cn)(x n:Nat)(p:List Bool):Bool:=
 ((prune (gO (Rv x n) (Qv x [] n)) (uf P r r.aJ fun st=>st.fix x n)).eY K key an out p ((sN x (o9 out) n).sa (Rv x n)) [] 0 (List.range out.args.length)).isEmpty
theorem fC{P:Program}{r:lN}{x n:Nat}{p:List Bool}(h1:JF P r K key an out x n (p++[true])=true)(h2:JF P r K key an out x n (p++[false])=true):JF P r K key an out x n p=true:=
 List.isEmpty_iff.2 (FR _ (List.isEmpty_iff.1 h1) (List.isEmpty_iff.1 h2))
def TK(P:Program)(r:lN)(x n:Nat):Bool:=(prune (gO (Rv x n) (Qv x [] n)) (uf P r r.aJ fun st=>st.fix x n)).lG (bD r.s.res)
theorem FT{P:Program}{r:lN}{x n:Nat}(h:JF P r K key an out x n []=true)(hr:TK P r x n=true):AZ P r K key an out x n=true:=by
 unfold JF at h;rw[Mu]at h;exact Bool.and_eq_true_iff.2 ⟨h,hr⟩
end Go.Sx

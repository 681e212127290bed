/- What a function gives of data some of whose numbers are not known but for bounds, reckoned by the kernel. -/
import Derived.Test.YtohebioanhliiaaGreatDoorBAK
set_option linter.unusedVariables false
set_option linter.unusedSimpArgs false
namespace Go.Sx
section
inductive SI where
 |k (n:Int)
 |s (c:Int) (cs:List Int)
 deriving Inhabited
def iu:List Int->List Int->Int
 |a::as,x::xs=>a*x+iu as xs
 |_,_=>0
def SI.ae(σ:List Int):SI->Int
 |.k n=>n
 |.s c cs=>c+iu cs σ
def SI.c0:SI->Int
 |.k n=>n
 |.s c _=>c
def SI.Yg:SI->List Int
 |.k _=>[]
 |.s _ cs=>cs
def Dv:List Int->Bool
 | []=>true
 | a::as=>match Io a 0 with
   |true=>Dv as
   |false=>false
def Yh(c:Int)(cs:List Int):SI:=match Dv cs with
 |true=>.k c
 |false=>.s c cs
def KQ:List Int->List Int->List Int
 | [],bs=>bs
 |as,[]=>as
 |a::as,b::bs=>(a+b)::KQ as bs
def SI.add:SI->SI->SI
 |.k a,.k b=>.k (a+b)
 |a,b=>Yh (a.c0+b.c0) (KQ a.Yg b.Yg)
def SI.scale(n:Int):SI->SI
 |.k a=>.k (n*a)
 |.s c cs=>Yh (n*c) (cs.map (n * ·))
def SI.sub(a b:SI):SI:=match a,b with
 |.k a,.k b=>.k (a-b)
 |a,b=>a.add (b.scale (-1))
abbrev C7:=List (Int×Int)
def Lo:List Int->C7->Prop
 | [],[]=>True
 |x::xs,b::bs=>(b.1<=x/\x<=b.2)/\Lo xs bs
 |_,_=>False
def zt(a b:Int):Bool:=match b-a with
 |.ofNat _=>true
 |.negSucc _=>false
def loD:List Int->C7->Int
 | a::as,b::bs=>(match zt 0 a with
   |true=>a*b.1
   |false=>a*b.2)+loD as bs
 |_,_=>0
def hiD:List Int->C7->Int
 | a::as,b::bs=>(match zt 0 a with
   |true=>a*b.2
   |false=>a*b.1)+hiD as bs
 |_,_=>0
def SI.lo(B:C7):SI->Int
 |.k n=>n
 |.s c cs=>c+loD cs B
def SI.hi(B:C7):SI->Int
 |.k n=>n
 |.s c cs=>c+hiD cs B
def SI.nn(B:C7)(a:SI):Option Bool:=match zt 0 (a.lo B)with
 |true=>some true
 | false=>match zt 0 (a.hi B)with
   |false=>some false
   |true=>none
def SI.nz(B:C7)(a:SI):Option Bool:=match a with
 |.k n=>some (Io n 0)
 | a=>match zt 1 (a.lo B)with
   |true=>some false
   | false=>match zt (a.hi B) (-1)with
     |true=>some false
     |false=>none
def KS:SI->SI->Bool
 |.k a,.k b=>Io a b
 | .s a as,.s b bs=>match Io a b with
   |true=>Ip Io as bs
   |false=>false
 |_,_=>false
structure Cx where
 box:C7
 fx:List (Nat×SI×SI×SI)
 ol:List SI
def Yi:Nat->Int->Int->Int
 |0,a,b=>a*b
 |1,a,b=>a.tdiv b
 |2,a,b=>a.tmod b
 |3,a,b=>max a b
 |_,a,b=>min a b
def np(o:Nat)(a b:SI):List (Nat×SI×SI×SI)->Option SI
 | []=>none
 | x::r=>match Nat.beq x.1 o with
   | true=>match KS x.2.1 a with
     | true=>match KS x.2.2.1 b with
       |true=>some x.2.2.2
       |false=>np o a b r
     |false=>np o a b r
   |false=>np o a b r
def SI.qr(B:C7)(d:Int)(a:SI):Option (SI×SI):=
 let q:=Yh (a.c0/d) (a.Yg.map (· / d))
 let r:=Yh (a.c0%d) (a.Yg.map (· % d))
 match zt 1 d with
 | true=>match zt 0 (r.lo B)with
   | true=>match zt (r.hi B+1) d with
     |true=>some (q,r)
     |false=>none
   |false=>none
 |false=>none
def SI.mul(X:Cx)(a b:SI):Option SI:=match a,b with
 |.k a,b=>some (b.scale a)
 |a,.k b=>some (a.scale b)
 |a,b=>np 0 a b X.fx
def SI.tq(X:Cx)(a b:SI):Option SI:=match a,b with
 |.k a,.k b=>some (.k (a.tdiv b))
 | a,.k d=>match a.qr X.box d with
   |some (q,.k (.ofNat .zero))=>some q
   | some (q,_)=>match zt 0 (a.lo X.box)with
     |true=>some q
     |false=>np 1 a (.k d) X.fx
   |none=>np 1 a (.k d) X.fx
 |a,b=>np 1 a b X.fx
def SI.tr(X:Cx)(a b:SI):Option SI:=match a,b with
 |.k a,.k b=>some (.k (a.tmod b))
 | a,.k d=>match a.qr X.box d with
   |some (_,.k (.ofNat .zero))=>some (.k 0)
   | some (_,r)=>match zt 0 (a.lo X.box)with
     |true=>some r
     |false=>np 2 a (.k d) X.fx
   |none=>np 2 a (.k d) X.fx
 |a,b=>np 2 a b X.fx
def SI.eq(X:Cx)(d:Int)(a:SI):Option SI:=match a with
 |.k a=>some (.k (a/d))
 |a=>(a.qr X.box d).map (·.1)
def SI.er(X:Cx)(d:Int)(a:SI):Option SI:=match a with
 |.k a=>some (.k (a%d))
 |a=>(a.qr X.box d).map (·.2)
def SI.max(X:Cx)(a b:SI):Option SI:=match(b.sub a).nn X.box with
 |some true=>some b
 |some false=>some a
 |none=>np 3 a b X.fx
def SI.min(X:Cx)(a b:SI):Option SI:=match(b.sub a).nn X.box with
 |some true=>some a
 |some false=>some b
 |none=>np 4 a b X.fx
def SI.wrap(X:Cx)(k:IntKind)(a:SI):Option SI:=match a with
 |.k n=>some (.k (k.wrap n))
 | a=>match zt k.min (a.lo X.box)with
   | true=>match zt (a.hi X.box) k.max with
     |true=>some a
     |false=>none
   |false=>none
inductive YV where
 |i (a:SI)
 |b (x:Bool)
 |l (xs:List (List SI))
 |o (k:Nat)
 deriving Inhabited
structure sr where
 σ:List Int
 τ:Nat->List (List Int)
def eR(σ:List Int)(xs:List (List SI)):List (List Int):=xs.map fun r=>r.map (SI.ae σ)
def YV.ae(V:sr):YV->DV
 |.i a=>.i (a.ae V.σ)
 |.b x=>.b x
 |.l xs=>.l (eR V.σ xs)
 |.o k=>.l (V.τ k)
abbrev SE:=List (Nat×YV)
def SE.at(k:Nat):SE->Option YV
 | []=>none
 | (j,d)::r=>match Nat.beq j k with
   |true=>some d
   |false=>SE.at k r
def SE.ae(V:sr):SE->aA
 | [],k=>bB k
 |(j,d)::r,k=>if j=k then d.ae V else SE.ae V r k
def SE.ay(E:SE)(k:Nat):List YV->SE
 | []=>E
 |d::ds=>SE.ay ((k,d)::E) (k+1) ds
section
variable (X:Cx)(E:SE)
def Tu(f:SI->SI->Option SI)(a b:Option SI):Option SI:=match a with
 | some a=>match b with
   |some b=>f a b
   |none=>none
 |none=>none
def IE.sy:IE->Option SI
 | .v k=>match E.at k with
   |some (.i a)=>some a
   |_=>none
 |.c n=>some (.k n)
 |.add a b=>Tu (fun a b=>some (a.add b)) (a.sy) (b.sy)
 |.sub a b=>Tu (fun a b=>some (a.sub b)) (a.sy) (b.sy)
 |.mul a b=>Tu (SI.mul X) (a.sy) (b.sy)
 |.tdiv a b=>Tu (SI.tq X) (a.sy) (b.sy)
 |.tmod a b=>Tu (SI.tr X) (a.sy) (b.sy)
 | .ediv a n=>match a.sy with
   |some a=>a.eq X n
   |none=>none
 | .emod a n=>match a.sy with
   |some a=>a.er X n
   |none=>none
 | .shl a b=>match b.sy with
   | some (.k n)=>match a.sy with
     |some a=>some (a.scale (2 ^ n.toNat))
     |none=>none
   |_=>none
 | .shr a b=>match b.sy with
   | some (.k n)=>match a.sy with
     |some a=>a.eq X (2 ^ n.toNat)
     |none=>none
   |_=>none
 | .wrap k a=>match a.sy with
   |some a=>a.wrap X k
   |none=>none
 |.max a b=>Tu (SI.max X) (a.sy) (b.sy)
 |.min a b=>Tu (SI.min X) (a.sy) (b.sy)
 | .bits op k a b=>match a.sy with
   | some (.k a)=>match b.sy with
     |some (.k b)=>some (.k (Go.bits op k a b))
     |_=>none
   |_=>none
 | .len k=>match E.at k with
   |some (.l xs)=>some (.k (xs.length:Nat))
   |some (.o j)=>X.ol[j]?
   |_=>none
 | .get k i j=>match E.at k with
   | some (.l xs)=>match i.sy with
     |some (.k n)=>some ((xs.getD n.toNat []).getD j (.k 0))
     |_=>none
   |_=>none
 | .lh i n a b=>match i.sy with
   | some (.k m)=>match Io m n with
     |true=>a.sy
     |false=>b.sy
   |_=>none
def OA:Option Bool->Option Bool
 |some x=>some (not x)
 |none=>none
def OB(B:C7)(f:IE->Option SI)(b:SI)(e:IE):Option Bool:=match e with
 | .max p q=>match f p with
   | some p=>match f q with
     | some q=>match(b.sub p).nn B with
       |some true=>(b.sub q).nn B
       |some false=>some false
       |none=>none
     |none=>none
   |none=>none
 |_=>none
def BE.sy:BE->Option Bool
 | .v k=>match E.at k with
   |some (.b x)=>some x
   |_=>none
 |.c x=>some x
 | .lt a b=>match IE.sy X E a with
   | some a=>match IE.sy X E b with
     |some b=>OA ((a.sub b).nn X.box)
     |none=>none
   |none=>none
 | .le a b=>match IE.sy X E b with
   | some b=>match IE.sy X E a with
     |some a=>(b.sub a).nn X.box
     |none=>OB X.box (IE.sy X E) b a
   |none=>none
 | .eq a b=>match IE.sy X E a with
   | some a=>match IE.sy X E b with
     |some b=>(b.sub a).nz X.box
     |none=>none
   |none=>none
 |.not a=>OA (a.sy)
 | .and a b=>match a.sy with
   |some true=>b.sy
   |some false=>some false
   | none=>match b.sy with
     |some false=>some false
     |_=>none
 | .or a b=>match a.sy with
   |some true=>some true
   |some false=>b.sy
   | none=>match b.sy with
     |some true=>some true
     |_=>none
 | .iff a b=>match a.sy with
   |some true=>b.sy
   |some false=>OA (b.sy)
   |none=>none
 | .qu a=>match IE.sy X E a with
   |some a=>OA (a.nz X.box)
   |none=>none
def rM{α β:Type}(f:α->Option β):List α->Option (List β)
 | []=>some []
 | a::as=>match f a with
   | some b=>match rM f as with
     |some bs=>some (b::bs)
     |none=>none
   |none=>none
def xa:Sum IE BE->Option SI
 |.inl e=>IE.sy X E e
 | .inr b=>match BE.sy X E b with
   |some true=>some (.k 1)
   |some false=>some (.k 0)
   |none=>none
def DE.sy:DE->Option YV
 | .i e=>match IE.sy X E e with
   |some a=>some (.i a)
   |none=>none
 | .b e=>match BE.sy X E e with
   |some a=>some (.b a)
   |none=>none
 | .l k=>match E.at k with
   |some (.l xs)=>some (.l xs)
   |some (.o k)=>some (.o k)
   |_=>none
 |.nil=>some (.l [])
 | .rows es=>match rM (IE.sy X E) es with
   |some xs=>some (.l (xs.map fun x=>[x]))
   |none=>none
 | .kn xs=>match rM (xa X E) xs with
   |some xs=>some (.l [xs])
   |none=>none
def uY(r:List SI)(j:Nat)(x:SI):List SI:=if j<r.length then r.set j x else r++(List.replicate (j-r.length) (.k 0)++[x])
def rN(r:List SI)(j:Nat):List SI->List SI
 | []=>r
 |x::xs=>rN (uY r j x) (j+1) xs
def BM:List NK->List SI->List SI->Nat->Option (List SI)
 | [],_,_,_=>some []
 |.c _::_,_,_,0=>some []
 |.c _::aH,hs,rest,j+1=>BM aH hs.tail rest j
 | .s _ _::_,hs,rest,0=>match hs.headD (.k 0)with
   |.k n=>some (rest.take n.toNat)
   |_=>none
 | .s _ _::aH,hs,rest,j+1=>match hs.headD (.k 0)with
   |.k n=>BM aH hs.tail (rest.drop n.toNat) j
   |_=>none
def SE.rows(k:Nat):Option (List (List SI)):=match E.at k with
 |some (.l xs)=>some xs
 |_=>none
def IE.U5(i:IE):Option Int:=match IE.sy X E i with
 |some (.k n)=>some n
 |_=>none
def bI.OC:bI->Option SI
 |.c x=>xa X E x
 | .s k=>match E.rows k with
   |some xs=>some (.k (xs.length:Nat))
   |none=>none
 |.nil=>some (.k 0)
def bI.OD:bI->Option (List SI)
 | .s k=>match E.rows k with
   |some xs=>some (xs.map fun r=>r.getD 0 (.k 0))
   |none=>none
 |_=>some []
def cT.sy:cT->Option (List (List SI))
 |.lit rows=>rM (rM (xa X E)) rows
 | .app a b=>match E.rows a with
   | some a=>match E.rows b with
     |some b=>some (a++b)
     |none=>none
   |none=>none
 | .set a i j x=>match E.rows a with
   | some a=>match IE.U5 X E i with
     | some n=>match xa X E x with
       |some x=>some (a.modify n.toNat fun r=>uY r j x)
       |none=>none
     |none=>none
   |none=>none
 | .Aj a i xs=>match E.rows a with
   | some a=>match IE.U5 X E i with
     | some n=>match rM (xa X E) xs with
       |some x=>some (a.modify n.toNat fun _=>x)
       |none=>none
     |none=>none
   |none=>none
 | .Al a i j xs=>match E.rows a with
   | some a=>match IE.U5 X E i with
     | some n=>match rM (xa X E) xs with
       |some x=>some (a.modify n.toNat fun r=>rN r j x)
       |none=>none
     |none=>none
   |none=>none
 | .take a n=>match E.rows a with
   | some a=>match IE.U5 X E n with
     |some n=>some (a.take n.toNat)
     |none=>none
   |none=>none
 | .rep n row=>match IE.U5 X E n with
   |some n=>some (List.replicate n.toNat (row.map .k))
   |none=>none
 |.cp a=>E.rows a
 | .sub a i aH j=>match E.rows a with
   | some a=>match IE.U5 X E i with
     | some n=>match BM aH ((a.getD n.toNat []).take aH.length) ((a.getD n.toNat []).drop aH.length) j with
       |some l=>some (l.map fun x=>[x])
       |none=>none
     |none=>none
   |none=>none
 | .LZ a b=>match E.rows a with
   | some a=>match E.rows b with
     |some b=>some (b.take a.length++a.drop b.length)
     |none=>none
   |none=>none
 | .yc rows=>rM (fun r=>match rM (bI.OC X E) r with
   | some h=>match rM (bI.OD E) r with
     |some t=>some (h++t.flatten)
     |none=>none
   |none=>none) rows
def cT.syV(op:cT):Option YV:=match op with
 | .app a b=>match E.at a with
   | some (.l xs)=>match E.at b with
     |some (.l ys)=>some (.l (xs++ys))
     | some (.o k)=>match xs with
       | []=>some (.o k)
       |_=>none
     |_=>none
   | some (.o k)=>match E.at b with
     |some (.l [])=>some (.o k)
     |_=>none
   |_=>none
 | .cp a=>match E.at a with
   |some (.l xs)=>some (.l xs)
   |some (.o k)=>some (.o k)
   |_=>none
 | op=>match cT.sy X E op with
   |some xs=>some (.l xs)
   |none=>none
end
def Yj{α:Type}(a:SI)(k:SI->α):α:=match a with
 |.k n=>fI n fun n=>k (.k n)
 |.s c cs=>fI c fun c=>fL fI cs fun cs=>k (.s c cs)
theorem Hj{α:Type}(a:SI)(k:SI->α):Yj a k=k a:=by
 cases a with
 |k n=>simp only[Yj,BA]
 | s c cs=>
   simp only[Yj,BA];exact zm (f:=fI) (fun x k=>BA x k) cs (fun cs=>k (.s c cs))
def fSV{α:Type}(d:YV)(k:YV->α):α:=match d with
 |.i a=>Yj a fun a=>k (.i a)
 | .b x=>match x with
   |true=>k (.b true)
   |false=>k (.b false)
 |.l xs=>fL (fL Yj) xs fun xs=>k (.l xs)
 |.o n=>fN n fun n=>k (.o n)
theorem OE{α:Type}(d:YV)(k:YV->α):fSV d k=k d:=by
 cases d with
 |i a=>simp only[fSV,Hj]
 |b x=>cases x<;>rfl
 | l xs=>
   simp only[fSV];exact zm (f:=fL Yj) (fun x k=>zm (fun x k=>Hj x k) x k) xs (fun xs=>k (.l xs))
 |o n=>simp only[fSV,Uz]
def Hk{α:Type}(ds:List YV)(k:List YV->α):α:=fL fSV ds k
theorem sx{α:Type}(ds:List YV)(k:List YV->α):Hk ds k=k ds:=zm (fun x k=>OE x k) _ _
abbrev zM:=Nat->List YV->Option (List YV)
def BN:List CT->List YV
 | []=>[]
 |.c .b::cs=>.b false::BN cs
 |.c _::cs=>.i (.k 0)::BN cs
 |.s _ _::cs=>.l []::BN cs
 |.n _ _::cs=>.l []::BN cs
def OF(step:(List YV->Option (List YV))->List YV->Option (List YV)):Nat->List YV->Option (List YV)
 |0,_=>none
 |.succ n,ds=>step (OF step n) ds
def upS(F:zM)(id:Nat)(G:List YV->Option (List YV)):zM:=fun j vs=>match Nat.beq j id with
 |true=>G vs
 |false=>F j vs
def OG:YV->YV->Bool
 |.i a,.i b=>KS a b
 | .b a,.b b=>match a,b with
   |true,true=>true
   |false,false=>true
   |_,_=>false
 |.l a,.l b=>Ip (Ip KS) a b
 |.o a,.o b=>Nat.beq a b
 |_,_=>false
def ar.ir(X:Cx)(C:zM)(N:Nat):ar->List (SI->Option (List YV))->SE->zM->Option (List YV)
 | .ret bO,_,E,_=>match rM (DE.sy X E) bO with
   |some vs=>Hk vs some
   |none=>none
 |.stuck _,_,_,_=>none
 | .ev (.aG p) t,Ps,E,F=>match BE.sy X E p with
   |some true=>t.ir X C N Ps E F
   |_=>none
 | .ev (.call f g args res base) t,Ps,E,F=>match BE.sy X E g with
   | some true=>match rM (DE.sy X E) args with
     | some as=>Hk as fun as=>match C f as with
       |some rs=>Hk rs fun rs=>t.ir X C N Ps (E.ay base rs) F
       |none=>none
     |none=>none
   |some false=>t.ir X C N Ps (E.ay base (BN (bt res))) F
   |none=>none
 | .ev (.cu id op) t,Ps,E,F=>match cT.syV X E op with
   |some x=>fSV x fun d=>t.ir X C N Ps ((id,d)::E) F
   |none=>none
 |.ev (.dh _ _) _,_,_,_=>none
 | .ite c a b,Ps,E,F=>match BE.sy X E c with
   |some true=>a.ir X C N Ps E F
   |some false=>b.ir X C N Ps E F
   | none=>match a.ir X C N Ps E F with
     | some x=>match b.ir X C N Ps E F with
       | some y=>match Ip OG x y with
         |true=>some x
         |false=>none
       |none=>none
     |none=>none
 | .loop id entry _ base body,Ps,E,F=>match rM (DE.sy X E) entry with
   |some ds=>Hk ds fun ds=>OF (fun rec ds=>Hk ds fun ds=>body.ir X C N Ps (E.ay base ds) (upS F id rec)) N ds
   |none=>none
 | .again id bO,_,E,F=>match rM (DE.sy X E) bO with
   |some ds=>Hk ds fun ds=>F id ds
   |none=>none
 | .fail e,Ps,E,_=>match Ps with
   | p::_=>match IE.sy X E e with
     |some a=>Yj a fun a=>p a
     |none=>none
   | []=>none
 |.gi x tp t,Ps,E,F=>t.ir X C N ((fun n=>tp.ir X C N Ps ((x,.i n)::E) F)::Ps) E F
 | .pop t,Ps,E,F=>match Ps with
   |_::R8=>t.ir X C N R8 E F
   | []=>none
abbrev kx:=Nat×List YV×List YV
def Fh(k:Nat)(ds:List YV):List kx->Option (List YV)
 | []=>none
 | x::r=>match Nat.beq x.1 k with
   | true=>match Ip OG x.2.1 ds with
     |true=>some x.2.2
     |false=>Fh k ds r
   |false=>Fh k ds r
def evY(T:Nat->Option gb)(X:Cx)(tb:List kx)(N:Nat):Nat->zM
 |0,_,_=>none
 | .succ d,k,ds=>match Fh k ds tb with
   |some rs=>some rs
   | none=>match T k with
     |some e=>e.tree.ir X (fun g as=>evY T X tb N d (e.key g) as) N [] (SE.ay [] 0 ds) (fun _ _=>none)
     |none=>none
end
section
theorem eY{a b:Int}:zt a b=true↔a<=b:=by
 unfold zt;split;rename_i n h;simp only[true_iff];have:b-a=(n:Int):=h;omega
 rename_i n h;simp only[iC,false_iff];omega
theorem IW{a b:Int}:zt a b=false↔b<a:=by
 cases h:zt a b with
 |true=>have:=eY.1 h;simp only[Bool.true_eq_false,false_iff];omega
 | false=>
   simp only[true_iff];by_cases h2:a<=b;rw[eY.2 h2]at h;cases h;omega
section
variable {σ:List Int}{X:Cx}{V:sr}{B:C7}
theorem Fi:∀ {cs σ:List Int},Dv cs=true->iu cs σ=0
 | [],σ,_=>by cases σ<;>rfl
 | a::as,σ,h=>by
   unfold Dv at h;split at h;rename_i e;have e:=rG e;subst e;cases σ with
   |nil=>rfl
   |cons x xs=>simp only[iu,Int.zero_mul,Fi h,Int.add_zero]
   cases h
theorem xJ{c:Int}{cs:List Int}:(Yh c cs).ae σ=c+iu cs σ:=by
 unfold Yh;split;rename_i h;simp only[SI.ae,Fi h,Int.add_zero];rfl
theorem pR{σ:List Int}:iu [] σ=0:=by cases σ<;>rfl
theorem SI.Hl(a:SI):a.ae σ=a.c0+iu a.Yg σ:=by
 cases a with
 |k n=>simp only[SI.ae,SI.c0,SI.Yg,pR,Int.add_zero]
 |s c cs=>rfl
theorem Fj:∀ {as bs σ:List Int},iu (KQ as bs) σ=iu as σ+iu bs σ
 | [],bs,σ=>by simp only[KQ,pR,Int.zero_add]
 |a::as,[],σ=>by simp only[KQ,pR,Int.add_zero]
 |a::as,b::bs,[]=>rfl
 |a::as,b::bs,x::xs=>by simp only[KQ,iu,Fj (as:=as)];grind
theorem IX{n:Int}:∀ {cs σ:List Int},iu (cs.map (n * ·)) σ=n*iu cs σ
 | [],σ=>by simp only[mJ,pR,Int.mul_zero]
 |a::as,[]=>by simp only[jt,iu,Int.mul_zero]
 |a::as,x::xs=>by simp only[jt,iu,IX (cs:=as)];grind
theorem OH{d:Int}:∀ {cs σ:List Int},iu cs σ=d*iu (cs.map (· / d)) σ+iu (cs.map (· % d)) σ
 | [],σ=>by simp only[mJ,pR,Int.mul_zero,Int.add_zero]
 |a::as,[]=>by simp only[jt,iu,Int.mul_zero,Int.add_zero]
 | a::as,x::xs=>by
   simp only[jt,iu];have h1:=OH (d:=d) (cs:=as) (σ:=xs);have h2:=Int.mul_ediv_add_emod a d;obtain⟨q,hq⟩:∃q,q=a/d:=⟨_,rfl⟩;obtain⟨r,hr⟩:∃r,r=a%d:=⟨_,rfl⟩;rw[<- hq,<- hr]at h2 ⊢;rw[h1,<- h2];grind
theorem SI.C9(a b:SI):(a.add b).ae σ=a.ae σ+b.ae σ:=by
 unfold SI.add;split;rfl;rw[xJ,Fj,SI.Hl a,SI.Hl b];omega
theorem SI.sA(n:Int)(a:SI):(a.scale n).ae σ=n*a.ae σ:=by
 cases a with
 |k m=>rfl
 | s c cs=>
   show(Yh (n*c) (cs.map (n * ·))).ae σ=n*(c+iu cs σ);rw[xJ,IX,Int.mul_add]
theorem SI.gI(a b:SI):(a.sub b).ae σ=a.ae σ-b.ae σ:=by
 unfold SI.sub;split;rfl;rw[SI.C9,SI.sA];omega
theorem OI:∀ {cs σ:List Int} {B:C7},Lo σ B->loD cs B<=iu cs σ/\iu cs σ<=hiD cs B
 | [],σ,B,h=>by simp only[pR];cases B<;>simp[loD,hiD]
 |a::as,[],[],h=>by simp[loD,hiD,iu]
 | a::as,x::xs,b::bs,h=>by
   obtain⟨⟨h1,h2⟩,h3⟩:=h;obtain⟨h4,h5⟩:=OI (cs:=as) h3;simp only[loD,hiD,iu];split;rename_i e;have e:=eY.1 e;have g1:=nG h1 e;have g2:=nG h2 e;omega;rename_i e;have e:=IW.1 e;have g1:=nG h1 (show 0<=-a by omega);have g2:=nG h2 (show 0<=-a by omega);simp only[Int.neg_mul]at g1 g2;omega
 |_::_,[],_::_,h=>h.elim
 |_::_,_::_,[],h=>h.elim
theorem SI.in{a:SI}(h:Lo σ B):a.lo B<=a.ae σ/\a.ae σ<=a.hi B:=by
 cases a with
 |k n=>exact⟨Int.le_refl _,Int.le_refl _⟩
 |s c cs=>have:=OI (cs:=cs) h;simp only[SI.lo,SI.hi,SI.ae];omega
theorem SI.uZ{a:SI}{x:Bool}(h:Lo σ B)(e:a.nn B=some x):decide (0<=a.ae σ)=x:=by
 obtain⟨h1,h2⟩:=SI.in (a:=a) h
 unfold SI.nn at e;split at e;rename_i l;have l:=eY.1 l;cases e;exact mM (by omega)
 split at e;rename_i l;have l:=IW.1 l;cases e;exact decide_eq_false (by omega)
 cases e
theorem Fk(n:Int):Io n n=true:=by cases n<;>simp[Io,Nat.beq_refl]
theorem SI.U6{a:SI}{x:Bool}(h:Lo σ B)(e:a.nz B=some x):decide (a.ae σ=0)=x:=by
 obtain⟨h1,h2⟩:=SI.in (a:=a) h
 unfold SI.nz at e;split at e;rename_i n;cases e;show decide (n=0)=Io n 0;cases h:Io n 0 with
 |true=>exact mM (rG h)
 |false=>exact decide_eq_false (fun e=>by subst e;rw[Fk]at h;cases h)
 split at e;rename_i l;have l:=eY.1 l;cases e;exact decide_eq_false (by omega)
 split at e;rename_i l;have l:=eY.1 l;cases e;exact decide_eq_false (by omega)
 cases e
theorem xK{a b:SI}(h:KS a b=true):a=b:=by
 cases a<;>cases b<;>simp only[KS]at h<;>first|cases h|skip
 rw[rG h];split at h;rename_i e;rw[rG e,nP (fun a b h=>rG h) h];cases h
structure Cx.Ok(X:Cx)(σ:List Int):Prop where
 box:Lo σ X.box
 fx:∀x∈X.fx,Yi x.1 (x.2.1.ae σ) (x.2.2.1.ae σ)=x.2.2.2.ae σ
theorem jM{o:Nat}{a b c:SI}:∀ {l:List (Nat×SI×SI×SI)},(∀x∈l,Yi x.1 (x.2.1.ae σ) (x.2.2.1.ae σ)=x.2.2.2.ae σ)->np o a b l=some c->Yi o (a.ae σ) (b.ae σ)=c.ae σ:=by
 intro l;induction l with
 |nil=>intro _ h;cases h
 | cons x l ih=>
   intro hl h;have ih:=ih fun y hy=>hl y (aZ _ hy);unfold np at h;split at h;rename_i e0;split at h;rename_i e1;split at h;rename_i e2;cases h;rw[<- vz e0,<- xK e1,<- xK e2];exact hl x (aM ..);exact ih h;exact ih h;exact ih h
theorem SI.BO{d:Int}{a q r:SI}(h:Lo σ B)(e:a.qr B d=some (q,r)):a.ae σ=d*q.ae σ+r.ae σ/\0<=r.ae σ/\r.ae σ<d:=by
 unfold SI.qr at e;simp only at e;split at e;split at e;rename_i l;split at e;rename_i l2;injection e with e;injection e with e1 e2;subst e1;obtain⟨h1,h2⟩:=SI.in (a:=r) h
 rw[e2]at l l2;have l:=eY.1 l;have l2:=eY.1 l2;refine⟨?_,by omega,by omega⟩;rw[<- e2,xJ,xJ,SI.Hl a,OH (d:=d) (cs:=a.Yg)];have:=Int.mul_ediv_add_emod a.c0 d;grind;cases e;cases e;cases e
theorem IY{n d q r:Int}(h:n=d*q+r)(h0:0<=r)(h1:r<d):n/d=q/\n%d=r:=by
 have hd:0<d:=by omega
 exact(Int.ediv_emod_unique hd).2 ⟨by omega,h0,h1⟩
theorem SI.Hb(hX:X.Ok σ){a b c:SI}(e:a.mul X b=some c):a.ae σ*b.ae σ=c.ae σ:=by
 unfold SI.mul at e;split at e;cases e;rw[SI.sA];rfl;cases e;rw[SI.sA,mc];rfl;exact jM (o:=0) hX.fx e
theorem SI.acR(hX:X.Ok σ){a b c:SI}(e:a.tq X b=some c):(a.ae σ).tdiv (b.ae σ)=c.ae σ:=by
 unfold SI.tq at e;split at e;cases e;rfl;rename_i d hh;show(a.ae σ).tdiv d=_;split at e;rename_i q hq;cases e;obtain⟨h1,h2,h3⟩:=SI.BO hX.box hq;have h1:a.ae σ=d*c.ae σ:=by rw[h1];exact Int.add_zero _
 rw[h1,Int.mul_tdiv_cancel_left _ (by omega)];rename_i q r _ hq;split at e;rename_i l;cases e;have l:=eY.1 l;have h:=(SI.in (a:=a) hX.box).1;obtain⟨h1,h2,h3⟩:=SI.BO hX.box hq;rw[D8 (by omega),(IY h1 h2 h3).1];exact jM (o:=1) (b:=.k d) hX.fx e;exact jM (o:=1) (b:=.k d) hX.fx e;exact jM (o:=1) hX.fx e
theorem SI.acS(hX:X.Ok σ){a b c:SI}(e:a.tr X b=some c):(a.ae σ).tmod (b.ae σ)=c.ae σ:=by
 unfold SI.tr at e;split at e;cases e;rfl;rename_i d hh;show(a.ae σ).tmod d=_;split at e;rename_i q hq;cases e;obtain⟨h1,h2,h3⟩:=SI.BO hX.box hq;have h1:a.ae σ=d*q.ae σ:=by rw[h1];exact Int.add_zero _
 rw[h1,Int.mul_tmod_right];rfl;rename_i q r _ hq;split at e;rename_i l;cases e;have l:=eY.1 l;have h:=(SI.in (a:=a) hX.box).1;obtain⟨h1,h2,h3⟩:=SI.BO hX.box hq;rw[Int.tmod_eq_emod_of_nonneg (by omega),(IY h1 h2 h3).2];exact jM (o:=2) (b:=.k d) hX.fx e;exact jM (o:=2) (b:=.k d) hX.fx e;exact jM (o:=2) hX.fx e
theorem SI.U7(hX:X.Ok σ){d:Int}{a c:SI}(e:a.eq X d=some c):a.ae σ/d=c.ae σ:=by
 unfold SI.eq at e;split at e;cases e;rfl;obtain⟨⟨q,r⟩,hq,rfl⟩:=bl.1 e;obtain⟨h1,h2,h3⟩:=SI.BO hX.box hq;exact(IY h1 h2 h3).1
theorem SI.acT(hX:X.Ok σ){d:Int}{a c:SI}(e:a.er X d=some c):a.ae σ%d=c.ae σ:=by
 unfold SI.er at e;split at e;cases e;rfl;obtain⟨⟨q,r⟩,hq,rfl⟩:=bl.1 e;obtain⟨h1,h2,h3⟩:=SI.BO hX.box hq;exact(IY h1 h2 h3).2
theorem SI.Yk(hX:X.Ok σ){a b c:SI}(e:a.max X b=some c):Max.max (a.ae σ) (b.ae σ)=c.ae σ:=by
 unfold SI.max at e;split at e;rename_i h;cases e;have:=qt (SI.uZ hX.box h);rw[SI.gI]at this;omega;rename_i h;cases e;have:=T3 (SI.uZ hX.box h);rw[SI.gI]at this;omega;exact jM (o:=3) hX.fx e
theorem SI.Yl(hX:X.Ok σ){a b c:SI}(e:a.min X b=some c):Min.min (a.ae σ) (b.ae σ)=c.ae σ:=by
 unfold SI.min at e;split at e;rename_i h;cases e;have:=qt (SI.uZ hX.box h);rw[SI.gI]at this;omega;rename_i h;cases e;have:=T3 (SI.uZ hX.box h);rw[SI.gI]at this;omega;exact jM (o:=4) hX.fx e
theorem SI.Tv(hX:X.Ok σ){k:IntKind}{a c:SI}(e:a.wrap X k=some c):k.wrap (a.ae σ)=c.ae σ:=by
 unfold SI.wrap at e;split at e;cases e;rfl;split at e;rename_i l;split at e;rename_i l2;cases e;have h:=SI.in (a:=a) hX.box
 have l:=eY.1 l;have l2:=eY.1 l2;exact oR ⟨by omega,by omega⟩;cases e;cases e
end
end
section
structure sr.Ok(X:Cx)(V:sr):Prop where
 num:X.Ok V.σ
 ol:∀j n,X.ol[j]?=some n->((V.τ j).length:Int)=n.ae V.σ
section
variable {X:Cx}{V:sr}{E:SE}
theorem SE.kO{k:Nat}{d:YV}:∀ {E:SE},E.at k=some d->SE.ae V E k=d.ae V
 | [],h=>by cases h
 | (j,x)::E,h=>by
   unfold SE.at at h;unfold SE.ae;split at h;rename_i e;cases h;rw[if_pos (vz e)];rename_i e;rw[if_neg (fun e'=>by rw[e',Nat.beq_refl]at e;cases e)];exact SE.kO h
theorem SE.cons(k:Nat)(d:YV)(E:SE):SE.ae V ((k,d)::E)=(SE.ae V E).set k (d.ae V):=by
 funext j;unfold aA.set;show(if k=j then _ else _)=_;by_cases h:k=j;rw[if_pos h,if_pos h.symm];rw[if_neg h,if_neg (Ne.symm h)]
theorem SE.rO:∀ {ds:List YV} {E:SE} {k:Nat},SE.ae V (E.ay k ds)=(SE.ae V E).ay k (ds.map (YV.ae V))
 | [],E,k=>rfl
 | d::ds,E,k=>by
   show SE.ae V (SE.ay ((k,d)::E) (k+1) ds)=_;rw[SE.rO,SE.cons];rfl
theorem Ym{f:SI->SI->Option SI}{a b:Option SI}{c:SI}(h:Tu f a b=some c):∃x y,a=some x/\b=some y/\f x y=some c:=by
 unfold Tu at h;split at h;split at h;exact⟨_,_,rfl,rfl,h⟩;cases h;cases h
theorem getD_map{σ:List Int}{r:List SI}{j:Nat}:(r.map (SI.ae σ)).getD j 0=(r.getD j (.k 0)).ae σ:=by
 simp only[eI,gJ];cases r[j]? <;>rfl
theorem BP{σ:List Int}{xs:List (List SI)}{n:Nat}:(eR σ xs).getD n []=(xs.getD n []).map (SI.ae σ):=by
 simp only[eR,eI,gJ];cases xs[n]? <;>rfl
theorem IE.fB(hV:V.Ok X):∀ {e:IE} {a:SI},IE.sy X E e=some a->e.ae (SE.ae V E)=a.ae V.σ:=by
 have hX:=hV.num;intro e;induction e with
 | v k=>
   intro a h;unfold IE.sy at h;split at h;rename_i e;cases h;show(SE.ae V E k).int=_;rw[SE.kO e];rfl;cases h
 |c n=>intro a h;cases h;rfl
 |add x y nw nS=>intro a h;obtain⟨p,q,h1,h2,h3⟩:=Ym h;cases h3;rw[SI.C9,<- nw h1,<- nS h2];rfl
 |sub x y nw nS=>intro a h;obtain⟨p,q,h1,h2,h3⟩:=Ym h;cases h3;rw[SI.gI,<- nw h1,<- nS h2];rfl
 |mul x y nw nS=>intro a h;obtain⟨p,q,h1,h2,h3⟩:=Ym h;rw[<- SI.Hb hX h3,<- nw h1,<- nS h2];rfl
 |tdiv x y nw nS=>intro a h;obtain⟨p,q,h1,h2,h3⟩:=Ym h;rw[<- SI.acR hX h3,<- nw h1,<- nS h2];rfl
 |tmod x y nw nS=>intro a h;obtain⟨p,q,h1,h2,h3⟩:=Ym h;rw[<- SI.acS hX h3,<- nw h1,<- nS h2];rfl
 |max x y nw nS=>intro a h;obtain⟨p,q,h1,h2,h3⟩:=Ym h;rw[<- SI.Yk hX h3,<- nw h1,<- nS h2];rfl
 |min x y nw nS=>intro a h;obtain⟨p,q,h1,h2,h3⟩:=Ym h;rw[<- SI.Yl hX h3,<- nw h1,<- nS h2];rfl
 | ediv x n ih=>
   intro a h;unfold IE.sy at h;split at h;rename_i e;rw[<- SI.U7 hX h,<- ih e];rfl;cases h
 | emod x n ih=>
   intro a h;unfold IE.sy at h;split at h;rename_i e;rw[<- SI.acT hX h,<- ih e];rfl;cases h
 | shl x y nw nS=>
   intro a h;unfold IE.sy at h;split at h;rename_i n e;split at h;rename_i e';cases h;rw[SI.sA,<- nw e'];show x.ae _*2 ^ (y.ae _).toNat=_;rw[nS e,mc];rfl;cases h;cases h
 | shr x y nw nS=>
   intro a h;unfold IE.sy at h;split at h;rename_i n e;split at h;rename_i e';rw[<- SI.U7 hX h,<- nw e'];show x.ae _/2 ^ (y.ae _).toNat=_;rw[nS e];rfl;cases h;cases h
 | wrap k x ih=>
   intro a h;unfold IE.sy at h;split at h;rename_i e;rw[<- SI.Tv hX h,<- ih e];rfl;cases h
 | bits op k x y nw nS=>
   intro a h;unfold IE.sy at h;split at h;rename_i n e;split at h;rename_i m e';cases h;show Go.bits op k (x.ae _) (y.ae _)=_;rw[nw e,nS e'];rfl;cases h;cases h
 | len k=>
   intro a h;unfold IE.sy at h;show((SE.ae V E k).list.length:Int)=_;split at h;rename_i xs e;cases h;rw[SE.kO e];show((eR V.σ xs).length:Int)=_;rw[eR,kT];rfl;rename_i j e;rw[SE.kO e];exact hV.ol _ _ h;cases h
 | get k i j ih=>
   intro a h;unfold IE.sy at h;show cellAt (SE.ae V E k).list (i.ae _) j=_;split at h;rename_i xs e;split at h;rename_i n e';cases h;rw[SE.kO e,ih e'];show((eR V.σ xs).getD n.toNat []).getD j 0=_;rw[BP,getD_map];cases h;cases h
 | lh i n x y ihi nw nS=>
   intro a h;unfold IE.sy at h;show(if i.ae _=(n:Int)then x.ae _ else y.ae _)=_;split at h;rename_i m e;have e:=ihi e;split at h;rename_i q;rw[if_pos (by rw[e];exact rG q),nw h];rename_i q;rw[if_neg (fun q'=>by rw[show m=(n:Int)from e.symm.trans q',Fk]at q;cases q),nS h];cases h
theorem xL{a:Option Bool}{x:Bool}(h:OA a=some x):a=some (!x):=by
 cases a with
 |none=>cases h
 |some y=>cases h;simp
theorem OJ(hV:V.Ok X){b:SI}{e:IE}{a:Bool}(h:OB X.box (IE.sy X E) b e=some a):decide (e.ae (SE.ae V E)<=b.ae V.σ)=a:=by
 have hX:=hV.num;unfold OB at h;split at h;rename_i p q;split at h;rename_i p' e1;split at h;rename_i q' e2;have h1:=IE.fB hV e1;have h2:=IE.fB hV e2;show decide (Max.max (p.ae _) (q.ae _)<=_)=a;split at h;rename_i l;have l:=qt (SI.uZ hX.box l);have h:=SI.uZ hX.box h;rw[SI.gI]at l h;cases a<;>simp at h ⊢ <;>omega;rename_i l;cases h;have l:=T3 (SI.uZ hX.box l);rw[SI.gI]at l;simp;omega;cases h;cases h;cases h;cases h
theorem BE.fB(hV:V.Ok X):∀ {e:BE} {a:Bool},BE.sy X E e=some a->e.ae (SE.ae V E)=a:=by
 have hX:=hV.num;intro e;induction e with
 | v k=>
   intro a h;unfold BE.sy at h;split at h;rename_i e;cases h;show(SE.ae V E k).bool=_;rw[SE.kO e];rfl;cases h
 |c n=>intro a h;cases h;rfl
 | lt x y=>
   intro a h;unfold BE.sy at h;split at h;rename_i p e;split at h;rename_i q e';have h:=SI.uZ hX.box (xL h);rw[SI.gI,<- IE.fB hV e,<- IE.fB hV e']at h;show decide (x.ae _<y.ae _)=a;cases a<;>simp at h ⊢ <;>omega;cases h;cases h
 | le x y=>
   intro a h;unfold BE.sy at h;show decide (x.ae _<=y.ae _)=a;split at h;rename_i q e';split at h;rename_i p e;have h:=SI.uZ hX.box h;rw[SI.gI,<- IE.fB hV e,<- IE.fB hV e']at h;cases a<;>simp at h ⊢ <;>omega;rw[IE.fB hV e'];exact OJ hV h;cases h
 | eq x y=>
   intro a h;unfold BE.sy at h;split at h;rename_i p e;split at h;rename_i q e';have h:=SI.U6 hX.box h;rw[SI.gI,<- IE.fB hV e,<- IE.fB hV e']at h;show decide (x.ae _=y.ae _)=a;cases a<;>simp at h ⊢ <;>omega;cases h;cases h
 |not x ih=>intro a h;show(!(x.ae _))=a;rw[ih (xL h),Bool.not_not]
 | and x y nw nS=>
   intro a h;unfold BE.sy at h;show(x.ae _&&y.ae _)=a;split at h;rename_i e;rw[nw e,nS h];rfl;rename_i e;cases h;rw[nw e];rfl;split at h;rename_i e;cases h;rw[nS e,Bool.and_false];cases h
 | or x y nw nS=>
   intro a h;unfold BE.sy at h;show(x.ae _||y.ae _)=a;split at h;rename_i e;cases h;rw[nw e];rfl;rename_i e;rw[nw e,nS h];rfl;split at h;rename_i e;cases h;rw[nS e,Bool.or_true];cases h
 | iff x y nw nS=>
   intro a h;unfold BE.sy at h;show(x.ae _==y.ae _)=a;split at h;rename_i e;rw[nw e,nS h];cases a<;>rfl;rename_i e;rw[nw e,nS (xL h)];cases a<;>rfl;cases h
 | qu x=>
   intro a h;unfold BE.sy at h;split at h;rename_i p e;have h:=SI.U6 hX.box (xL h);rw[<- IE.fB hV e]at h;show decide (x.ae _≠0)=a;cases a<;>simp at h ⊢ <;>omega;cases h
theorem jN{α β γ:Type}{f:α->Option β}{g:α->γ}{d:β->γ}(hf:∀a b,f a=some b->g a=d b):∀ {l:List α} {r:List β},rM f l=some r->l.map g=r.map d
 | [],r,h=>by cases h;rfl
 | a::as,r,h=>by
   unfold rM at h;split at h;rename_i b e;split at h;rename_i bs e';cases h;rw[jt,jt,hf a b e,jN hf e'];cases h;cases h
theorem oH(hV:V.Ok X)(x:Sum IE BE)(a:SI)(h:xa X E x=some a):bV (SE.ae V E) x=a.ae V.σ:=by
 cases x with
 |inl e=>exact IE.fB hV h
 | inr b=>
   simp only[xa]at h;show(if b.ae _ then(1:Int)else 0)=_;split at h;rename_i e;cases h;rw[BE.fB hV e];rfl;rename_i e;cases h;rw[BE.fB hV e];rfl;cases h
theorem DE.fB(hV:V.Ok X)(x:DE)(a:YV)(h:DE.sy X E x=some a):x.ae (SE.ae V E)=a.ae V:=by
 cases x with
 | i e=>
   simp only[DE.sy]at h;split at h;rename_i e';cases h;exact congrArg DV.i (IE.fB hV e');cases h
 | b e=>
   simp only[DE.sy]at h;split at h;rename_i e';cases h;exact congrArg DV.b (BE.fB hV e');cases h
 | l k=>
   simp only[DE.sy]at h;show DV.l (SE.ae V E k).list=_;split at h;rename_i e;cases h;rw[SE.kO e];rfl;rename_i e;cases h;rw[SE.kO e];rfl;cases h
 |nil=>cases h;rfl
 | rows es=>
   simp only[DE.sy]at h;split at h;rename_i xs e;cases h;have:=jN (g:=fun e=>[e.ae (SE.ae V E)]) (d:=fun a=>[a.ae V.σ]) (fun a b h=>by rw[IE.fB hV h]) e;show DV.l _=DV.l (eR V.σ (xs.map fun x=>[x]));rw[this,eR,List.map_map];rfl;cases h
 | kn xs=>
   simp only[DE.sy]at h;split at h;rename_i ys e;cases h;have:=jN (g:=bV (SE.ae V E)) (d:=SI.ae V.σ) (fun a b h=>oH hV a b h) e;show DV.l [xs.map _]=DV.l _;rw[this];rfl;cases h
theorem gm{k:Nat}{xs:List (List SI)}(h:E.rows k=some xs):(SE.ae V E k).list=eR V.σ xs:=by
 unfold SE.rows at h;split at h;rename_i e;cases h;rw[SE.kO e];rfl;cases h
theorem vV(hV:V.Ok X){i:IE}{n:Int}(h:IE.U5 X E i=some n):i.ae (SE.ae V E)=n:=by
 unfold IE.U5 at h;split at h;rename_i e;cases h;exact IE.fB hV e;cases h
theorem zN{σ:List Int}{r:List SI}{j:Nat}{x:SI}:(uY r j x).map (SI.ae σ)=l7 (r.map (SI.ae σ)) j (x.ae σ):=by
 unfold uY l7;rw[kT];split;rw[List.map_set];rw[od,od,List.map_replicate];rfl
theorem xb{σ:List Int}:∀ {xs r:List SI} {j:Nat},(rN r j xs).map (SI.ae σ)=gE (r.map (SI.ae σ)) j (xs.map (SI.ae σ))
 | [],r,j=>rfl
 | x::xs,r,j=>by
   show(rN (uY r j x) (j+1) xs).map _=_;rw[xb,zN];rfl
theorem head_map{σ:List Int}{hs:List SI}:(hs.map (SI.ae σ)).headD 0=(hs.headD (.k 0)).ae σ:=by cases hs<;>rfl
theorem Fm{σ:List Int}{hs:List SI}:(hs.map (SI.ae σ)).tail=hs.tail.map (SI.ae σ):=by cases hs<;>rfl
theorem zO{σ:List Int}:∀ {aH:List NK} {hs rest:List SI} {j:Nat} {r:List SI},BM aH hs rest j=some r->mL aH (hs.map (SI.ae σ)) (rest.map (SI.ae σ)) j=r.map (SI.ae σ)
 | [],hs,rest,j,r,h=>by cases h;rfl
 |.c _::aH,hs,rest,0,r,h=>by cases h;rfl
 | .c _::aH,hs,rest,j+1,r,h=>by
   show mL aH (hs.map (SI.ae σ)).tail (rest.map (SI.ae σ)) j=_;rw[Fm];exact zO (aH:=aH) h
 | .s _ _::aH,hs,rest,0,r,h=>by
   unfold BM at h;show(rest.map (SI.ae σ)).take ((hs.map (SI.ae σ)).headD 0).toNat=_;split at h;rename_i n e;cases h;rw[head_map,e,List.map_take];rfl;cases h
 | .s _ _::aH,hs,rest,j+1,r,h=>by
   unfold BM at h;show mL aH (hs.map (SI.ae σ)).tail ((rest.map (SI.ae σ)).drop ((hs.map (SI.ae σ)).headD 0).toNat) j=_;split at h;rename_i n e;rw[head_map,e,Fm,<- List.map_drop];exact zO (aH:=aH) h;cases h
theorem tP{σ:List Int}{n:Nat}{f:List SI->List SI}{g:List Int->List Int}(h:∀r,(f r).map (SI.ae σ)=g (r.map (SI.ae σ))):∀ {xs:List (List SI)},eR σ (xs.modify n f)=(eR σ xs).modify n g:=by
 intro xs;apply List.ext_getElem?;intro i;simp only[eR,gJ,List.getElem?_modify];cases xs[i]? with
 |none=>rfl
 |some r=>simp only[sG];split<;>simp[h]
theorem Tw(hV:V.Ok X)(x:bI)(a:SI)(h:bI.OC X E x=some a):bI.head (SE.ae V E) x=a.ae V.σ:=by
 cases x with
 |c x=>exact oH hV x a h
 | s k=>
   simp only[bI.OC]at h;show((SE.ae V E k).list.length:Int)=_;split at h;rename_i e;cases h;rw[gm e,eR,kT];rfl;cases h
 |nil=>cases h;rfl
theorem OK(x:bI)(a:List SI)(h:bI.OD E x=some a):bI.tail (SE.ae V E) x=a.map (SI.ae V.σ):=by
 cases x with
 |c x=>cases h;rfl
 | s k=>
   simp only[bI.OD]at h;show(SE.ae V E k).list.map (fun r=>r.getD 0 0)=_;split at h;rename_i e;cases h;rw[gm e,eR,List.map_map,List.map_map];exact sO fun r _=>getD_map;cases h
 |nil=>cases h;rfl
theorem cT.fB(hV:V.Ok X){op:cT}{xs:List (List SI)}(h:cT.sy X E op=some xs):op.ae (SE.ae V E)=eR V.σ xs:=by
 cases op with
 |lit rows=>exact jN (fun r s h=>jN (fun a b h=>oH hV a b h) h) h
 | app a b=>
   simp only[cT.sy]at h;split at h;rename_i e;split at h;rename_i e';cases h;show(SE.ae V E a).list++(SE.ae V E b).list=_;rw[gm e,gm e',eR,eR,eR,od];cases h;cases h
 | set a i j x=>
   simp only[cT.sy]at h;split at h;rename_i e;split at h;rename_i n e1;split at h;rename_i y e2;cases h;show setAt (SE.ae V E a).list (i.ae _) j (bV _ x)=_;rw[gm e,vV hV e1,oH hV _ _ e2,setAt];exact(tP fun r=>zN).symm;cases h;cases h;cases h
 | Aj a i ys=>
   simp only[cT.sy]at h;split at h;rename_i e;split at h;rename_i n e1;split at h;rename_i y e2;cases h;show(SE.ae V E a).list.modify (i.ae _).toNat (fun _=>ys.map (bV _))=_;rw[gm e,vV hV e1,jN (fun a b h=>oH hV a b h) e2];exact(tP fun r=>rfl).symm;cases h;cases h;cases h
 | Al a i j ys=>
   simp only[cT.sy]at h;split at h;rename_i e;split at h;rename_i n e1;split at h;rename_i y e2;cases h;show(SE.ae V E a).list.modify (i.ae _).toNat (fun r=>gE r j (ys.map (bV _)))=_;rw[gm e,vV hV e1,jN (fun a b h=>oH hV a b h) e2];exact(tP (f:=fun r=>rN r j y) (g:=fun r=>gE r j (y.map (SI.ae V.σ))) fun r=>xb).symm;cases h;cases h;cases h
 | take a n=>
   simp only[cT.sy]at h;split at h;rename_i e;split at h;rename_i m e1;cases h;show(SE.ae V E a).list.take (n.ae _).toNat=_;rw[gm e,vV hV e1,eR,eR,List.map_take];cases h;cases h
 | rep n row=>
   simp only[cT.sy]at h;split at h;rename_i m e1;cases h;show List.replicate (n.ae _).toNat row=_;rw[vV hV e1,eR,List.map_replicate,List.map_map];congr 1;exact(List.map_id _).symm;cases h
 |cp a=>exact gm h
 | sub a i aH j=>
   simp only[cT.sy]at h;split at h;rename_i xs e;split at h;rename_i n e1;split at h;rename_i l e2;cases h;show(fW aH ((SE.ae V E a).list.getD (i.ae _).toNat []) j).map (fun x=>[x])=_;rw[gm e,vV hV e1,BP,fW,<- List.map_take,<- List.map_drop,zO e2,eR,List.map_map,List.map_map];rfl;cases h;cases h;cases h
 | LZ a b=>
   simp only[cT.sy]at h;split at h;rename_i e;split at h;rename_i e';cases h;show(SE.ae V E b).list.take (SE.ae V E a).list.length++(SE.ae V E a).list.drop (SE.ae V E b).list.length=_;rw[gm e,gm e'];simp only[eR,od,List.map_take,List.map_drop,kT];cases h;cases h
 | yc rows=>
   refine jN (g:=fun r=>r.map (bI.head (SE.ae V E))++r.flatMap (bI.tail (SE.ae V E))) (d:=fun r=>r.map (SI.ae V.σ)) (fun r s h=>?_) h;split at h;rename_i a e;split at h;rename_i t e';cases h;have h1:=jN (fun a b h=>Tw hV a b h) e;have h2:=jN (d:=fun l:List SI=>l.map (SI.ae V.σ)) (fun a b h=>OK (V:=V) a b h) e';rw[List.flatMap_def,h1,h2,od,List.map_flatten];cases h;cases h
theorem cT.Yn(hV:V.Ok X){op:cT}{v:YV}(h:cT.syV X E op=some v):DV.l (op.ae (SE.ae V E))=v.ae V:=by
 unfold cT.syV at h;split at h;rename_i a b;show DV.l ((SE.ae V E a).list++(SE.ae V E b).list)=_;split at h;rename_i xs e;split at h;rename_i ys e';cases h;rw[SE.kO e,SE.kO e'];show DV.l (eR V.σ xs++eR V.σ ys)=DV.l (eR V.σ (xs++ys));rw[eR,eR,eR,od];rename_i k e';split at h;cases h;rw[SE.kO e,SE.kO e'];rfl;cases h;cases h;rename_i k e;split at h;rename_i e';cases h;rw[SE.kO e,SE.kO e'];show DV.l (V.τ k++[])=_;rw[xk];rfl;cases h;cases h;rename_i a;show DV.l (SE.ae V E a).list=_;split at h;rename_i e;cases h;rw[SE.kO e];rfl;rename_i e;cases h;rw[SE.kO e];rfl;cases h;split at h;rename_i e;cases h;rw[cT.fB hV e];rfl;cases h
end
end
section
section
variable {X:Cx}{V:sr}
abbrev dO(V:sr)(ds:List YV):List DV:=ds.map (YV.ae V)
def LeY(V:sr)(f:List YV->Option (List YV))(g:List DV->Option (List DV)):Prop:=∀ds rs,f ds=some rs->g (dO V ds)=some (dO V rs)
def PsY(V:sr):List (SI->Option (List YV))->List (Int->Option (List DV))->Prop
 | [],[]=>True
 |p::ps,q::qs=>(∀a rs,p a=some rs->q (a.ae V.σ)=some (dO V rs))/\PsY V ps qs
 |_,_=>False
theorem OL{s:(List YV->Option (List YV))->List YV->Option (List YV)}{t:(List DV->Option (List DV))->List DV->Option (List DV)}(h:∀f g,LeY V f g->LeY V (s f) (t g)):∀n,LeY V (OF s n) (iter t n):=by
 intro n;induction n with
 |zero=>intro ds rs e;cases e
 |succ n ih=>intro ds rs e;exact h _ _ ih ds rs e
theorem oJ:∀cs:List CT,dO V (BN cs)=defs cs
 | []=>rfl
 |.c .b::cs=>congrArg (DV.b false :: ·) (oJ cs)
 |.c (.i _)::cs=>congrArg (DV.i 0 :: ·) (oJ cs)
 |.c .f::cs=>congrArg (DV.i 0 :: ·) (oJ cs)
 |.s _ _::cs=>congrArg (DV.l [] :: ·) (oJ cs)
 |.n _ _::cs=>congrArg (DV.l [] :: ·) (oJ cs)
theorem Dw(hV:V.Ok X){E:SE}{l:List DE}{r:List YV}(h:rM (DE.sy X E) l=some r):l.map (DE.ae (SE.ae V E))=dO V r:=jN (fun a b h=>DE.fB hV a b h) h
theorem Dx{a b:YV}(h:OG a b=true):a=b:=by
 cases a<;>cases b<;>simp only[OG]at h<;>first|cases h|skip
 rw[xK h]
 . rename_i x y;cases x<;>cases y<;>simp_all
 rw[nP (fun a b h=>nP (fun a b h=>xK h) h) h];rw[vz h]
theorem Tx(hV:V.Ok X){C:zM}{C':bD}{N:Nat}(hC:∀f,LeY V (C f) (C' f)):∀(t:ar) {Ps:List (SI->Option (List YV))} {Qs:List (Int->Option (List DV))} {E:SE} {F:zM} {G:qa},PsY V Ps Qs->(∀j,LeY V (F j) (G j))->∀ {rs:List YV},t.ir X C N Ps E F=some rs->t.run C' N Qs (SE.ae V E) G=some (dO V rs):=by
 intro t;induction t with
 | ret bO=>
   intro Ps Qs E F G hP hF rs h;simp only[ar.ir]at h;split at h;rename_i vs e;rw[sx]at h;cases h;show some (bO.map _)=_;rw[Dw hV e];cases h
 |stuck s=>intro Ps Qs E F G _ _ rs h;cases h
 | ev e t ih=>
   intro Ps Qs E F G hP hF rs h;cases e with
   | aG p=>
     simp only[ar.ir]at h;show(if p.ae _=true then _ else none)=_;split at h;rename_i e;rw[if_pos (BE.fB hV e)];exact ih hP hF h;cases h
   | call f g args res base=>
     simp only[ar.ir]at h;show(if g.ae _=true then(match C' f (args.map (DE.ae _))with
       |some rs=>t.run C' N Qs ((SE.ae V E).ay base rs) G
       |none=>none)else t.run C' N Qs ((SE.ae V E).ay base (defs (bt res))) G)=_
     split at h;rename_i eg;rw[if_pos (BE.fB hV eg)];split at h;rename_i as ea;rw[sx]at h;split at h;rename_i r er;rw[sx]at h;rw[Dw hV ea,hC f _ _ er];show t.run C' N Qs ((SE.ae V E).ay base (dO V r)) G=_;rw[<- SE.rO];exact ih hP hF h;cases h;cases h;rename_i eg;rw[if_neg (by rw[BE.fB hV eg];exact Bool.false_ne_true),<- oJ (V:=V),<- SE.rO];exact ih hP hF h;cases h
   | cu id op=>
     simp only[ar.ir]at h;show t.run C' N Qs ((SE.ae V E).set id (.l (op.ae _))) G=_;split at h;rename_i xs e;rw[OE]at h;rw[cT.Yn hV e,<- ih hP hF h,SE.cons];cases h
   |dh p e=>cases h
 | ite c a b et eP=>
   intro Ps Qs E F G hP hF rs h;simp only[ar.ir]at h;show(if c.ae _=true then _ else _)=_;split at h;rename_i e;rw[if_pos (BE.fB hV e)];exact et hP hF h;rename_i e;rw[if_neg (by rw[BE.fB hV e];exact Bool.false_ne_true)];exact eP hP hF h;split at h;rename_i x ex;split at h;rename_i y ey;split at h;rename_i q;cases h;have q:=nP (fun a b h=>Dx h) q;subst q;split;exact et hP hF ex;exact eP hP hF ey;cases h;cases h;cases h
 | loop id entry ks base body ih=>
   intro Ps Qs E F G hP hF rs h;simp only[ar.ir]at h;split at h;rename_i ds e;rw[sx]at h;show iter _ N (entry.map _)=_;rw[Dw hV e];refine OL (V:=V) (fun f g hfg ds rs h=>?_) N ds rs h;rw[sx]at h;rw[<- SE.rO];refine ih hP (fun j ds rs h=>?_) h;unfold upS at h;unfold yY;split at h;rename_i e;rw[if_pos (vz e)];exact hfg _ _ h;rename_i e;rw[if_neg (fun e'=>by rw[e',Nat.beq_refl]at e;cases e)];exact hF j _ _ h;cases h
 | again id bO=>
   intro Ps Qs E F G hP hF rs h;simp only[ar.ir]at h;split at h;rename_i ds e;rw[sx]at h;show G id (bO.map _)=_;rw[Dw hV e];exact hF id _ _ h;cases h
 | fail e=>
   intro Ps Qs E F G hP hF rs h;cases Ps with
   |nil=>cases h
   | cons p ps=>
     cases Qs with
     |nil=>exact hP.elim
     | cons q qs=>
       simp only[ar.ir]at h;split at h;rename_i a e';rw[Hj]at h;show q (e.ae _)=_;rw[IE.fB hV e'];exact hP.1 _ _ h;cases h
 | gi x tp t AP ih=>
   intro Ps Qs E F G hP hF rs h;refine ih (Ps:=(fun n=>tp.ir X C N Ps ((x,.i n)::E) F)::Ps) (Qs:=(fun n=>tp.run C' N Qs ((SE.ae V E).set x (.i n)) G)::Qs) ⟨fun a rs h=>?_,hP⟩ hF h;have:=AP hP hF h;rw[SE.cons]at this;exact this
 | pop t ih=>
   intro Ps Qs E F G hP hF rs h;cases Ps with
   |nil=>cases h
   | cons p ps=>
     cases Qs with
     |nil=>exact hP.elim
     |cons q qs=>exact ih hP.2 hF h
def tJ(T:Nat->Option gb)(Y:bD)(V:sr):List kx->Prop
 | []=>True
 |x::r=>cm T Y x.1 (dO V x.2.1) (dO V x.2.2)/\tJ T Y V r
theorem tJ.fuel{T:Nat->Option gb}{Y:bD}:∀ {tb:List kx},tJ T Y V tb->∃n,∀x∈tb,ev T Y n x.1 (dO V x.2.1)=some (dO V x.2.2)
 | [],_=>⟨0,fun x h=>by cases h⟩
 | x::tb,h=>by
   obtain⟨⟨n,hn⟩,hr⟩:=h;obtain⟨m,hm⟩:=tJ.fuel hr;refine⟨max n m,fun y hy=>?_⟩;rcases bh.1 hy with rfl|hy;exact gy n _ _ _ (Nat.le_max_left ..) _ hn;exact gy m _ _ _ (Nat.le_max_right ..) _ (hm y hy)
theorem vW{k:Nat}{ds rs:List YV}:∀ {tb:List kx},Fh k ds tb=some rs->(k,ds,rs)∈tb
 | [],h=>by cases h
 | (j,as,r)::tb,h=>by
   unfold Fh at h;split at h;rename_i e;split at h;rename_i e';cases h;rw[<- vz e,<- nP (fun a b h=>Dx h) e'];exact aM ..;exact aZ _ (vW h);exact aZ _ (vW h)
theorem Yo(hV:V.Ok X){T:Nat->Option gb}{Y:bD}{tb:List kx}(Sd:tJ T Y V tb){N:Nat}:∀d,∃n,∀k,LeY V (evY T X tb N d k) (ev T Y n k):=by
 obtain⟨m,hm⟩:=Sd.fuel;intro d;induction d with
 |zero=>exact⟨0,fun k ds rs h=>by cases h⟩
 | succ d ih=>
   obtain⟨n,hn⟩:=ih;refine⟨max m (max n N)+1,fun k ds rs h=>?_⟩;unfold evY at h;split at h;rename_i r hr;cases h;exact gy m _ _ _ (by omega) _ (hm _ (vW hr));split at h;rename_i e hk;have h:=Tx hV (C':=fun g=>ev T Y n (e.key g)) (fun g=>hn (e.key g)) e.tree (Ps:=[]) (Qs:=[]) (G:=fun _ _=>none) trivial (fun j ds rs h=>by cases h) h;rw[SE.rO]at h;simp only[ev,hk];exact mu (C:=fun g=>ev T Y n (e.key g)) (fun f as r hr=>gy n _ _ _ (by omega) _ hr) (by omega) s5.refl (fun _ _ _ h=>h) _ h;cases h
theorem KT(hV:V.Ok X){T:Nat->Option gb}{Y:bD}{tb:List kx}(Sd:tJ T Y V tb){d k N:Nat}{ds rs:List YV}(h:evY T X tb N d k ds=some rs):cm T Y k (dO V ds) (dO V rs):=by
 obtain⟨n,hn⟩:=Yo hV Sd (N:=N) d;exact⟨n,hn _ _ _ h⟩
def ir(T:Nat->Option gb)(X:Cx)(tb:List kx)(N d k:Nat)(ds rs:List YV):Bool:=match evY T X tb N d k ds with
 |some r=>Ip OG r rs
 |none=>false
theorem dQ(hV:V.Ok X){T:Nat->Option gb}{Y:bD}{tb:List kx}(Sd:tJ T Y V tb){d k N:Nat}{ds rs:List YV}(h:ir T X tb N d k ds rs=true):cm T Y k (dO V ds) (dO V rs):=by
 unfold ir at h;split at h;rename_i r e;rw[<- nP (fun a b h=>Dx h) h];exact KT hV Sd e;cases h
end
end
end Go.Sx

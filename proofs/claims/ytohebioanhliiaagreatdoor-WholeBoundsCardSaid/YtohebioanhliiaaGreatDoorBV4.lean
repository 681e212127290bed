/- WholeBounds: its function gives true. -/
import Derived.Test.YtohebioanhliiaaGreatDoorBV3
import Derived.Test.YtohebioanhliiaaGreatDoorBY1
import Derived.Test.YtohebioanhliiaaGreatDoorBY2
import Derived.Test.YtohebioanhliiaaGreatDoorBY3
import Derived.Test.YtohebioanhliiaaGreatDoorBY4
import Derived.Test.YtohebioanhliiaaGreatDoorBY5
import Derived.Test.YtohebioanhliiaaGreatDoorBY6
import Derived.Test.YtohebioanhliiaaGreatDoorBZ2
set_option maxRecDepth 100000
set_option linter.unusedVariables false
set_option linter.unusedSimpArgs false
namespace Go.Proofs.YtohebioanhliiaaGreatDoor.aw
section
open Go.Sx Go
theorem GY{m:Int}{r:List Int}:∀ {k:Nat} {σ:List Int},iu (List.replicate k 0++m::r) σ=m*σ.getD k 0+iu r (σ.drop (k+1))
 |0,[]=>by simp only[List.replicate,kG,iu,List.getD,List.getElem?_nil,Option.getD_none,Int.mul_zero,List.drop_nil];cases r<;>rfl
 |0,x::xs=>rfl
 | k+1,[]=>by
   simp only[List.replicate,nU,iu,List.getD,List.getElem?_nil,Option.getD_none,Int.mul_zero,List.drop_nil];cases r<;>rfl
 | k+1,x::xs=>by
   show 0*x+iu (List.replicate k 0++m::r) xs=_;rw[GY,Int.zero_mul,Int.zero_add];rfl
theorem dw{σ:List Int}{k:Nat}{c m:Int}:(un k c m).ae σ=c+m*σ.getD k 0:=by
 show c+iu (List.replicate k 0++[m]) σ=_;rw[GY,pR,Int.add_zero]
theorem iW{V:sr}{k:Nat}{m:Int}:(jb k m).ae V = .i (m*V.σ.getD k 0+V.σ.getD (k+1) 0):=by
 show DV.i (0+iu (List.replicate k 0++[m,1]) V.σ)=_;rw[GY,Int.zero_add];congr 2;have:∀l:List Int,iu [1] l=l.getD 0 0:=fun l=>by cases l<;>simp[iu]
 rw[this];simp[List.getD]
def k6(X1 Y1 X2 Y2 X3 Y3 h0 h1 h2 P t s:Int):List Int:=[X1,Y1,X2,Y2,X3,Y3,h0/64,h0%64,h1/64,h1%64,h2/3,h2%3,P,t,s]
section
variable {X1 Y1 X2 Y2 X3 Y3 h0 h1 h2 P t s:Int}{fr:List (List Int)}
abbrev mF(X1 Y1 X2 Y2 X3 Y3 h0 h1 h2 P t s:Int)(fr:List (List Int)):sr:=⟨k6 X1 Y1 X2 Y2 X3 Y3 h0 h1 h2 P t s,fun _=>fr⟩
theorem tI(x1: -1048576<=X1/\X1<=1048576)(y1: -1048576<=Y1/\Y1<=1048576)(x2: -1048576<=X2/\X2<=1048576)(y2: -1048576<=Y2/\Y2<=1048576)(x3: -1048576<=X3/\X3<=1048576)(y3: -1048576<=Y3/\Y3<=1048576)
   (k0:0<=h0/\h0<=255) (k1:0<=h1/\h1<=255) (k2:0<=h2/\h2<=255) (hP:0<=P/\P<=5000) (ht:0<=t/\t<=512000000000) (hs:0<=s/\s<=100000):Lo (k6 X1 Y1 X2 Y2 X3 Y3 h0 h1 h2 P t s) ND:=
 ⟨x1,y1,x2,y2,x3,y3,⟨by show 0<=h0/64;omega,by show h0/64<=3;omega⟩,⟨by show 0<=h0%64;omega,by show h0%64<=63;omega⟩,⟨by show 0<=h1/64;omega,by show h1/64<=3;omega⟩,⟨by show 0<=h1%64;omega,by show h1%64<=63;omega⟩,⟨by show 0<=h2/3;omega,by show h2/3<=85;omega⟩,⟨by show 0<=h2%3;omega,by show h2%3<=2;omega⟩,hP,ht,hs,trivial⟩
theorem NO{n:Nat}{b:Bool}(hb:Lo (k6 X1 Y1 X2 Y2 X3 Y3 h0 h1 h2 P t s) ND)(hP:(3+h1%64)*(3+h1%64)=P)(hs:(72+4*(h0%64))*(3+h0%64)=216+9*(h0%64)+s)(hl:(fr.length:Int)=(lenOf n b).ae (k6 X1 Y1 X2 Y2 X3 Y3 h0 h1 h2 P t s)):sr.Ok (sO n b) (mF X1 Y1 X2 Y2 X3 Y3 h0 h1 h2 P t s fr):=by
 refine⟨⟨hb,fun x hx=>?_⟩,fun j m hj=>?_⟩;have hx:x=(0,un 9 3 1,un 9 3 1,un 12 0 1)\/x=(0,un 7 72 4,un 7 3 1,(un 7 9 9).add (un 14 207 1)):=by simpa[sO]using hx
 rcases hx with rfl|rfl;show(un 9 3 1).ae _*(un 9 3 1).ae _=(un 12 0 1).ae _;rw[dw,dw];show(3+1*(h1%64))*(3+1*(h1%64))=0+1*P;rw[Int.one_mul,hP];omega;show(un 7 72 4).ae _*(un 7 3 1).ae _=((un 7 9 9).add (un 14 207 1)).ae _;rw[SI.C9,dw,dw,dw,dw];show(72+4*(h0%64))*(3+1*(h0%64))=9+9*(h0%64)+(207+1*s);rw[Int.one_mul,hs];omega
 match j,hj with
 |0,hj=>cases hj;exact hl
 |j+1,hj=>cases hj
theorem ok0{n:Nat}{b:Bool}{V:sr}(h:sr.Ok (sO n b) V):sr.Ok dc V:=⟨⟨h.num.box,fun x hx=>by cases hx⟩,fun j m hj=>by cases hj⟩
theorem uQ{V:sr}(h:sr.Ok dc V){x:kx}(e:Rn Tryz.prog x=true):cm (TT Tryz.prog) XF x.1 (dO V x.2.1) (dO V x.2.2):=dQ h (tb:=[]) trivial e
theorem Xl{n:Nat}{b:Bool}{V:sr}(hV:sr.Ok (sO n b) V)(Rq:cm (TT Tryz.prog) XF 18 (dO V (SY n b n)) (dO V [.o 0,.b true]))(hd:tJ (TT Tryz.prog) XF V (doT n b))(hl:Xk Tryz.prog n b=true):cm (TT Tryz.prog) XF 8 (dO V (wY n b)) [.b true]:=
 dQ hV (tb:=NN n b::vT::doT n b) ⟨Rq,Aw.zq,hd⟩ hl
theorem do6{V:sr}(h:sr.Ok dc V):tJ (TT Tryz.prog) XF V [W6,W7,W8,W9,Xa,Xb]:=⟨uQ h rn1,uQ h rn2,uQ h rn3,uQ h rn4,uQ h rn5,uQ h rn6,trivial⟩
theorem Da{V:sr}:∀ {a b:List kx},tJ (TT Tryz.prog) XF V a->tJ (TT Tryz.prog) XF V b->tJ (TT Tryz.prog) XF V (a++b)
 | [],_,_,h=>h
 |_::_,_,h,h'=>⟨h.1,Da h.2 h'⟩
theorem Xm{n:Nat}{b:Bool}{V:sr}(h:sr.Ok dc V)(h7:b=true->Rn Tryz.prog Xc=true)(h8:Rn Tryz.prog (EV n b)=true)(h9:∀i,i<n->Rn Tryz.prog (tG n b i)=true):tJ (TT Tryz.prog) XF V (doT n b):=by
 refine Da (Da (do6 h) ?_) ⟨uQ h h8,?_⟩;cases b;trivial;exact⟨uQ h (h7 rfl),trivial⟩;have:∀l:List Nat,(∀i∈l,i<n)->tJ (TT Tryz.prog) XF V (l.map (tG n b)):=fun l=>by
   induction l with
   |nil=>intro _;trivial
   |cons i l ih=>intro hi;exact⟨uQ h (h9 i (hi i (aM ..))),ih fun j hj=>hi j (aZ _ hj)⟩
 exact this _ fun i hi=>ui.1 hi
theorem Db{n:Nat}{b:Bool}{V:sr}(hn:n=1\/n=2\/n=3)(h:sr.Ok dc V):tJ (TT Tryz.prog) XF V (doT n b):=by
 refine Xm h (fun _=>rn7) ?_ ?_;rcases hn with rfl|rfl|rfl<;>cases b;exact abT;exact abU;exact abV;exact abW;exact abX;exact abY;rcases hn with rfl|rfl|rfl<;>cases b<;>intro i hi
 match i,hi with
 |0,_=>exact Xn
 match i,hi with
 |0,_=>exact Xo
 match i,hi with
 |0,_=>exact Xp
 |1,_=>exact Xq
 match i,hi with
 |0,_=>exact Xr
 |1,_=>exact Xs
 match i,hi with
 |0,_=>exact Xt
 |1,_=>exact Xu
 |2,_=>exact Xv
 match i,hi with
 |0,_=>exact Xw
 |1,_=>exact Xx
 |2,_=>exact Xy
theorem NP(h:0<=h1/\h1<=255):9<=(3+h1%64)*(3+h1%64)/\(3+h1%64)*(3+h1%64)<=5000:=by
 have a1:=xo (show(3:Int)<=3+h1%64 by omega) (show(3:Int)<=3+h1%64 by omega) (by omega) (by omega);have a2:=xo (show 3+h1%64<=(66:Int)by omega) (show 3+h1%64<=(66:Int)by omega) (by omega) (by omega);omega
theorem NQ(h:0<=h0/\h0<=255):0<=(72+4*(h0%64))*(3+h0%64)-216-9*(h0%64)/\(72+4*(h0%64))*(3+h0%64)-216-9*(h0%64)<=100000:=by
 have a1:=qR (show(0:Int)<=h0%64 by omega) (show(0:Int)<=h0%64 by omega);have a2:=xo (show h0%64<=(63:Int)by omega) (show h0%64<=(63:Int)by omega) (by omega) (by omega);have:(72+4*(h0%64))*(3+h0%64)=216+84*(h0%64)+4*(h0%64*(h0%64)):=by grind
 omega
end
def abZ(ds:List DV):Prop:=∃(l:List (List Int)) (h0 h1 h2:Int) (b:Bool),ds=[.l l,.i h0,.i h1,.i h2,.b b]/\(l.length:Int)<=9223372036854775807/\(∀r∈l,r.length=2/\∀j,-9223372036854775808<=r.getD j 0/\r.getD j 0<=9223372036854775807)/\(0<=h0/\h0<=255)/\(0<=h1/\h1<=255)/\0<=h2/\h2<=255
section
variable {h0 h1 h2:Int}(k0:0<=h0/\h0<=255)(k1:0<=h1/\h1<=255)(k2:0<=h2/\h2<=255)
theorem ab0{h0:Int}{h1:Int}{h2:Int}(k0:0<=h0/\h0<=255)(k1:0<=h1/\h1<=255)(k2:0<=h2/\h2<=255){b:Bool}{X Y:Int}(x1: -1048576<=X/\X<=1048576)(y1: -1048576<=Y/\Y<=1048576):cm (TT Tryz.prog) XF 8 [.l [[X,Y]],.i h0,.i h1,.i h2,.b b] [.b true]:=by
 have pP:=NP k1;have pS:=NQ k0;have z0:(-1048576:Int)<=0/\(0:Int)<=1048576:=by omega
 obtain⟨P,hP⟩:∃P,P=(3+h1%64)*(3+h1%64):=⟨_,rfl⟩;obtain⟨s,hs⟩:∃s,s=(72+4*(h0%64))*(3+h0%64)-216-9*(h0%64):=⟨_,rfl⟩;rw[<- hP]at pP;rw[<- hs]at pS;have jn:=tI x1 y1 z0 z0 z0 z0 k0 k1 k2 (P:=P) (t:=0) (s:=s) (by omega) (by omega) pS;obtain⟨rs,g0,_⟩:=uP 69 (by decide) (dO (mF X Y 0 0 0 0 h0 h1 h2 P 0 s []) (fb 1 b).2.1) ⟨oD (B:=ND) jn (by cases b<;>kernel_rfl),by rw[show(kc 69).pre=[]by kernel_rfl];intro p hp;cases hp⟩;have sH:(UF).ae (k6 X Y 0 0 0 0 h0 h1 h2 P 0 s)=1+h1%64:=by
   show(un 9 1 1).ae _=_;rw[dw];show 1+1*(h1%64)=_;omega
 obtain⟨fr,rfl,Jz⟩:=S0 (s:=(UF).ae (k6 X Y 0 0 0 0 h0 h1 h2 P 0 s)) (by omega) (show Gf 69 [.i ((un 0 0 1).ae (k6 X Y 0 0 0 0 h0 h1 h2 P 0 s)),.i ((un 1 0 1).ae (k6 X Y 0 0 0 0 h0 h1 h2 P 0 s)),.i 8388607,.i 1,.i 1,.i 1,.i 1,.i ((UF).ae (k6 X Y 0 0 0 0 h0 h1 h2 P 0 s)),.i ((ZZ).ae (k6 X Y 0 0 0 0 h0 h1 h2 P 0 s)),.i 0,.i 0,.i 9,.i 8] rs by cases b<;>exact g0);rw[sH,show 1+h1%64+2=3+h1%64 by omega,<- hP]at Jz;obtain⟨t,ht⟩:∃t,t=P-(fr.length:Int):=⟨_,rfl⟩;have hb:=tI x1 y1 z0 z0 z0 z0 k0 k1 k2 (P:=P) (t:=t) (s:=s) (by omega) (by omega) pS;have hV:sr.Ok (sO 1 b) (mF X Y 0 0 0 0 h0 h1 h2 P t s fr):=NO hb hP.symm (by omega) (by
   show _=((un 12 0 1).sub (un 13 0 1)).ae _;rw[SI.gI,dw,dw];show _=0+1*P-(0+1*t);omega)
 have lf:cm (TT Tryz.prog) XF 69 (dO (mF X Y 0 0 0 0 h0 h1 h2 P t s fr) (fb 1 b).2.1) (dO (mF X Y 0 0 0 0 h0 h1 h2 P t s fr) [.o 0]):=by
   have:dO (mF X Y 0 0 0 0 h0 h1 h2 P t s fr) (fb 1 b).2.1=dO (mF X Y 0 0 0 0 h0 h1 h2 P 0 s []) (fb 1 b).2.1:=by
     cases b<;>(simp only[fb,zx,zy,dO,pt,UF,ZZ,jt,mJ,od,nU,kG,YV.ae,dw]<;>rfl)
   rw[this];exact g0
 have Rq:cm (TT Tryz.prog) XF 18 (dO (mF X Y 0 0 0 0 h0 h1 h2 P t s fr) (SY 1 b 1)) (dO (mF X Y 0 0 0 0 h0 h1 h2 P t s fr) [.o 0,.b true]):=by
   cases b;exact dQ hV (tb:=[fb 1 false]) ⟨lf,trivial⟩ agO;exact dQ hV (tb:=[fb 1 true]) ⟨lf,trivial⟩ agQ
 have:=Xl hV Rq (Db (.inl rfl) (ok0 hV)) (by cases b;exact agS;exact agV);have e:dO (mF X Y 0 0 0 0 h0 h1 h2 P t s fr) (wY 1 b)=[.l [[X,Y]],.i h0,.i h1,.i h2,.b b]:=by
   have a1:dO (mF X Y 0 0 0 0 h0 h1 h2 P t s fr) (wY 1 b)=[.l [[(un 0 0 1).ae (k6 X Y 0 0 0 0 h0 h1 h2 P t s),(un 1 0 1).ae (k6 X Y 0 0 0 0 h0 h1 h2 P t s)]],(jb 6 64).ae (mF X Y 0 0 0 0 h0 h1 h2 P t s fr),(jb 8 64).ae (mF X Y 0 0 0 0 h0 h1 h2 P t s fr),(jb 10 3).ae (mF X Y 0 0 0 0 h0 h1 h2 P t s fr),.b b]:=rfl;rw[a1,iW,iW,iW,dw,dw];show [DV.l [[0+1*X,0+1*Y]],DV.i (64*(h0/64)+h0%64),DV.i (64*(h1/64)+h1%64),DV.i (3*(h2/3)+h2%3),DV.b b]=_;rw[show 0+1*X=X by omega,show 0+1*Y=Y by omega,show 64*(h0/64)+h0%64=h0 by omega,show 64*(h1/64)+h1%64=h1 by omega,show 3*(h2/3)+h2%3=h2 by omega]
 rwa[e]at this
theorem ab1{h0:Int}{h1:Int}{h2:Int}(k0:0<=h0/\h0<=255)(k1:0<=h1/\h1<=255)(k2:0<=h2/\h2<=255){b:Bool}{X1 Y1 X2 Y2:Int}(x1: -1048576<=X1/\X1<=1048576)(y1: -1048576<=Y1/\Y1<=1048576)(x2: -1048576<=X2/\X2<=1048576)(y2: -1048576<=Y2/\Y2<=1048576):cm (TT Tryz.prog) XF 8 [.l [[X1,Y1],[X2,Y2]],.i h0,.i h1,.i h2,.b b] [.b true]:=by
 have pP:=NP k1;have pS:=NQ k0;have z0:(-1048576:Int)<=0/\(0:Int)<=1048576:=by omega
 obtain⟨P,hP⟩:∃P,P=(3+h1%64)*(3+h1%64):=⟨_,rfl⟩;obtain⟨s,hs⟩:∃s,s=(72+4*(h0%64))*(3+h0%64)-216-9*(h0%64):=⟨_,rfl⟩;rw[<- hP]at pP;rw[<- hs]at pS;have jn:=tI x1 y1 x2 y2 z0 z0 k0 k1 k2 (P:=P) (t:=0) (s:=s) (by omega) (by omega) pS;have V9:(SX).ae (k6 X1 Y1 X2 Y2 0 0 h0 h1 h2 P 0 s)=1+h0%64:=by
   show(un 7 1 1).ae _=_;rw[dw];show 1+1*(h0%64)=_;omega
 have lf:∃fr t,(0<=t/\t<=512000000000)/\((fr:List (List Int)).length:Int)=(lenOf 2 b).ae (k6 X1 Y1 X2 Y2 0 0 h0 h1 h2 P t s)/\cm (TT Tryz.prog) XF (fb 2 b).1 (dO (mF X1 Y1 X2 Y2 0 0 h0 h1 h2 P t s fr) (fb 2 b).2.1) (dO (mF X1 Y1 X2 Y2 0 0 h0 h1 h2 P t s fr) (fb 2 b).2.2):=by
   have same:∀t fr,dO (mF X1 Y1 X2 Y2 0 0 h0 h1 h2 P t s fr) (fb 2 b).2.1=dO (mF X1 Y1 X2 Y2 0 0 h0 h1 h2 P 0 s []) (fb 2 b).2.1:=fun t fr=>by
     cases b<;>(simp only[fb,zx,zy,NM,dO,pt,SX,jt,mJ,od,nU,kG,YV.ae,dw]<;>rfl)
   cases b;obtain⟨rs,g0,_⟩:=uP 113 (by decide) (dO (mF X1 Y1 X2 Y2 0 0 h0 h1 h2 P 0 s []) (fb 2 false).2.1) ⟨oD (B:=ND) jn (by kernel_rfl),by rw[show(kc 113).pre=[]by kernel_rfl];intro p hp;cases hp⟩;obtain⟨fr,rfl,Jz⟩:=Xz (z:=[.i 8388607,.i 1,.i 1,.i 1,.i 1]) (y:=[.i 8388607,.i 1,.i 1,.i 1,.i 1]) (w:=(SX).ae (k6 X1 Y1 X2 Y2 0 0 h0 h1 h2 P 0 s)) rfl rfl (by omega) g0;rw[V9]at Jz;refine⟨fr,9*(1+h0%64)-fr.length,⟨by omega,by omega⟩,?_,?_⟩;show _=((un 7 9 9).sub (un 13 0 1)).ae _;rw[SI.gI,dw,dw];show _=9+9*(h0%64)-(0+1*(9*(1+h0%64)-(fr.length:Int)));omega;rw[same];exact g0;obtain⟨rs,g0,hq⟩:=abM (dO (mF X1 Y1 X2 Y2 0 0 h0 h1 h2 P 0 s []) (fb 2 true).2.1) ⟨oD (B:=ND) jn (by kernel_rfl),by rw[Xf];intro p hp;cases hp⟩;have hq:=hq.1;rw[Xh]at hq;obtain⟨fr,rfl,Jz⟩:=Iu hq;refine⟨fr,72-fr.length,⟨by omega,by omega⟩,?_,?_⟩;show _=((SI.k 72).sub (un 13 0 1)).ae _;rw[SI.gI,dw];show _=72-(0+1*(72-(fr.length:Int)));omega;rw[same];exact g0
 obtain⟨fr,t,ht,hl,lf⟩:=lf;have hV:sr.Ok (sO 2 b) (mF X1 Y1 X2 Y2 0 0 h0 h1 h2 P t s fr):=NO (tI x1 y1 x2 y2 z0 z0 k0 k1 k2 (by omega) ht pS) hP.symm (by omega) hl;have Rq:cm (TT Tryz.prog) XF 18 (dO (mF X1 Y1 X2 Y2 0 0 h0 h1 h2 P t s fr) (SY 2 b 2)) (dO (mF X1 Y1 X2 Y2 0 0 h0 h1 h2 P t s fr) [.o 0,.b true]):=by
   cases b;exact dQ hV (tb:=[fb 2 false]) ⟨lf,trivial⟩ agP;exact dQ hV (tb:=[fb 2 true]) ⟨lf,trivial⟩ agR
 have:=Xl hV Rq (Db (.inr (.inl rfl)) (ok0 hV)) (by cases b;exact agT;exact agW);have e:dO (mF X1 Y1 X2 Y2 0 0 h0 h1 h2 P t s fr) (wY 2 b)=[.l [[X1,Y1],[X2,Y2]],.i h0,.i h1,.i h2,.b b]:=by
   have a1:dO (mF X1 Y1 X2 Y2 0 0 h0 h1 h2 P t s fr) (wY 2 b)=[.l [[(un 0 0 1).ae (k6 X1 Y1 X2 Y2 0 0 h0 h1 h2 P t s),(un 1 0 1).ae (k6 X1 Y1 X2 Y2 0 0 h0 h1 h2 P t s)],[(un 2 0 1).ae (k6 X1 Y1 X2 Y2 0 0 h0 h1 h2 P t s),(un 3 0 1).ae (k6 X1 Y1 X2 Y2 0 0 h0 h1 h2 P t s)]],(jb 6 64).ae (mF X1 Y1 X2 Y2 0 0 h0 h1 h2 P t s fr),(jb 8 64).ae (mF X1 Y1 X2 Y2 0 0 h0 h1 h2 P t s fr),(jb 10 3).ae (mF X1 Y1 X2 Y2 0 0 h0 h1 h2 P t s fr),.b b]:=rfl;rw[a1,iW,iW,iW,dw,dw,dw,dw];show [DV.l [[0+1*X1,0+1*Y1],[0+1*X2,0+1*Y2]],DV.i (64*(h0/64)+h0%64),DV.i (64*(h1/64)+h1%64),DV.i (3*(h2/3)+h2%3),DV.b b]=_;rw[show 0+1*X1=X1 by omega,show 0+1*Y1=Y1 by omega,show 0+1*X2=X2 by omega,show 0+1*Y2=Y2 by omega,show 64*(h0/64)+h0%64=h0 by omega,show 64*(h1/64)+h1%64=h1 by omega,show 3*(h2/3)+h2%3=h2 by omega]
 rwa[e]at this
theorem ab2{h0:Int}{h1:Int}{h2:Int}(k0:0<=h0/\h0<=255)(k1:0<=h1/\h1<=255)(k2:0<=h2/\h2<=255){b:Bool}{X1 Y1 X2 Y2 X3 Y3:Int}(x1: -1048576<=X1/\X1<=1048576)(y1: -1048576<=Y1/\Y1<=1048576)(x2: -1048576<=X2/\X2<=1048576)(y2: -1048576<=Y2/\Y2<=1048576)(x3: -1048576<=X3/\X3<=1048576)(y3: -1048576<=Y3/\Y3<=1048576) :
   cm (TT Tryz.prog) XF 8 [.l [[X1,Y1],[X2,Y2],[X3,Y3]],.i h0,.i h1,.i h2,.b b] [.b true]:=by
 have pP:=NP k1;have pS:=NQ k0;obtain⟨P,hP⟩:∃P,P=(3+h1%64)*(3+h1%64):=⟨_,rfl⟩;obtain⟨s,hs⟩:∃s,s=(72+4*(h0%64))*(3+h0%64)-216-9*(h0%64):=⟨_,rfl⟩;rw[<- hP]at pP;rw[<- hs]at pS;have jn:=tI x1 y1 x2 y2 x3 y3 k0 k1 k2 (P:=P) (t:=0) (s:=s) (by omega) (by omega) pS;obtain⟨rs,g0,hq⟩:=abL (dO (mF X1 Y1 X2 Y2 X3 Y3 h0 h1 h2 P 0 s []) (fb 3 b).2.1) ⟨oD (B:=ND) jn (by cases b<;>kernel_rfl),by rw[Xe];intro p hp;cases hp⟩;have hq:=hq.1;rw[Xg]at hq;obtain⟨fr,rfl,Jz⟩:=Iu hq;obtain⟨t,ht⟩:∃t,t=72-(fr.length:Int):=⟨_,rfl⟩;have hb:=tI x1 y1 x2 y2 x3 y3 k0 k1 k2 (P:=P) (t:=t) (s:=s) (by omega) (by omega) pS;have hV:sr.Ok (sO 3 b) (mF X1 Y1 X2 Y2 X3 Y3 h0 h1 h2 P t s fr):=NO hb hP.symm (by omega) (by
   show _=((SI.k 72).sub (un 13 0 1)).ae _;rw[SI.gI,dw];show _=72-(0+1*t);omega)
 have lf:cm (TT Tryz.prog) XF (fb 3 b).1 (dO (mF X1 Y1 X2 Y2 X3 Y3 h0 h1 h2 P t s fr) (fb 3 b).2.1) (dO (mF X1 Y1 X2 Y2 X3 Y3 h0 h1 h2 P t s fr) (fb 3 b).2.2):=by
   have:dO (mF X1 Y1 X2 Y2 X3 Y3 h0 h1 h2 P t s fr) (fb 3 b).2.1=dO (mF X1 Y1 X2 Y2 X3 Y3 h0 h1 h2 P 0 s []) (fb 3 b).2.1:=by
     cases b<;>(simp only[fb,zx,zy,dO,pt,jt,mJ,od,nU,kG,YV.ae,dw]<;>rfl)
   rw[this];cases b<;>exact g0
 obtain⟨c,hc⟩:∃c,cm (TT Tryz.prog) XF 121 (dO (mF X1 Y1 X2 Y2 X3 Y3 h0 h1 h2 P t s fr) (tH true).2.1) [.b c]:=by
   obtain⟨rs,g,hq⟩:=uP 121 (by decide) (dO (mF X1 Y1 X2 Y2 X3 Y3 h0 h1 h2 P t s fr) (tH true).2.1) ⟨oD (B:=ND) hb (by kernel_rfl),by rw[show(kc 121).pre=[]by kernel_rfl];intro p hp;cases hp⟩;have hq:=hq.1;rw[show(kc 121).res=[.b]by kernel_rfl]at hq
   match rs,hq with
   | [.b c],_=>exact⟨c,g⟩
 have Rq:cm (TT Tryz.prog) XF 18 (dO (mF X1 Y1 X2 Y2 X3 Y3 h0 h1 h2 P t s fr) (SY 3 b 3)) (dO (mF X1 Y1 X2 Y2 X3 Y3 h0 h1 h2 P t s fr) [.o 0,.b true]):=by
   cases b<;>cases c;exact dQ hV (tb:=[fb 3 false,tH false]) ⟨lf,hc,trivial⟩ abQ;exact dQ hV (tb:=[fb 3 false,tH true]) ⟨lf,hc,trivial⟩ abP;exact dQ hV (tb:=[fb 3 true,tH false]) ⟨lf,hc,trivial⟩ abS;exact dQ hV (tb:=[fb 3 true,tH true]) ⟨lf,hc,trivial⟩ abR
 have:=Xl hV Rq (Db (.inr (.inr rfl)) (ok0 hV)) (by cases b;exact agU;exact agX);have e:dO (mF X1 Y1 X2 Y2 X3 Y3 h0 h1 h2 P t s fr) (wY 3 b)=[.l [[X1,Y1],[X2,Y2],[X3,Y3]],.i h0,.i h1,.i h2,.b b]:=by
   have a1:dO (mF X1 Y1 X2 Y2 X3 Y3 h0 h1 h2 P t s fr) (wY 3 b)=[.l [[(un 0 0 1).ae (k6 X1 Y1 X2 Y2 X3 Y3 h0 h1 h2 P t s),(un 1 0 1).ae (k6 X1 Y1 X2 Y2 X3 Y3 h0 h1 h2 P t s)],[(un 2 0 1).ae (k6 X1 Y1 X2 Y2 X3 Y3 h0 h1 h2 P t s),(un 3 0 1).ae (k6 X1 Y1 X2 Y2 X3 Y3 h0 h1 h2 P t s)],[(un 4 0 1).ae (k6 X1 Y1 X2 Y2 X3 Y3 h0 h1 h2 P t s),(un 5 0 1).ae (k6 X1 Y1 X2 Y2 X3 Y3 h0 h1 h2 P t s)]],(jb 6 64).ae (mF X1 Y1 X2 Y2 X3 Y3 h0 h1 h2 P t s fr),(jb 8 64).ae (mF X1 Y1 X2 Y2 X3 Y3 h0 h1 h2 P t s fr),(jb 10 3).ae (mF X1 Y1 X2 Y2 X3 Y3 h0 h1 h2 P t s fr),.b b]:=rfl;rw[a1,iW,iW,iW,dw,dw,dw,dw,dw,dw];show [DV.l [[0+1*X1,0+1*Y1],[0+1*X2,0+1*Y2],[0+1*X3,0+1*Y3]],DV.i (64*(h0/64)+h0%64),DV.i (64*(h1/64)+h1%64),DV.i (3*(h2/3)+h2%3),DV.b b]=_;rw[show 0+1*X1=X1 by omega,show 0+1*Y1=Y1 by omega,show 0+1*X2=X2 by omega,show 0+1*Y2=Y2 by omega,show 0+1*X3=X3 by omega,show 0+1*Y3=Y3 by omega,show 64*(h0/64)+h0%64=h0 by omega,show 64*(h1/64)+h1%64=h1 by omega,show 3*(h2/3)+h2%3=h2 by omega]
 rwa[e]at this
theorem NR{h0:Int}{h1:Int}{h2:Int}(k0:0<=h0/\h0<=255)(k1:0<=h1/\h1<=255)(k2:0<=h2/\h2<=255){b:Bool}{l:List (List Int)}(h:cm (TT Tryz.prog) XF 9 [.l l,.i 3] [.b false]\/l=[]):cm (TT Tryz.prog) XF 8 [.l l,.i h0,.i h1,.i h2,.b b] [.b true]:=by
 have z0:(-1048576:Int)<=0/\(0:Int)<=1048576:=by omega
 have hV:sr.Ok dc (mF 0 0 0 0 0 0 h0 h1 h2 0 0 0 l):=⟨⟨tI z0 z0 z0 z0 z0 z0 k0 k1 k2 (by omega) (by omega) (by omega),fun x hx=>by cases hx⟩,fun j m hj=>by cases hj⟩;have e:∀d:YV,dO (mF 0 0 0 0 0 0 h0 h1 h2 0 0 0 l) [d,jb 6 64,jb 8 64,jb 10 3,.b b]=[d.ae (mF 0 0 0 0 0 0 h0 h1 h2 0 0 0 l),.i h0,.i h1,.i h2,.b b]:=fun d=>by
   show [_,(jb 6 64).ae _,(jb 8 64).ae _,(jb 10 3).ae _,DV.b b]=_;rw[iW,iW,iW];show [_,DV.i (64*(h0/64)+h0%64),DV.i (64*(h1/64)+h1%64),DV.i (3*(h2/3)+h2%3),DV.b b]=_;rw[show 64*(h0/64)+h0%64=h0 by omega,show 64*(h1/64)+h1%64=h1 by omega,show 3*(h2/3)+h2%3=h2 by omega]
 rcases h with h|rfl;have:=dQ hV (tb:=[(9,[.o 0,.i (.k 3)],[.b false]),vT]) (Y:=XF) ⟨h,Aw.zq,trivial⟩ (show ir (TT Tryz.prog) dc _ 2000 60 8 [.o 0,jb 6 64,jb 8 64,jb 10 3,.b b] [.b true]=true by cases b;exact agY;exact agZ);rw[e]at this;exact this;have:=dQ hV (tb:=[vT]) (Y:=XF) ⟨Aw.zq,trivial⟩ (show ir (TT Tryz.prog) dc _ 2000 60 8 [.l [],jb 6 64,jb 8 64,jb 10 3,.b b] [.b true]=true by cases b;exact ag0;exact ag1);rw[e]at this;exact this
end
theorem lw9:ir (TT Tryz.prog) ⟨[(4,9223372036854775807)],[],[.s 0 [1]]⟩ [] 2000 20 9 [.o 0,.i (.k 3)] [.b false]=true:=by kernel_rfl
theorem ag2{l:List (List Int)}(h:3<(l.length:Int))(h':(l.length:Int)<=9223372036854775807):cm (TT Tryz.prog) XF 9 [.l l,.i 3] [.b false]:=
 dQ (X:=⟨[(4,9223372036854775807)],[],[.s 0 [1]]⟩) (V:=⟨[(l.length:Int)],fun _=>l⟩) (tb:=[]) (Y:=XF) ⟨⟨⟨⟨by omega,h'⟩,trivial⟩,fun x hx=>by cases hx⟩,fun j m hj=>by
   match j,hj with
   |0,hj=>cases hj;show(l.length:Int)=0+(1*(l.length:Int)+0);omega
   |j+1,hj=>cases hj⟩ trivial lw9
theorem Kz{r:List Int}(h:r.length=2):r=[r.getD 0 0,r.getD 1 0]:=by
 match r,h with
 | [a,b],_=>rfl
abbrev cI9:A:=.i (-9223372036854775808) 9223372036854775807
theorem g8:qn (TT Tryz.prog) XF 8 abZ (fun _ rs=>rs=[.b true]):=by
 rintro ds ⟨l,h0,h1,h2,b,rfl,Zw,hl,k0,k1,k2⟩;refine⟨[.b true],?_,rfl⟩;by_cases h3:3<(l.length:Int);exact NR k0 k1 k2 (.inl (ag2 h3 Zw));obtain⟨rs,g9,_⟩:=uP 9 (by decide) [.l l,.i 3] ⟨by
   rw[show(kc 9).args=[.l 0 (some 1099511627776) [cI,cI],cI9]by kernel_rfl];exact⟨⟨by omega,fun y hy=>by cases hy;omega,fun r hr=>⟨(hl r hr).2 0,(hl r hr).2 1,trivial⟩⟩,⟨by decide,by decide⟩,trivial⟩,by rw[show(kc 9).pre=[]by kernel_rfl];intro p hp;cases hp⟩
 rcases Xj g9 with rfl|⟨rfl,hn,dy⟩;exact NR k0 k1 k2 (.inl g9);rcases l with _|⟨p,_|⟨q,_|⟨r,_|⟨_,_⟩⟩⟩⟩;exact NR k0 k1 k2 (.inr rfl);have n1:=dy p (by simp);rw[Kz (hl p (by simp)).1];exact ab0 k0 k1 k2 n1.1 n1.2;have n1:=dy p (by simp);have n2:=dy q (by simp);rw[Kz (hl p (by simp)).1,Kz (hl q (by simp)).1];exact ab1 k0 k1 k2 n1.1 n1.2 n2.1 n2.2;have n1:=dy p (by simp);have n2:=dy q (by simp);have n3:=dy r (by simp);rw[Kz (hl p (by simp)).1,Kz (hl q (by simp)).1,Kz (hl r (by simp)).1];exact ab2 k0 k1 k2 n1.1 n1.2 n2.1 n2.2 n3.1 n3.2;simp at hn;omega
end
section
open Go.Sx Go
theorem T8:TT Tryz.prog 8=some ⟨8,gC Tryz.prog (rowOf 8),(rowOf 8).sub⟩:=by kernel_rfl
theorem u8_in{d:DV}(h:Wa (.c (.i .u8)) d):∃n,d = .i n/\0<=n/\n<=255:=by
 cases d with
 |i n=>exact⟨n,rfl,h.1,h.2⟩
 |_=>exact h.elim
theorem S1{DI:List DV}(h:EE [.s 23 [i6,i6],.c (.i .u8),.c (.i .u8),.c (.i .u8),.c .b] DI):abZ DI:=by
 match DI,h with
 | [d,d0,d1,d2,d3],h=>
   obtain⟨hd,h0,h1,h2,h3,_⟩:=h;obtain⟨n0,rfl,a0⟩:=u8_in h0;obtain⟨n1,rfl,a1⟩:=u8_in h1;obtain⟨n2,rfl,a2⟩:=u8_in h2;cases d with
   | l l=>
     cases d3 with
     | b b=>
       refine⟨l,n0,n1,n2,b,rfl,?_,fun r hr=>?_,a0,a1,a2⟩;have:=hd.1;unfold maxLen at this;omega;have:=hd.2 r hr
       match r,this with
       | [x,y],⟨hx,hy,_⟩=>
         have hx: -9223372036854775808<=x/\x<=9223372036854775807:=hx;have hy: -9223372036854775808<=y/\y<=9223372036854775807:=hy;refine⟨rfl,fun j=>?_⟩
         match j with
         |0=>exact hx
         |1=>exact hy
         | j+2=>
           have e: [x,y].getD (j+2) 0=0:=rfl;rw[e];omega
     |_=>exact h3.elim
   |_=>exact hd.elim
end
end Go.Proofs.YtohebioanhliiaaGreatDoor.aw

/- WholeFan: its function gives true. -/
import Derived.Test.YtohebioanhliiaaGreatDoorGN3
import Derived.Test.YtohebioanhliiaaGreatDoorGY1
import Derived.Test.YtohebioanhliiaaGreatDoorGY2
import Derived.Test.YtohebioanhliiaaGreatDoorGZ2
set_option maxRecDepth 100000
set_option linter.unusedVariables false
set_option linter.unusedSimpArgs false
namespace Go.Proofs.YtohebioanhliiaaGreatDoor.av
section
open Go.Sx Go
variable{V W:xg}{l:List YV}
theorem GY(h:xg.Ok cxD V){x:oM}(e:Ky PP x=true):Gf x.1 (ez V x.2.1) (ez V x.2.2):=fV h (tb:=[]) (Y:=XF) trivial e
theorem aeW{b:Bool}(hV:xg.Ok cxD V)(Fz:Gf 24 (ez V (aby b).2.1) (ez V uD)):Gf 12 (ez V [.l (Gs++DI b)]) (ez V uD):=by
 cases b;exact fV hV (tb:=abz false) (Y:=XF) ⟨GY hV aeI,GY hV aeJ,GY hV aeK,GY hV aeL,GY hV aju,GY hV ajw,GY hV ajx,GY hV ajy,Fz,trivial⟩ ruF;exact fV hV (tb:=abz true) (Y:=XF) ⟨GY hV aeI,GY hV aeJ,GY hV aeK,GY hV aeL,GY hV ajv,GY hV ajz,GY hV ajA,GY hV ajB,GY hV ajC,GY hV ajD,Fz,trivial⟩ ruT
def noL:YV->Bool
 |.o _=>false
 |_=>true
theorem Mo(hs:V.σ=W.σ)(h:l.all noL=true):ez V l=ez W l:=by
 refine xh fun d hd=>?_;have hd:=kG.1 h d hd;cases d with
 |i a=>show DV.i (a.af V.σ)=DV.i (a.af W.σ);rw[hs]
 |b x=>rfl
 |l xs=>show DV.l (dQ V.σ xs)=DV.l (dQ W.σ xs);rw[hs]
 |o k=>cases hd
def abC:SI->Bool
 |.k _=>true
 |.s _ _=>false
theorem Iy{σ σ':List Int}{a:SI}(h:abC a=true):a.af σ=a.af σ':=by
 cases a with
 |k n=>rfl
 |s c cs=>cases h
def aeX:YV->Bool
 |.i a=>abC a
 |.b _=>true
 |.l xs=>xs.all fun r=>r.all abC
 |.o k=>Nat.beq k 0
theorem Xv(ht:V.τ 0=W.τ 0)(h:l.all aeX=true):ez V l=ez W l:=by
 refine xh fun d hd=>?_;have hd:=kG.1 h d hd;cases d with
 |i a=>exact congrArg DV.i (Iy hd)
 |b x=>rfl
 |l xs=>exact congrArg DV.l (xh fun r hr=>xh fun a ha=>Iy (kG.1 (kG.1 hd r hr) a ha))
 | o k=>
   have hk:k=0:=mq hd;subst hk;exact congrArg DV.l ht
theorem aeY:uD=[YV.i (.k 0),.i (.k 9),.i (.k 8),.o 0,.l (List.replicate 72 [.k 16777215])]++uD.drop 5:=by kernel_rfl
theorem ajI:uD.all aeX=true:=by kernel_rfl
theorem ajJ:(uD.drop 5).all noL=true:=by kernel_rfl
theorem ajK(b:Bool):(oZ b (nF b)++H8 18 []).all noL=true:=by
 cases b;kernel_rfl;kernel_rfl
def Gw(Zm:List (List Int)):List DV:=ez ⟨[],fun _=>Zm⟩ uD
theorem aeZ(b:Bool):(Gq b).length=nF b:=by cases b<;>rfl
theorem okD{t:Nat->List (List Int)}(hV:V.Ok Iw):xg.Ok cxD ⟨V.σ,t⟩:=⟨⟨hV.num.box,fun x hx=>by cases hx⟩,fun j m hj=>(by cases hj),fun x hx=>by cases hx⟩
section
variable {V:xg}{b:Bool}(hV:V.Ok Iw){out:List (List Int)}(ho:∀r∈out,DG r)(hc:∀p,(posOf out).count p<=1)(Gp:Gf 18 (ez V (oZ b (nF b))) [.l out,.b true])
theorem ae0{V:xg}{b:Bool}(hV:V.Ok Iw){out:List (List Int)}(ho:∀r∈out,DG r)(hc:∀p,(posOf out).count p<=1)(Gp:Gf 18 (ez V (oZ b (nF b))) [.l out,.b true]):Gf 24 (ez ⟨V.σ,fun _=>gM out out.length⟩ (aby b).2.1) (ez ⟨V.σ,fun _=>gM out out.length⟩ uD):=by
 have h:=aeS hV ho hc Gp;have e1:ez V (oZ b (nF b)++H8 18 [])=ez ⟨V.σ,fun _=>gM out out.length⟩ (oZ b (nF b)++H8 18 []):=Mo rfl (ajK b);have e2:ez V (uD.drop 5)=ez ⟨V.σ,fun _=>gM out out.length⟩ (uD.drop 5):=Mo rfl ajJ;have e3:ez ⟨V.σ,fun _=>gM out out.length⟩ uD=[DV.i 0,.i 9,.i 8,.l (gM out out.length),.l (fP 72 16777215)]++ez ⟨V.σ,fun _=>gM out out.length⟩ (uD.drop 5):=(congrArg (ez ⟨V.σ,fun _=>gM out out.length⟩) aeY).trans (n8 ..);rw[e1,e2]at h;rw[e3];show Gf 24 (ez _ (oZ b (Gq b).length++H8 18 [])) _;rw[aeZ];exact h
theorem Mp{V:xg}{b:Bool}(hV:V.Ok Iw){out:List (List Int)}(ho:∀r∈out,DG r)(hc:∀p,(posOf out).count p<=1)(Gp:Gf 18 (ez V (oZ b (nF b))) [.l out,.b true]):Gf 12 [.l (dQ V.σ (Gs++DI b))] (Gw (gM out out.length)):=by
 have h:=aeW (okD (t:=fun _=>gM out out.length) hV) (ae0 hV ho hc Gp);rw[Xv (V:=⟨V.σ,fun _=>gM out out.length⟩) (W:=⟨[],fun _=>gM out out.length⟩) rfl ajI]at h;exact h
end
def qp:List (List Int):=[[1,2,9,8],[5,4,-128,-128,256,256],[27,3,1,1,1],[14,4,1,1,1,1]]
def I7(b:Bool)(x1 y1 x2 y2 x3 y3 x4 y4:Int):List (List Int):=match b with
 |true=>[[x4,y4],[x1,y1],[x2,y2],[x3,y3],[x1,y1]]
 |false=>[[x1,y1],[x2,y2],[x3,y3]]
def Gx(b:Bool)(x1 y1 x2 y2 x3 y3 x4 y4:Int):List (List Int):=match b with
 |true=>[[16,1,6],[17,4,x4,y4,0,32768],[17,4,x1,y1,0,32768],[17,4,x2,y2,0,32768],[17,4,x3,y3,0,32768],[17,4,x1,y1,0,32768],[18,0]]
 |false=>[[16,1,4],[17,4,x1,y1,0,32768],[17,4,x2,y2,0,32768],[17,4,x3,y3,0,32768],[18,0]]
section
variable {x1 y1 x2 y2 x3 y3 x4 y4:Int}{τ:Nat->List (List Int)}{b:Bool}
theorem Si{σ:List Int}:dQ σ Gs=qp:=rfl
theorem abD:dQ (uF (EC x1 y1 x2 y2 x3 y3 x4 y4) τ) (abA b)=I7 b x1 y1 x2 y2 x3 y3 x4 y4:=by
 cases b;show [[(un 0 0 1).af _,(un 1 0 1).af _],[(un 2 0 1).af _,(un 3 0 1).af _],[(un 4 0 1).af _,(un 5 0 1).af _]]=_;rw[bI,bI,bI,bI,bI,bI];rfl;show [[(un 6 0 1).af _,(un 7 0 1).af _],[(un 0 0 1).af _,(un 1 0 1).af _],[(un 2 0 1).af _,(un 3 0 1).af _],[(un 4 0 1).af _,(un 5 0 1).af _],[(un 0 0 1).af _,(un 1 0 1).af _]]=_;rw[bI,bI,bI,bI,bI,bI,bI,bI];rfl
theorem KD:dQ (uF (EC x1 y1 x2 y2 x3 y3 x4 y4) τ) (DI b)=Gx b x1 y1 x2 y2 x3 y3 x4 y4:=by
 cases b;show [[16,1,4],[17,4,(un 0 0 1).af _,(un 1 0 1).af _,0,32768],[17,4,(un 2 0 1).af _,(un 3 0 1).af _,0,32768],[17,4,(un 4 0 1).af _,(un 5 0 1).af _,0,32768],[18,0]]=_;rw[bI,bI,bI,bI,bI,bI];rfl;show [[16,1,6],[17,4,(un 6 0 1).af _,(un 7 0 1).af _,0,32768],[17,4,(un 0 0 1).af _,(un 1 0 1).af _,0,32768],[17,4,(un 2 0 1).af _,(un 3 0 1).af _,0,32768],[17,4,(un 4 0 1).af _,(un 5 0 1).af _,0,32768],[17,4,(un 0 0 1).af _,(un 1 0 1).af _,0,32768],[18,0]]=_;rw[bI,bI,bI,bI,bI,bI,bI,bI];rfl
variable (a1:iy x1)(b1:iy y1)(a2:iy x2)(b2:iy y2)(a3:iy x3)(b3:iy y3)(a4:iy x4)(b4:iy y4)
theorem okN{x1:Int}{y1:Int}{x2:Int}{y2:Int}{x3:Int}{y3:Int}{x4:Int}{y4:Int}(a1:iy x1)(b1:iy y1)(a2:iy x2)(b2:iy y2)(a3:iy x3)(b3:iy y3)(a4:iy x4)(b4:iy y4):xg.Ok Iw (vz (EC x1 y1 x2 y2 x3 y3 x4 y4) fun _=>[]):=okE a1 b1 a2 b2 a3 b3 a4 b4 (fun j _=>Nat.zero_le _) rfl rfl
theorem ae1{x1:Int}{y1:Int}{x2:Int}{y2:Int}{x3:Int}{y3:Int}{x4:Int}{y4:Int}(a1:iy x1)(b1:iy y1)(a2:iy x2)(b2:iy y2)(a3:iy x3)(b3:iy y3)(a4:iy x4)(b4:iy y4):Gf 13 [.i 9,.i 8] [.l qp]:=fV (okD (t:=fun _=>[]) (okN a1 b1 a2 b2 a3 b3 a4 b4)) (tb:=[]) (Y:=XF) trivial plT
theorem ae2{x1:Int}{y1:Int}{x2:Int}{y2:Int}{x3:Int}{y3:Int}{x4:Int}{y4:Int}{b:Bool}(a1:iy x1)(b1:iy y1)(a2:iy x2)(b2:iy y2)(a3:iy x3)(b3:iy y3)(a4:iy x4)(b4:iy y4):Gf 14 [.i (OM b),.l (I7 b x1 y1 x2 y2 x3 y3 x4 y4)] [.l (Gx b x1 y1 x2 y2 x3 y3 x4 y4)]:=by
 have hV:=okD (t:=fun _=>[]) (okN a1 b1 a2 b2 a3 b3 a4 b4);have h:Gf 14 [.i (OM b),.l (dQ (uF (EC x1 y1 x2 y2 x3 y3 x4 y4) fun _=>[]) (abA b))] [.l (dQ (uF (EC x1 y1 x2 y2 x3 y3 x4 y4) fun _=>[]) (DI b))]:=by
   cases b;exact fV hV (tb:=[]) (Y:=XF) trivial shF;exact fV hV (tb:=[]) (Y:=XF) trivial shT
 rw[abD,KD]at h;exact h
theorem ae3{x1:Int}{y1:Int}{x2:Int}{y2:Int}{x3:Int}{y3:Int}{x4:Int}{y4:Int}(a1:iy x1)(b1:iy y1)(a2:iy x2)(b2:iy y2)(a3:iy x3)(b3:iy y3)(a4:iy x4)(b4:iy y4)(h:(0<=Ar x1 y1 x2 y2 x4 y4/\0<=Ar x2 y2 x3 y3 x4 y4/\0<=Ar x3 y3 x1 y1 x4 y4)\/(Ar x1 y1 x2 y2 x4 y4<=0/\Ar x2 y2 x3 y3 x4 y4<=0/\Ar x3 y3 x1 y1 x4 y4<=0)) :
   ∃U:Nat->Int,(∀k,k<72->U k=0\/U k=1)/\∀b,Gf 12 [.l (qp++Gx b x1 y1 x2 y2 x3 y3 x4 y4)] (Gw (qo U 72)):=by
 obtain⟨o0,g0,h0,l0,c0⟩:=AR a1 b1 a2 b2 a3 b3;obtain⟨o1,g1,h1,l1,c1⟩:=AR a4 b4 a1 b1 a2 b2;obtain⟨o2,g2,h2,l2,c2⟩:=AR a4 b4 a2 b2 a3 b3;obtain⟨o3,g3,h3,l3,c3⟩:=AR a4 b4 a3 b3 a1 b1;have Is:=Xt (Gu a1 b1) (Gu a2 b2) (Gu a3 b3) (Gu a4 b4) h c0 c1 c2 c3;have tU:∀p,(posOf o0).count p<=1:=fun p=>by
   obtain⟨x,y⟩:=p;rcases c0 x y with h|h<;>omega
 have hc4:∀p,(posOf (o1++o2++o3)).count p<=1:=fun p=>by rw[Is];exact tU p
 have h12:∀r∈o1++o2,DG r:=fun r hr=>by
   rcases mi.1 hr with hr|hr;exact h1 r hr;exact h2 r hr
 have h4:∀r∈o1++o2++o3,DG r:=fun r hr=>by
   rcases mi.1 hr with hr|hr;exact h12 r hr;exact h3 r hr
 have l4:=Sa h4 hc4;have l12:(o1++o2).length<=72:=by rw[ff]at l4;omega
 obtain⟨U,hU,hi⟩:=Xu tU;refine⟨U,hU,fun b=>?_⟩;cases b;obtain⟨τ,Pu⟩:∃τ:Nat->List (List Int),τ=fun j=>match j with
   |0=>o0
   |1=>o0
   |4=>o0
   |_=>[]:=⟨_,rfl⟩
 have hV:=okE (τ:=τ) a1 b1 a2 b2 a3 b3 a4 b4 (fun j hj=>by
   subst Pu
   match j,hj with
   |0,_=>exact l0
   |1,_=>exact l0
   |2,_=>exact Nat.zero_le _
   |3,_=>exact Nat.zero_le _
   |4,_=>exact l0) (by subst Pu;exact qH _) (by subst Pu;exact qH _)
 have t0:τ 0=o0:=by subst Pu;rfl
 have Gp:=aeT hV (by rw[uG];show Gf 74 _ [.l (τ 0)];rw[t0];exact g0);have Gp:Gf 18 (ez (vz (EC x1 y1 x2 y2 x3 y3 x4 y4) τ) (oZ false 3)) [.l o0,.b true]:=by rw[<- t0];exact Gp
 have hs:=Mp (b:=false) hV h0 tU Gp;rw[show dQ (vz (EC x1 y1 x2 y2 x3 y3 x4 y4) τ).σ (Gs++DI false)=dQ (vz (EC x1 y1 x2 y2 x3 y3 x4 y4) τ).σ Gs++dQ (vz (EC x1 y1 x2 y2 x3 y3 x4 y4) τ).σ (DI false)from n8 ..,Si,KD,hi]at hs;exact hs;obtain⟨τ,Pu⟩:∃τ:Nat->List (List Int),τ=fun j=>match j with
   |0=>o1++o2
   |1=>o1
   |2=>o2
   |3=>o3
   |4=>o1++o2++o3
   |_=>[]:=⟨_,rfl⟩
 have hV:=okE (τ:=τ) a1 b1 a2 b2 a3 b3 a4 b4 (fun j hj=>by
   subst Pu
   match j,hj with
   |0,_=>exact l12
   |1,_=>exact l1
   |2,_=>exact l2
   |3,_=>exact l3
   |4,_=>exact l4) (by subst Pu;rfl) (by subst Pu;rfl)
 have t1:τ 1=o1:=by subst Pu;rfl
 have t2:τ 2=o2:=by subst Pu;rfl
 have t3:τ 3=o3:=by subst Pu;rfl
 have t4:τ 4=o1++o2++o3:=by subst Pu;rfl
 have Gp:=aeU hV (by rw[uG];show Gf 74 _ [.l (τ 1)];rw[t1];exact g1) (by rw[uG];show Gf 74 _ [.l (τ 2)];rw[t2];exact g2) (by rw[uG];show Gf 74 _ [.l (τ 3)];rw[t3];exact g3);have Gp:Gf 18 (ez (vz (EC x1 y1 x2 y2 x3 y3 x4 y4) τ) (oZ true 5)) [.l (o1++o2++o3),.b true]:=by rw[<- t4];exact Gp
 have hs:=Mp (b:=true) hV h4 hc4 Gp;rw[show dQ (vz (EC x1 y1 x2 y2 x3 y3 x4 y4) τ).σ (Gs++DI true)=dQ (vz (EC x1 y1 x2 y2 x3 y3 x4 y4) τ).σ Gs++dQ (vz (EC x1 y1 x2 y2 x3 y3 x4 y4) τ).σ (DI true)from n8 ..,Si,KD,Sh Is,hi]at hs;exact hs
end
end
section
open Go.Sx Go
def t9:au:=
.ite (.lt (.v 1) (.len 0)) (
.ret [.b (.c false)]) (
.loop 9004 [.b (.c false),.i (.c 0)] [.c (.b),.c i6] 2 (
.ite (.lt (.v 3) (.len 0)) (
.ev (.aL (.le (.c 0) (.v 3))) (
.ite (.or (.or (.or (.lt (.get 0 (.v 3) 0) (.c (-1048576))) (.lt (.c 1048576) (.get 0 (.v 3) 0))) (.lt (.get 0 (.v 3) 1) (.c (-1048576)))) (.lt (.c 1048576) (.get 0 (.v 3) 1))) (
.ret [.b (.c false)]) (
.ev (.aL (r6 (.add (.v 3) (.c 1)))) (
.again 9004 [.b (.v 2),.i (.add (.v 3) (.c 1))])))) (
.ret [.b (.c true)])))
theorem T9:TT PP 9=some ⟨9,t9,(rowOf 9).sub⟩:=by kernel_rfl
def Sj(r:List Int):Prop:=(-1048576<=r.getD 0 0/\r.getD 0 0<=1048576)/\-1048576<=r.getD 1 0/\r.getD 1 0<=1048576
theorem abE{l:List (List Int)}{n:Int}{rs:List DV}(hg:Gf 9 [.l l,.i n] rs):rs=[.b false]\/rs=[.b true]/\(l.length:Int)<=n/\∀r∈l,Sj r:=by
 refine bV (R:=fun rs=>rs=[DV.b false]\/rs=[DV.b true]/\(l.length:Int)<=n/\∀r∈l,Sj r) T9 ?_ hg;obtain⟨e,he⟩:∃e,e=bj.aB 0 [DV.l l,.i n]:=⟨_,rfl⟩;have w0:e 0 = .l l:=by rw[he];rfl
 have w1:e 1 = .i n:=by rw[he];rfl
 rw[<- he];refine gb (fun _=>c8 (.inl rfl)) (fun hn=>?_);have hn:((e 0).list.length:Int)<=(e 1).int:=hn;rw[w0,w1]at hn;refine ll (fun vs=>∃(b:Bool) (i:Nat),vs=[.b b,.i i]/\∀k,k<i->k<l.length->Sj (l.getD k [])) ⟨false,0,rfl,fun k hk=>by omega⟩ ?_;rintro _ ⟨b,i,rfl,hi⟩;obtain⟨e1,xf,o1,v1⟩:=oY e 2 [.b b,.i i];have x3:e1 3 = .i i:=v1 1 (by simp);have y0:e1 0 = .l l:=by rw[o1 _ (by omega),w0]
 rw[<- xf];refine gb (fun cu=>bh fun _=>?_) (fun ng=>c8 (.inr ⟨rfl,hn,fun r hr=>?_⟩));refine lk (fun _=>c8 (.inl rfl)) (fun hc=>bh fun _=>vb ⟨b,i+1,?_,fun k hk GX=>?_⟩);show [DV.b (e1 2).bool,DV.i ((e1 3).int+1)]=_;rw[x3,show e1 2 = .b b from v1 0 (by simp)];rfl;by_cases h:k<i;exact hi k h GX;obtain rfl:k=i:=by omega
 simp only[BE.af,IE.af,cellAt,x3,y0,di,dl,G0,Le,xm]at hc;obtain⟨⟨⟨h1,h2⟩,h3⟩,h4⟩:=hc;exact⟨⟨by omega,by omega⟩,by omega,by omega⟩;have ng:((e1 0).list.length:Int)<=(e1 3).int:=ng;rw[x3,y0]at ng;have ng:(l.length:Int)<=(i:Int):=ng;obtain⟨k,hk⟩:=List.mem_iff_getElem?.1 hr;have GX:k<l.length:=(dh.1 hk).1;have:=hi k (by omega) GX;rwa[cT,hk]at this
end
section
open Go.Sx Go
variable{Zm:List (List Int)}
def dqX:IE:=.tdiv (.add (.add (.v 0) (.v 2)) (.v 4)) (.c 3)
def dqY:IE:=.tdiv (.add (.add (.v 1) (.v 3)) (.v 5)) (.c 3)
def z5:List DE:=List.replicate 5 (.i (.c 0))
def a11(a b c d:Nat):List DE:=[.i (.v a),.i (.v b)]++z5++[.i (.v c),.i (.v d)]++z5++[.i dqX,.i dqY]++z5
def p3L:dw:=.lit [[.inl (.v 0),.inl (.v 1)],[.inl (.v 2),.inl (.v 3)],[.inl (.v 4),.inl (.v 5)]]
def p5L:dw:=.lit [[.inl dqX,.inl dqY],[.inl (.v 0),.inl (.v 1)],[.inl (.v 2),.inl (.v 3)],[.inl (.v 4),.inl (.v 5)],[.inl (.v 0),.inl (.v 1)]]
def aw3(k:Nat):au:=.ev (.call 10 (.c true) [] [oB] k) (.ret [.b (.v k)])
def rR3:List VT:=[.one (.n 85 [.c i6,.s 3 i6])]
def ok3:BE:=.and (.and (.and (.v 19475) (.eq (.v 13838) (.c 0))) (.eq (.v 18959) (.c 0))) (.eq (.len 19472) (.c 72))
def t3:au:=
.ev (.cH 9 p3L) (
.ev (.call 9 (.c true) [.l 9,.i (.c 3)] [oB] 10) (
.ite (.not (.v 10)) (aw3 11) (
.ev (.aL (r6 (.add (.v 0) (.v 2)))) (
.ev (.aL (r6 (.add (.add (.v 0) (.v 2)) (.v 4)))) (
.ev (.aL (r6 dqX)) (
.ev (.aL (r6 (.add (.v 1) (.v 3)))) (
.ev (.aL (r6 (.add (.add (.v 1) (.v 3)) (.v 5)))) (
.ev (.aL (r6 dqY)) (
.ev (.call 11 (.c true) (a11 0 1 2 3) [oI] 3085) (
.ev (.call 11 (.c true) (a11 2 3 4 5) [oI] 6669) (
.ev (.call 11 (.c true) (a11 4 5 0 1) [oI] 10253) (
.ite (.not (.or (.and (.and (.le (.c 0) (.v 3085)) (.le (.c 0) (.v 6669))) (.le (.c 0) (.v 10253))) (.and (.and (.le (.v 3085) (.c 0)) (.le (.v 6669) (.c 0))) (.le (.v 10253) (.c 0))))) (aw3 10254) (
.ev (.cH 12302 p3L) (
.ev (.call 13 (.c true) [.i (.c 9),.i (.c 8)] rR3 10254) (
.ev (.call 14 (.c true) [.i (.c 4),.l 12302] rR3 12814) (
.ev (.aL (.le (.add (.len 10254) (.len 12814)) (.c 4398046511104))) (
.ev (.cH 13326 (.app 10254 12814)) (
.ev (.call 12 (.c true) [.l 13326] Sl.res 13838) (
.ev (.cH 17423 p5L) (
.ev (.call 13 (.c true) [.i (.c 9),.i (.c 8)] rR3 14351) (
.ev (.call 14 (.c true) [.i (.c 6),.l 17423] rR3 17935) (
.ev (.aL (.le (.add (.len 14351) (.len 17935)) (.c 4398046511104))) (
.ev (.cH 18447 (.app 14351 17935)) (
.ev (.call 12 (.c true) [.l 18447] Sl.res 18959) (
.ev (.call 15 (.c true) (uB 18959) [.one (.s 3 [i6])] 19472) (
.loop 3012 [.b (.c false),.i (.c 0)] [.c (.b),.c i6] 19473 (
.ite (.lt (.v 19474) (.len 19472)) (
.ev (.aL (.le (.c 0) (.v 19474))) (
.ite (.lt (.c 1) (.get 19472 (.v 19474) 0)) (
.ret [.b (.c false)]) (
.ev (.aL (r6 (.add (.v 19474) (.c 1)))) (
.again 3012 [.b (.v 19473),.i (.add (.v 19474) (.c 1))])))) (
.ev (.call 10 (.c true) [] [oB] 19475) (
.ev (.call 16 ok3 [.i (.v 13839),.i (.v 13840),.l 13841,.l 13842,.i (.v 18960),.i (.v 18961),.l 18962,.l 18963] [oB] 19476) (
.ret [.b (.and ok3 (.v 19476))]))))))))))))))))))))))))))))))
theorem T3:TT PP 3=some ⟨3,t3,(rowOf 3).sub⟩:=by kernel_rfl
theorem ajL:([9,10,11,12,13,14,15,16].all fun g=>Nat.beq ((⟨3,.stuck "",(rowOf 3).sub⟩:ir).key g) g)=true:=by kernel_rfl
theorem k3{g:Nat}{ds rs:List DV}(hg:g∈[9,10,11,12,13,14,15,16])(h:Gf g ds rs):eR (TT PP) XF ((⟨3,t3,(rowOf 3).sub⟩:ir).key g) ds rs:=by
 show eR (TT PP) XF ((⟨3,.stuck "",(rowOf 3).sub⟩:ir).key g) _ _;rw[mq (kG.1 ajL g hg)];exact h
theorem sY(e:aH)(b:Nat)(ds:List DV):∃e':aH,e'=e.aB b ds/\(∀k,k<b\/b+ds.length<=k->e' k=e k)/\∀j,j<ds.length->e' (b+j)=ds.getD j (.i 0):=
 ⟨_,rfl,fun k hk=>hk.elim (fun h=>aH.cA h) (fun h=>aH.jr h),fun j hj=>zm hj⟩
def aD(a b c d p q:Int):List DV:=[.i a,.i b,.i 0,.i 0,.i 0,.i 0,.i 0,.i c,.i d,.i 0,.i 0,.i 0,.i 0,.i 0,.i p,.i q,.i 0,.i 0,.i 0,.i 0,.i 0]
abbrev I8:A:=.i (-9223372036854775808) 9223372036854775807
theorem ana{a b:Int}(ha: -2097152<=a/\a<=2097152)(hb: -2097152<=b/\b<=2097152): -4398046511104<=a*b/\a*b<=4398046511104:=by
 have h1:=j7 (show 0<=2097152-a by omega) (show 0<=2097152+b by omega);have h2:=j7 (show 0<=2097152+a by omega) (show 0<=2097152-b by omega);have h3:=j7 (show 0<=2097152-a by omega) (show 0<=2097152-b by omega);have h4:=j7 (show 0<=2097152+a by omega) (show 0<=2097152+b by omega);constructor<;>grind
theorem KE{a b c d p q:Int}(h1:iy a)(h2:iy b)(h3:iy c)(h4:iy d)(h5:iy p)(h6:iy q):Gf 11 (aD a b c d p q) [.i (Ar a b c d p q)]:=by
 unfold iy at *;have m1:=ana (a:=c-a) (b:=q-b) (by omega) (by omega);have m2:=ana (a:=d-b) (b:=p-a) (by omega) (by omega);obtain⟨rs,h,rfl⟩:=ov (X:=XF) (ds:=aD a b c d p q) (R:=fun rs=>rs=[DV.i (Ar a b c d p q)]) F11 (by
   exact oN (show -9223372036854775808<=c-a/\c-a<=9223372036854775807 by omega) (oN (show -9223372036854775808<=q-b/\q-b<=9223372036854775807 by omega)
     (oN (show -9223372036854775808<=(c-a)*(q-b)/\(c-a)*(q-b)<=9223372036854775807 by omega) (oN (show -9223372036854775808<=d-b/\d-b<=9223372036854775807 by omega)
     (oN (show -9223372036854775808<=p-a/\p-a<=9223372036854775807 by omega) (oN (show -9223372036854775808<=(d-b)*(p-a)/\(d-b)*(p-a)<=9223372036854775807 by omega)
     (oN (show -9223372036854775808<=(c-a)*(q-b)-(d-b)*(p-a)/\(c-a)*(q-b)-(d-b)*(p-a)<=9223372036854775807 by omega) (BV rfl))))))))
 exact h
theorem Iz:(Gw Zm).length=94:=by
 unfold Gw;rw[lS];kernel_rfl
theorem vQ:Gw Zm=DV.i 0 :: .i 9 :: .i 8 :: .l Zm :: .l (fP 72 16777215)::ez ⟨[],fun _=>Zm⟩ (uD.drop 5):=(congrArg (ez ⟨[],fun _=>Zm⟩) aeY).trans (n8 ..)
def In3(n:Int):Prop:=-9223372036854775808<=n/\n<=9223372036854775807
def ae4(ds:List DV):Prop:=∃x1 y1 x2 y2 x3 y3:Int,ds=[.i x1,.i y1,.i x2,.i y2,.i x3,.i y3]/\In3 x1/\In3 y1/\In3 x2/\In3 y2/\In3 x3/\In3 y3
section
variable {x1 y1 x2 y2 x3 y3:Int}{e:aH}(h6:∀k,k<6->e k=bj.aB 0 [.i x1,.i y1,.i x2,.i y2,.i x3,.i y3] k)
theorem Gy{x1:Int}{y1:Int}{x2:Int}{y2:Int}{x3:Int}{y3:Int}{e:aH}(h6:∀k,k<6->e k=bj.aB 0 [.i x1,.i y1,.i x2,.i y2,.i x3,.i y3] k):dqX.af e=(x1+x2+x3).tdiv 3:=by
 show Int.tdiv ((e 0).int+(e 2).int+(e 4).int) 3=_;rw[h6 0 (by omega),h6 2 (by omega),h6 4 (by omega)];rfl
theorem Gz{x1:Int}{y1:Int}{x2:Int}{y2:Int}{x3:Int}{y3:Int}{e:aH}(h6:∀k,k<6->e k=bj.aB 0 [.i x1,.i y1,.i x2,.i y2,.i x3,.i y3] k):dqY.af e=(y1+y2+y3).tdiv 3:=by
 show Int.tdiv ((e 1).int+(e 3).int+(e 5).int) 3=_;rw[h6 1 (by omega),h6 3 (by omega),h6 5 (by omega)];rfl
theorem Sm{x1:Int}{y1:Int}{x2:Int}{y2:Int}{x3:Int}{y3:Int}{e:aH}(h6:∀k,k<6->e k=bj.aB 0 [.i x1,.i y1,.i x2,.i y2,.i x3,.i y3] k):p3L.af e=I7 false x1 y1 x2 y2 x3 y3 0 0:=by
 show [[(e 0).int,(e 1).int],[(e 2).int,(e 3).int],[(e 4).int,(e 5).int]]=_;rw[h6 0 (by omega),h6 1 (by omega),h6 2 (by omega),h6 3 (by omega),h6 4 (by omega),h6 5 (by omega)];rfl
theorem abF{x1:Int}{y1:Int}{x2:Int}{y2:Int}{x3:Int}{y3:Int}{e:aH}(h6:∀k,k<6->e k=bj.aB 0 [.i x1,.i y1,.i x2,.i y2,.i x3,.i y3] k):p5L.af e=I7 true x1 y1 x2 y2 x3 y3 ((x1+x2+x3).tdiv 3) ((y1+y2+y3).tdiv 3):=by
 show [[dqX.af e,dqY.af e],[(e 0).int,(e 1).int],[(e 2).int,(e 3).int],[(e 4).int,(e 5).int],[(e 0).int,(e 1).int]]=_;rw[Gy h6,Gz h6,h6 0 (by omega),h6 1 (by omega),h6 2 (by omega),h6 3 (by omega),h6 4 (by omega),h6 5 (by omega)];rfl
theorem GA{x1:Int}{y1:Int}{x2:Int}{y2:Int}{x3:Int}{y3:Int}{e:aH}(h6:∀k,k<6->e k=bj.aB 0 [.i x1,.i y1,.i x2,.i y2,.i x3,.i y3] k){a b c d:Nat}(ha:a<6)(hb:b<6)(hc:c<6)(hd:d<6):(a11 a b c d).map (DE.af e)=aD (bj.aB 0 [.i x1,.i y1,.i x2,.i y2,.i x3,.i y3] a).int (bj.aB 0 [.i x1,.i y1,.i x2,.i y2,.i x3,.i y3] b).int (bj.aB 0 [.i x1,.i y1,.i x2,.i y2,.i x3,.i y3] c).int (bj.aB 0 [.i x1,.i y1,.i x2,.i y2,.i x3,.i y3] d).int ((x1+x2+x3).tdiv 3) ((y1+y2+y3).tdiv 3):=by
 show [DV.i (e a).int,.i (e b).int,.i 0,.i 0,.i 0,.i 0,.i 0,.i (e c).int,.i (e d).int,.i 0,.i 0,.i 0,.i 0,.i 0,.i (dqX.af e),.i (dqY.af e),.i 0,.i 0,.i 0,.i 0,.i 0]=_;rw[Gy h6,Gz h6,h6 a ha,h6 b hb,h6 c hc,h6 d hd];rfl
end
theorem abG:(uB 18959)[3]?=some (.l 18962):=by kernel_rfl
theorem ae5:(uB 18959).length=94:=by kernel_rfl
theorem g3:vy (TT PP) XF 3 ae4 (fun _ rs=>rs=[.b true]):=by
 refine wT T3 fun ds hp=>?_;obtain⟨x1,y1,x2,y2,x3,y3,rfl,i1,j1,i2,j2,i3,j3⟩:=hp;have aw:∀ {e:aH} {Ps F k},(aw3 k).gY (fun g=>eR (TT PP) XF ((⟨3,t3,(rowOf 3).sub⟩:ir).key g)) (fun rs=>rs=[DV.b true]) Ps e F:=fun {e Ps F k}=>
   lx (ds:=[]) [.b true] rfl rfl (k3 (by simp) Aw.H6) (BV (by show [DV.b (e.set k (.b true) k).bool]=_;simp[aH.set,DV.bool]))
 obtain⟨rs9,g9,_⟩:=AS 9 (by decide) [.l [[x1,y1],[x2,y2],[x3,y3]],.i 3] ⟨by
   rw[show(kc 9).args=[.l 0 (some 1099511627776) [cI,cI],I8]by kernel_rfl];refine⟨⟨by show(0:Int)<=3;omega,fun y hy=>by cases hy;show(3:Int)<=1099511627776;omega,fun r hr=>?_⟩,⟨by decide,by decide⟩,trivial⟩;have hr:r=[x1,y1]\/r=[x2,y2]\/r=[x3,y3]:=by simpa using hr
   rcases hr with rfl|rfl|rfl;exact⟨i1,j1,trivial⟩;exact⟨i2,j2,trivial⟩;exact⟨i3,j3,trivial⟩,by rw[show(kc 9).pre=[]by kernel_rfl];intro p hp;cases hp⟩
 obtain⟨e,he⟩:∃e,e=bj.aB 0 [.i x1,.i y1,.i x2,.i y2,.i x3,.i y3]:=⟨_,rfl⟩;have h6:∀k,k<6->e k=bj.aB 0 [.i x1,.i y1,.i x2,.i y2,.i x3,.i y3] k:=fun k _=>by rw[he]
 rw[<- he];refine gU (M:=[[x1,y1],[x2,y2],[x3,y3]]) (Sm h6) ?_;obtain⟨e1,xf,o1,w1⟩:=Ip e 9 (.l [[x1,y1],[x2,y2],[x3,y3]]);rw[<- xf];have h6:∀k,k<6->e1 k=bj.aB 0 [.i x1,.i y1,.i x2,.i y2,.i x3,.i y3] k:=fun k hk=>(o1 k (by omega)).trans (h6 k hk);refine lx (ds:=[.l [[x1,y1],[x2,y2],[x3,y3]],.i 3]) rs9 rfl (by show [DV.l (e1 9).list,.i 3]=_;rw[w1];rfl) (k3 (by simp) g9) ?_;rcases abE g9 with rfl|⟨rfl,_,gR⟩;refine Cp (fun _=>aw) (fun h=>?_);have h:false=true:=h;cases h;obtain⟨a1,b1⟩:iy x1/\iy y1:=gR [x1,y1] (by simp);obtain⟨a2,b2⟩:iy x2/\iy y2:=gR [x2,y2] (by simp);obtain⟨a3,b3⟩:iy x3/\iy y3:=gR [x3,y3] (by simp);have a4:=Ix a1 a2 a3;have b4:=Ix b1 b2 b3;obtain⟨e2,I2,o2,w2⟩:=sY e1 10 [.b true];rw[<- I2];have v10:e2 10 = .b true:=w2 0 (by simp);have h6:∀k,k<6->e2 k=bj.aB 0 [.i x1,.i y1,.i x2,.i y2,.i x3,.i y3] k:=fun k hk=>(o2 k (.inl (by omega))).trans (h6 k hk);refine Cp (fun h=>?_) (fun _=>?_);have h:(e2 10).bool=false:=h;rw[v10]at h;cases h;have d1:(IE.add (.v 0) (.v 2)).af e2=x1+x2:=by
   show(e2 0).int+(e2 2).int=_;rw[h6 0 (by omega),h6 2 (by omega)];rfl
 have d2:(IE.add (.add (.v 0) (.v 2)) (.v 4)).af e2=x1+x2+x3:=by
   show(e2 0).int+(e2 2).int+(e2 4).int=_;rw[h6 0 (by omega),h6 2 (by omega),h6 4 (by omega)];rfl
 have d3:(IE.add (.v 1) (.v 3)).af e2=y1+y2:=by
   show(e2 1).int+(e2 3).int=_;rw[h6 1 (by omega),h6 3 (by omega)];rfl
 have d4:(IE.add (.add (.v 1) (.v 3)) (.v 5)).af e2=y1+y2+y3:=by
   show(e2 1).int+(e2 3).int+(e2 5).int=_;rw[h6 1 (by omega),h6 3 (by omega),h6 5 (by omega)];rfl
 have d5:=Gy h6;have d6:=Gz h6;obtain⟨x4,VG⟩:∃x4,(x1+x2+x3).tdiv 3=x4:=⟨_,rfl⟩;obtain⟨y4,hy4⟩:∃y4,(y1+y2+y3).tdiv 3=y4:=⟨_,rfl⟩;rw[VG]at a4 d5;rw[hy4]at b4 d6;have ends:(-9223372036854775808<=x1+x2/\x1+x2<=9223372036854775807)/\(-9223372036854775808<=x1+x2+x3/\x1+x2+x3<=9223372036854775807)/\(-9223372036854775808<=x4/\x4<=9223372036854775807)/\(-9223372036854775808<=y1+y2/\y1+y2<=9223372036854775807)/\(-9223372036854775808<=y1+y2+y3/\y1+y2+y3<=9223372036854775807)/\(-9223372036854775808<=y4/\y4<=9223372036854775807):=by
   unfold iy at *;omega
 obtain⟨n1,n2,n3,n4,n5,n6⟩:=ends;refine oN (by rw[d1];exact n1) (oN (by rw[d2];exact n2) (oN (by rw[d5];exact n3) (oN (by rw[d3];exact n4) (oN (by rw[d4];exact n5) (oN (by rw[d6];exact n6) ?_)))));have s1:=GA h6 (a:=0) (b:=1) (c:=2) (d:=3) (by omega) (by omega) (by omega) (by omega);rw[VG,hy4]at s1;refine lx (ds:=aD x1 y1 x2 y2 x4 y4) [.i (Ar x1 y1 x2 y2 x4 y4)] rfl s1 (k3 (by simp) (KE a1 b1 a2 b2 a4 b4)) ?_;obtain⟨e3,I5,o3,w3⟩:=sY e2 3085 [.i (Ar x1 y1 x2 y2 x4 y4)];rw[<- I5];have h6:∀k,k<6->e3 k=bj.aB 0 [.i x1,.i y1,.i x2,.i y2,.i x3,.i y3] k:=fun k hk=>(o3 k (.inl (by omega))).trans (h6 k hk);have s2:=GA h6 (a:=2) (b:=3) (c:=4) (d:=5) (by omega) (by omega) (by omega) (by omega);rw[VG,hy4]at s2;refine lx (ds:=aD x2 y2 x3 y3 x4 y4) [.i (Ar x2 y2 x3 y3 x4 y4)] rfl s2 (k3 (by simp) (KE a2 b2 a3 b3 a4 b4)) ?_;obtain⟨e4,RN,o4,w4⟩:=sY e3 6669 [.i (Ar x2 y2 x3 y3 x4 y4)];rw[<- RN];have h6:∀k,k<6->e4 k=bj.aB 0 [.i x1,.i y1,.i x2,.i y2,.i x3,.i y3] k:=fun k hk=>(o4 k (.inl (by omega))).trans (h6 k hk);have s3:=GA h6 (a:=4) (b:=5) (c:=0) (d:=1) (by omega) (by omega) (by omega) (by omega);rw[VG,hy4]at s3;refine lx (ds:=aD x3 y3 x1 y1 x4 y4) [.i (Ar x3 y3 x1 y1 x4 y4)] rfl s3 (k3 (by simp) (KE a3 b3 a1 b1 a4 b4)) ?_;obtain⟨e5,he5,o5,w5⟩:=sY e4 10253 [.i (Ar x3 y3 x1 y1 x4 y4)];rw[<- he5];have h6:∀k,k<6->e5 k=bj.aB 0 [.i x1,.i y1,.i x2,.i y2,.i x3,.i y3] k:=fun k hk=>(o5 k (.inl (by omega))).trans (h6 k hk);have u1:e5 3085 = .i (Ar x1 y1 x2 y2 x4 y4):=by rw[o5 _ (.inl (by omega)),o4 _ (.inl (by omega))];exact w3 0 (by simp)
 have u2:e5 6669 = .i (Ar x2 y2 x3 y3 x4 y4):=by rw[o5 _ (.inl (by omega))];exact w4 0 (by simp)
 have u3:e5 10253 = .i (Ar x3 y3 x1 y1 x4 y4):=w5 0 (by simp);refine Cp (fun _=>aw) (fun h=>?_);have h:((decide ((0:Int)<=(e5 3085).int)&&decide ((0:Int)<=(e5 6669).int))&&decide ((0:Int)<=(e5 10253).int)||(decide ((e5 3085).int<=0)&&decide ((e5 6669).int<=0))&&decide ((e5 10253).int<=0))=true:=h;rw[u1,u2,u3]at h;simp only[di,ig,ao,and_assoc]at h;obtain⟨U,hU,cP⟩:=ae3 a1 b1 a2 b2 a3 b3 a4 b4 (by
   rcases h with⟨h1,h2,h3⟩|⟨h1,h2,h3⟩;exact .inl ⟨mW h1,mW h2,mW h3⟩;exact .inr ⟨mW h1,mW h2,mW h3⟩)
 refine gU (M:=I7 false x1 y1 x2 y2 x3 y3 x4 y4) (Sm h6) ?_;obtain⟨e6,Xh,o6,w6⟩:=sY e5 12302 [.l (I7 false x1 y1 x2 y2 x3 y3 x4 y4)];have Xh:e6=e5.set 12302 (.l (I7 false x1 y1 x2 y2 x3 y3 x4 y4)):=Xh;rw[<- Xh];have h6:∀k,k<6->e6 k=bj.aB 0 [.i x1,.i y1,.i x2,.i y2,.i x3,.i y3] k:=fun k hk=>(o6 k (.inl (by omega))).trans (h6 k hk);have c6:e6 12302 = .l (I7 false x1 y1 x2 y2 x3 y3 x4 y4):=w6 0 (by simp);refine lx (ds:=[.i 9,.i 8]) [.l qp] rfl rfl (k3 (by simp) (ae1 a1 b1 a2 b2 a3 b3 a4 b4)) ?_;obtain⟨e7,he7,o7,w7⟩:=sY e6 10254 [.l qp];rw[<- he7];have h6:∀k,k<6->e7 k=bj.aB 0 [.i x1,.i y1,.i x2,.i y2,.i x3,.i y3] k:=fun k hk=>(o7 k (.inl (by omega))).trans (h6 k hk);have c7:e7 12302 = .l (I7 false x1 y1 x2 y2 x3 y3 x4 y4):=by rw[o7 _ (.inr (by show 10254+1<=12302;omega))];exact c6
 have p7:e7 10254 = .l qp:=w7 0 (by simp);refine lx (ds:=[.i 4,.l (I7 false x1 y1 x2 y2 x3 y3 x4 y4)]) [.l (Gx false x1 y1 x2 y2 x3 y3 x4 y4)] rfl (by show [DV.i 4,.l (e7 12302).list]=_;rw[c7];rfl) (k3 (by simp) (ae2 (b:=false) a1 b1 a2 b2 a3 b3 a4 b4)) ?_;obtain⟨e8,he8,o8,w8⟩:=sY e7 12814 [.l (Gx false x1 y1 x2 y2 x3 y3 x4 y4)];rw[<- he8];have h6:∀k,k<6->e8 k=bj.aB 0 [.i x1,.i y1,.i x2,.i y2,.i x3,.i y3] k:=fun k hk=>(o8 k (.inl (by omega))).trans (h6 k hk);have p8:e8 10254 = .l qp:=(o8 _ (.inl (by omega))).trans p7;have q8:e8 12814 = .l (Gx false x1 y1 x2 y2 x3 y3 x4 y4):=w8 0 (by simp);refine l9 (by
   show((e8 10254).list.length:Int)+((e8 12814).list.length:Int)<=4398046511104;rw[p8,q8];show((4:Nat):Int)+((5:Nat):Int)<=4398046511104;omega) ?_
 refine gU (M:=qp++Gx false x1 y1 x2 y2 x3 y3 x4 y4) (by show(e8 10254).list++(e8 12814).list=_;rw[p8,q8];rfl) ?_;obtain⟨e9,Xi,o9,w9⟩:=sY e8 13326 [.l (qp++Gx false x1 y1 x2 y2 x3 y3 x4 y4)];have Xi:e9=e8.set 13326 (.l (qp++Gx false x1 y1 x2 y2 x3 y3 x4 y4)):=Xi;rw[<- Xi];have h6:∀k,k<6->e9 k=bj.aB 0 [.i x1,.i y1,.i x2,.i y2,.i x3,.i y3] k:=fun k hk=>(o9 k (.inl (by omega))).trans (h6 k hk);have c9:e9 13326 = .l (qp++Gx false x1 y1 x2 y2 x3 y3 x4 y4):=w9 0 (by simp);refine lx (ds:=[.l (qp++Gx false x1 y1 x2 y2 x3 y3 x4 y4)]) (Gw (qo U 72)) rfl (by show [DV.l (e9 13326).list]=_;rw[c9];rfl) (k3 (by simp) (cP false)) ?_;obtain⟨eA,heA,oA,wA⟩:=sY e9 13838 (Gw (qo U 72));rw[<- heA];rw[Iz]at oA wA;have h6:∀k,k<6->eA k=bj.aB 0 [.i x1,.i y1,.i x2,.i y2,.i x3,.i y3] k:=fun k hk=>(oA k (.inl (by omega))).trans (h6 k hk);have r0:eA 13838 = .i 0:=(wA 0 (by omega)).trans (by rw[vQ];rfl);have r1:eA 13839 = .i 9:=(wA 1 (by omega)).trans (by rw[vQ];rfl);have r2:eA 13840 = .i 8:=(wA 2 (by omega)).trans (by rw[vQ];rfl);have r3:eA 13841 = .l (qo U 72):=(wA 3 (by omega)).trans (by rw[vQ];rfl);have r4:eA 13842 = .l (fP 72 16777215):=(wA 4 (by omega)).trans (by rw[vQ];rfl);have s5:=abF h6;rw[VG,hy4]at s5;refine gU (M:=I7 true x1 y1 x2 y2 x3 y3 x4 y4) s5 ?_;obtain⟨eB,heB,oB,wB⟩:=sY eA 17423 [.l (I7 true x1 y1 x2 y2 x3 y3 x4 y4)];have heB:eB=eA.set 17423 (.l (I7 true x1 y1 x2 y2 x3 y3 x4 y4)):=heB;rw[<- heB];have cB:eB 17423 = .l (I7 true x1 y1 x2 y2 x3 y3 x4 y4):=wB 0 (by simp);refine lx (ds:=[.i 9,.i 8]) [.l qp] rfl rfl (k3 (by simp) (ae1 a1 b1 a2 b2 a3 b3 a4 b4)) ?_;obtain⟨eC,heC,oC,wC⟩:=sY eB 14351 [.l qp];rw[<- heC];have cC:eC 17423 = .l (I7 true x1 y1 x2 y2 x3 y3 x4 y4):=by rw[oC _ (.inr (by show 14351+1<=17423;omega))];exact cB
 have pC:eC 14351 = .l qp:=wC 0 (by simp);refine lx (ds:=[.i 6,.l (I7 true x1 y1 x2 y2 x3 y3 x4 y4)]) [.l (Gx true x1 y1 x2 y2 x3 y3 x4 y4)] rfl (by show [DV.i 6,.l (eC 17423).list]=_;rw[cC];rfl) (k3 (by simp) (ae2 (b:=true) a1 b1 a2 b2 a3 b3 a4 b4)) ?_;obtain⟨eD,heD,oD,wD⟩:=sY eC 17935 [.l (Gx true x1 y1 x2 y2 x3 y3 x4 y4)];rw[<- heD];have pD:eD 14351 = .l qp:=(oD _ (.inl (by omega))).trans pC;have qD:eD 17935 = .l (Gx true x1 y1 x2 y2 x3 y3 x4 y4):=wD 0 (by simp);refine l9 (by
   show((eD 14351).list.length:Int)+((eD 17935).list.length:Int)<=4398046511104;rw[pD,qD];show((4:Nat):Int)+((7:Nat):Int)<=4398046511104;omega) ?_
 refine gU (M:=qp++Gx true x1 y1 x2 y2 x3 y3 x4 y4) (by show(eD 14351).list++(eD 17935).list=_;rw[pD,qD];rfl) ?_;obtain⟨eE,heE,oE,wE⟩:=sY eD 18447 [.l (qp++Gx true x1 y1 x2 y2 x3 y3 x4 y4)];have heE:eE=eD.set 18447 (.l (qp++Gx true x1 y1 x2 y2 x3 y3 x4 y4)):=heE;rw[<- heE];have cE:eE 18447 = .l (qp++Gx true x1 y1 x2 y2 x3 y3 x4 y4):=wE 0 (by simp);refine lx (ds:=[.l (qp++Gx true x1 y1 x2 y2 x3 y3 x4 y4)]) (Gw (qo U 72)) rfl (by show [DV.l (eE 18447).list]=_;rw[cE];rfl) (k3 (by simp) (cP true)) ?_;obtain⟨eF,heF,oF,wF⟩:=sY eE 18959 (Gw (qo U 72));rw[<- heF];rw[Iz]at oF wF;have up:∀k,k<14351->eF k=eA k:=fun k hk=>by rw[oF k (.inl (by omega)),oE k (.inl (by omega)),oD k (.inl (by omega)),oC k (.inl (by omega)),oB k (.inl (by omega))]
 have z0:eF 18959 = .i 0:=(wF 0 (by omega)).trans (by rw[vQ];rfl);have z1:eF 18960 = .i 9:=(wF 1 (by omega)).trans (by rw[vQ];rfl);have z2:eF 18961 = .i 8:=(wF 2 (by omega)).trans (by rw[vQ];rfl);have z3:eF 18962 = .l (qo U 72):=(wF 3 (by omega)).trans (by rw[vQ];rfl);have z4:eF 18963 = .l (fP 72 16777215):=(wF 4 (by omega)).trans (by rw[vQ];rfl);refine lx (ds:=(uB 18959).map (DE.af eF)) [.l (lH U 72)] rfl rfl (k3 (by simp) (R7 hU rfl (by
   rw[AU (by rw[lS,ae5];omega),cT,gL,abG];show DV.l (eF 18962).list=_;rw[z3];rfl))) ?_
 obtain⟨eG,heG,oG,wG⟩:=sY eF 19472 [.l (lH U 72)];rw[<- heG];have cG:eG 19472 = .l (lH U 72):=wG 0 (by simp);have Xn:(lH U 72).length=72:=by simp[lH]
 refine mN (fun vs=>∃(b:Bool) (i:Nat),vs=[.b b,.i i]/\i<=72) (fun vs=>match vs with
   |_ :: .i i::_=>72-i.toNat
   |_=>0) ⟨false,0,rfl,by omega⟩ ?_
 rintro _ ⟨b,i,rfl,hi⟩;obtain⟨eH,heH,oH,wH⟩:=sY eG 19473 [.b b,.i i];rw[<- heH];have v74:eH 19474 = .i i:=wH 1 (by simp);have v73:eH 19473 = .b b:=wH 0 (by simp);have v72:eH 19472 = .l (lH U 72):=(oH _ (.inl (by omega))).trans cG;refine ix (fun cu=>?_) (fun ng=>?_);have cu:(eH 19474).int<((eH 19472).list.length:Int):=cu;rw[v74,v72]at cu;have cu:(i:Int)<((lH U 72).length:Int):=cu;rw[Xn]at cu;have H3:i<72:=by omega
 refine l9 (by show(0:Int)<=(eH 19474).int;rw[v74];show(0:Int)<=(i:Int);omega) ?_;refine ix (fun hc=>?_) (fun _=>?_);have hc:(1:Int)<cellAt (eH 19472).list (eH 19474).int 0:=hc;rw[v74,v72]at hc;have hc:(1:Int)<cellAt (lH U 72) (i:Int) 0:=hc;unfold cellAt lH at hc;rw[xm,cT (l:=(List.range 72).map fun k=>[U k]),gL,List.getElem?_range H3]at hc;have hc:(1:Int)<U i:=hc;rcases hU i H3 with h|h<;>omega;refine oN (by show _<=(eH 19474).int+1/\(eH 19474).int+1<=_;rw[v74];show _<=(i:Int)+1/\(i:Int)+1<=_;omega) (ld ⟨⟨b,i+1,?_,by omega⟩,?_⟩);show [DV.b (eH 19473).bool,.i ((eH 19474).int+1)]=_;rw[v74,v73];rfl;show 72-((eH 19474).int+1).toNat<72-((i:Int)).toNat;rw[v74];show 72-((i:Int)+1).toNat<72-((i:Int)).toNat;omega;refine lx (ds:=[]) [.b true] rfl rfl (k3 (by simp) Aw.H6) ?_;obtain⟨eI,heI,oI,wI⟩:=sY eH 19475 [.b true];rw[<- heI];have v75:eI 19475 = .b true:=wI 0 (by simp);have v72:eI 19472 = .l (lH U 72):=(oI _ (.inl (by omega))).trans v72;have down:∀k,k<19472->eI k=eF k:=fun k hk=>by rw[oI k (.inl (by omega)),oH k (.inl (by omega)),oG k (.inl (by omega))]
 have r0:eI 13838 = .i 0:=by rw[down _ (by omega),up _ (by omega)];exact r0
 have r1:eI 13839 = .i 9:=by rw[down _ (by omega),up _ (by omega)];exact r1
 have r2:eI 13840 = .i 8:=by rw[down _ (by omega),up _ (by omega)];exact r2
 have r3:eI 13841 = .l (qo U 72):=by rw[down _ (by omega),up _ (by omega)];exact r3
 have r4:eI 13842 = .l (fP 72 16777215):=by rw[down _ (by omega),up _ (by omega)];exact r4
 have z0:eI 18959 = .i 0:=by rw[down _ (by omega)];exact z0
 have z1:eI 18960 = .i 9:=by rw[down _ (by omega)];exact z1
 have z2:eI 18961 = .i 8:=by rw[down _ (by omega)];exact z2
 have z3:eI 18962 = .l (qo U 72):=by rw[down _ (by omega)];exact z3
 have z4:eI 18963 = .l (fP 72 16777215):=by rw[down _ (by omega)];exact z4
 have okD:∀ {e:aH},e 19475 = .b true->e 13838 = .i 0->e 18959 = .i 0->e 19472 = .l (lH U 72)->ok3.af e=true:=fun {e} h1 h2 h3 h4=>by
   show(((e 19475).bool&&decide ((e 13838).int=0))&&decide ((e 18959).int=0)&&decide (((e 19472).list.length:Int)=72))=true;rw[h1,h2,h3,h4];show(((true&&decide ((0:Int)=0))&&decide ((0:Int)=0))&&decide (((lH U 72).length:Int)=72))=true;rw[Xn];rfl
 refine lx (ds:=[.i 9,.i 8,.l (qo U 72),.l (fP 72 16777215),.i 9,.i 8,.l (qo U 72),.l (fP 72 16777215)]) [.b true] (okD v75 r0 z0 v72) (by
   show [DV.i (eI 13839).int,.i (eI 13840).int,.l (eI 13841).list,.l (eI 13842).list,.i (eI 18960).int,.i (eI 18961).int,.l (eI 18962).list,.l (eI 18963).list]=_;rw[r1,r2,r3,r4,z1,z2,z3,z4];rfl) (k3 (by simp) (OO (by simp[qo]) (by simp[fP]))) ?_
 obtain⟨eJ,heJ,oJ,wJ⟩:=sY eI 19476 [.b true];rw[<- heJ];have v76:eJ 19476 = .b true:=wJ 0 (by simp);refine BV ?_;show [DV.b (ok3.af eJ&&(eJ 19476).bool)]=_;rw[okD ((oJ _ (.inl (by omega))).trans v75) ((oJ _ (.inl (by omega))).trans r0) ((oJ _ (.inl (by omega))).trans z0) ((oJ _ (.inl (by omega))).trans v72),v76];rfl
theorem am'{d:DV}(h:aap (.c i6) d):∃n,d = .i n/\In3 n:=by
 cases d with
 |i n=>exact⟨n,rfl,h⟩
 |_=>exact h.elim
theorem Xw{GV:List DV}(h:HQ [.c i6,.c i6,.c i6,.c i6,.c i6,.c i6] GV):ae4 GV:=by
 match GV,h with
 | [d1,d2,d3,d4,d5,d6],h=>
   obtain⟨h1,h2,h3,h4,h5,h6,_⟩:=h;obtain⟨n1,rfl,a1⟩:=am' h1;obtain⟨n2,rfl,a2⟩:=am' h2;obtain⟨n3,rfl,a3⟩:=am' h3;obtain⟨n4,rfl,a4⟩:=am' h4;obtain⟨n5,rfl,a5⟩:=am' h5;obtain⟨n6,rfl,a6⟩:=am' h6;exact⟨n1,n2,n3,n4,n5,n6,rfl,a1,a2,a3,a4,a5,a6⟩
end
end Go.Proofs.YtohebioanhliiaaGreatDoor.av

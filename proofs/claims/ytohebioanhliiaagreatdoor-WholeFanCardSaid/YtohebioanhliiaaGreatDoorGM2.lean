/- Triangles of one color. -/
import Derived.Test.YtohebioanhliiaaGreatDoorGM1
set_option maxRecDepth 100000
set_option linter.unusedVariables false
set_option linter.unusedSimpArgs false
namespace Go.Proofs.YtohebioanhliiaaGreatDoor.av
open Go.Sx Go
variable{e:aH}{k:Nat}{σ:Nat->Int}
def ch(i:IE)(a s:Nat):IE:=.jZ i 0 (.v a) (.jZ i 1 (.v (a+s)) (.jZ i 2 (.v (a+2*s)) (.jZ i 3 (.v (a+3*s)) (.v (a+4*s)))))
def up(k:Nat):IE:=.wrap .i64 (.add (.v k) (.c 1))
def ag(i b r:Nat):List DE:=(List.range 5).flatMap fun m=>[.i (.jZ (.v i) m (.v r) (.v (b+2*m))),.i (.jZ (.v i) m (.v (r+1)) (.v (b+1+2*m)))]
theorem uH{i:IE}{a s:Nat}(hk:k<5)(hi:i.af e=(k:Int)):(ch i a s).af e=(e (a+k*s)).int:=by
 unfold ch;simp only[IE.af,hi]
 match k,hk with
 |0,_=>simp
 |1,_=>simp
 |2,_=>simp
 |3,_=>simp
 |4,_=>simp
def t177:au:=
.ev (.call 221 (.c true) (iv 0 21++iv 22 4) [.one (.s 344 [i6,i6,i6])] 30) (
.ite (.eq (.len 30) (.c 0)) (
.ret [.nil]) (
.ev (.call 222 (.c true) (iv 0 21) [.agg [.c i6,.c i6,.c i6,.c i6,.c i6,.c i6,.c i6,.c i6,.c i6,.c i6,.c i6,.c i6,.c i6,.c i6,.c i6,.c i6,.c i6,.c i6,.c i6,.c i6,.c i6,.c i6]] 31) (
.ev (.call 223 (.c true) (iv 31 22) [.agg [.c i6,.c (.i .u64),.c i6,.c (.i .u64),.c i6,.c (.i .u64),.c i6,.c i6,.c (.i .u64),.c i6,.c (.i .u64),.c i6,.c (.i .u64),.c i6,.c i6,.c (.i .u64),.c i6,.c (.i .u64),.c i6,.c (.i .u64),.c i6,.c i6,.c (.i .u64),.c i6,.c (.i .u64),.c i6,.c (.i .u64),.c i6,.c i6,.c (.i .u64),.c i6,.c (.i .u64),.c i6,.c (.i .u64),.c i6]] 53) (
.loop 177007 [.nil,.i (.c 0)] [.s 74 iw,.c i6] 89 (
.ite (.lt (.v 90) (.len 30)) (
.ev (.aL (.le (.c 0) (.v 90))) (
.loop 177011 [.i (.c 0),.i (.c 0),.i (.c 0),.i (.c 0),.i (.c 0),.i (.c 0),.i (.c 0),.i (.c 0),.i (.c 0),.i (.c 0),.i (.c 0)] [.c i6,.c i6,.c (.i .u64),.c i6,.c (.i .u64),.c i6,.c (.i .u64),.c i6,.c (.i .u64),.c i6,.c (.i .u64)] 93 (
.ite (.lt (.v 93) (.c 5)) (
.ev (.aL (.le (.c 0) (.v 93))) (
.ev (.call 224 (.c true) (((List.range 7).map fun j=>.i (ch (.v 93) (53+j) 7))++[.i (.get 30 (.v 90) 1),.i (.get 30 (.v 90) 0)]) [.agg [.c i6,.c (.i .u64)]] 4200) (
.again 177011 (.i (up 93)::ag 93 94 4200)))) (
.loop 177016 [.l 89,.i (.get 30 (.v 90) 1),.i (.v 94),.i (.v 95),.i (.v 96),.i (.v 97),.i (.v 98),.i (.v 99),.i (.v 100),.i (.v 101),.i (.v 102),.i (.v 103)] [.s 74 iw,.c i6,.c i6,.c (.i .u64),.c i6,.c (.i .u64),.c i6,.c (.i .u64),.c i6,.c (.i .u64),.c i6,.c (.i .u64)] 104 (
.ite (.lt (.v 105) (.get 30 (.v 90) 2)) (
.ev (.call 225 (.c true) (iv 53 7++[.i (.v 106),.i (.v 107)]) [oI] 117) (
.loop 177021 [.i (.c 0),.i (.c 0),.i (.c 0),.i (.c 0),.i (.c 0)] [.c i6,.c i6,.c i6,.c i6,.c i6] 118 (
.ite (.lt (.v 118) (.c 4)) (
.ev (.aL (.le (.c 0) (up 118))) (
.ev (.aL (.lt (up 118) (.c 5))) (
.ev (.aL (.le (.c 0) (.v 118))) (
.ev (.call 225 (.c true) (((List.range 7).map fun j=>.i (ch (up 118) (53+j) 7))++[.i (ch (up 118) 106 2),.i (ch (up 118) 107 2)]) [oI] 4731) (
.again 177021 (.i (up 118)::(List.range 4).map fun m=>.i (.jZ (.v 118) m (.v 4731) (.v (119+m))))))))) (
.ev (.cH 123 (.lit [[.inl (.v 105),.inl (.get 30 (.v 90) 0),.inl (.min (.max (.wrap .i64 (.add (.v 117) (.v 21))) (.c 0)) (.c 16777215)),.inl (.v 119),.inl (.v 120),.inl (.v 121),.inl (.v 122),.inl (.c 64)]])) (
.ev (.aL (.le (.add (.len 104) (.len 123)) (.c 2199023255552))) (
.ev (.cH 124 (.app 104 123)) (
.loop 177027 [.i (.c 0),.i (.v 106),.i (.v 107),.i (.v 108),.i (.v 109),.i (.v 110),.i (.v 111),.i (.v 112),.i (.v 113),.i (.v 114),.i (.v 115)] [.c i6,.c i6,.c (.i .u64),.c i6,.c (.i .u64),.c i6,.c (.i .u64),.c i6,.c (.i .u64),.c i6,.c (.i .u64)] 125 (
.ite (.lt (.v 125) (.c 5)) (
.ev (.aL (.le (.c 0) (.v 125))) (
.ev (.call 220 (.c true) [.i (ch (.v 125) 126 2),.i (ch (.v 125) 127 2),.i (ch (.v 125) 55 7),.i (ch (.v 125) 56 7)] [.agg [.c i6,.c (.i .u64)]] 4232) (
.again 177027 (.i (up 125)::ag 125 126 4232)))) (
.again 177016 [.l 124,.i (.wrap .i64 (.add (.v 105) (.c 1))),.i (.v 126),.i (.v 127),.i (.v 128),.i (.v 129),.i (.v 130),.i (.v 131),.i (.v 132),.i (.v 133),.i (.v 134),.i (.v 135)]))))))))) (
.again 177007 [.l 104,.i (.wrap .i64 (.add (.v 90) (.c 1)))])))))) (
.ret [.l 89]))))))
theorem aer:TT PP 177=some ⟨177,t177,(rowOf 177).sub⟩:=by kernel_rfl
def Pl(A:Int)(σ:Nat->Int)(e:aH):Prop:=∀k,k<4->(e (60+7*k)).int=dc (A*σ k)/\(e (61+7*k)).int=dW (A*σ k)/\(e (62+7*k)).int=0/\(e (63+7*k)).int=0/\(e (64+7*k)).int=0/\(e (65+7*k)).int=0/\(e (66+7*k)).int=A
theorem Pl.fi{A:Int}{e':aH}(h:Pl A σ e)(he:∀k,k<89->e' k=e k):Pl A σ e':=by
 intro k hk;obtain⟨h0,h1,h2,h3,h4,h5,h6⟩:=h k hk;refine⟨?_,?_,?_,?_,?_,?_,?_⟩;rw[he _ (by omega)];exact h0;rw[he _ (by omega)];exact h1;rw[he _ (by omega)];exact h2;rw[he _ (by omega)];exact h3;rw[he _ (by omega)];exact h4;rw[he _ (by omega)];exact h5;rw[he _ (by omega)];exact h6
def Cr(h l:Nat->Int):List DV:=(List.range 5).flatMap fun m=>[.i (h m),.i (l m)]
theorem rj(h l:Nat->Int):(Cr h l).length=10:=rfl
theorem vg{h l:Nat->Int}{m:Nat}(hm:m<5):(Cr h l).getD (2*m) (.i 0) = .i (h m)/\(Cr h l).getD (2*m+1) (.i 0) = .i (l m):=by
 match m,hm with
 |0,_=>exact⟨rfl,rfl⟩
 |1,_=>exact⟨rfl,rfl⟩
 |2,_=>exact⟨rfl,rfl⟩
 |3,_=>exact⟨rfl,rfl⟩
 |4,_=>exact⟨rfl,rfl⟩
theorem Sy{i b r:Nat}{n:Nat}(hi:(e i).int=(n:Int)):(ag i b r).map (DE.af e)=Cr (fun m=>if n=m then(e r).int else(e (b+2*m)).int) (fun m=>if n=m then(e (r+1)).int else(e (b+1+2*m)).int):=by
 have hc:∀m:Nat,((n:Int)=(m:Int))↔n=m:=fun m=>by omega
 simp only[ag,Cr,List.map_flatMap,kD,rM,DE.af,IE.af,hi,hc]
def SA(A:Int)(σ:Nat->Int)(h l:Nat->Int)(n:Int):Prop:=∀k:Nat,k<4->(k:Int)+1<n->h (k+1)=dc (A*σ k)/\l (k+1)=dW (A*σ k)
theorem Zp{σ:Nat->Int}{v:Nu}:∀ {az:List Kn} {ds:List DV} {j:Nat},yb σ az ds->az[j]?=some (.x v)->∃n,ds[j]?=some (.i n)/\v.has σ n
 | [],_,j,_,e=>by cases e
 |a::az,[],j,h,_=>h.elim
 | a::az,d::ds,0,h,e=>by
   cases e;obtain⟨⟨n,rfl,hn⟩,_⟩:=h;exact⟨n,rfl,hn⟩
 |a::az,d::ds,j+1,h,e=>Zp (az:=az) (ds:=ds) (j:=j) h.2 e
theorem AI{az:List Kn}{ds:List DV}{j:Nat}(h:yb σ az ds)(e:az[j]?=some (.x (.s k))):nm ds j=σ k:=by
 obtain⟨n,h1,h2⟩:=Zp h e;have hj:j<ds.length:=by
   rcases qK j ds.length with h|h;exact h;rw[th h]at h1;cases h1
 unfold nm;rw[AU hj,cT,h1];exact h2
section
variable {A:Int}{σ:Nat->Int}{E:Nat->List DV->List DV->Prop}{Ps:List (Int->Prop)}
variable{F:Nat->List DV->Prop}{G:List DV->Prop}{id:Nat}{vs:List DV}
theorem afc(hA:1<=A/\A<=9223372036854775807)(Ol:PS σ){k:Nat}(hk:k<4):ri (A*σ k):=by
 have h:=Ol.1 k hk;have h1:=rS hA.2 h.1;have h2:=j7 (show 0<=A by omega) h.1;constructor<;>omega
theorem Cs{a b:DV}{l m:List DV}(h1:a=b)(h2:l=m):a::l=b::m:=by rw[h1,h2]
theorem sA{sV:Nat}(h:id≠sV):qv F sV G id vs=F id vs:=by
 unfold qv;rw[if_neg h]
theorem uz:qv F id G id vs=G vs:=by
 unfold qv;rw[if_pos rfl]
theorem IF{n:Nat}{f:Nat->Int}{j:Nat}(hj:j<n):nm ((List.range n).map fun k=>.i (f k)) j=f j:=by
 unfold nm;rw[AU (by simpa using hj),cT,gL,List.getElem?_range hj];rfl
theorem Xj:Told XF 177 ajP:=by
 intro σ Ol p hp ds rs ha hg;obtain rfl:=kL.1 hp;have afd:∀k,k<4->nm ds (3+k)=σ k/\nm ds (7+(3+k))=σ k/\nm ds (14+(3+k))=σ k:=fun k hk=>by
   match k,hk with
   |0,_=>exact⟨AI ha rfl,AI ha rfl,AI ha rfl⟩
   |1,_=>exact⟨AI ha rfl,AI ha rfl,AI ha rfl⟩
   |2,_=>exact⟨AI ha rfl,AI ha rfl,AI ha rfl⟩
   |3,_=>exact⟨AI ha rfl,AI ha rfl,AI ha rfl⟩
 refine bV (R:=yb σ _) aer ?_ hg;unfold t177;refine bp fun r30 VF=>?_;have VF:=aP bD (bR (by simp)) VF;refine Gj (fun _=>c8 ⟨show ∀r∈([]:List (List Int)),gA σ cF r from fun r hr=>(by cases hr),trivial⟩) (fun cV=>?_);refine bp fun Xf g31=>?_;have g31:=aP bD (bR (by simp)) g31;obtain⟨l31,n31,ar0,ar1,arz,abK⟩:=abJ g31;obtain⟨e1,xf,o1,w1⟩:=oY (bj.aB 0 ds) 30 r30;rw[<- xf]at cV g31 abK arz ⊢;have ear:ar ((iv 0 21).map (DE.af e1))=ar ds:=by
   show Ar (e1 0).int (e1 1).int (e1 7).int (e1 8).int (e1 14).int (e1 15).int=_;rw[o1 0 (by omega),o1 1 (by omega),o1 7 (by omega),o1 8 (by omega),o1 14 (by omega),o1 15 (by omega)]
 have hA0:ar Xf≠0:=fun h0=>by
   have h1:=arz h0;rw[ear]at h1;have h2:=Ir (show ar ((iv 0 21++iv 22 4).map (DE.af (bj.aB 0 ds)))=0 from h1) VF;subst h2;have:=w1 0 (by simp);refine cV ?_;show((e1 30).list.length:Int)=0;rw[show e1 30 = .l []from this];rfl
 obtain⟨A,hA⟩:∃A,A=ar Xf:=⟨_,rfl⟩;rw[<- hA]at ar0 ar1 n31 hA0;have hA1:1<=A/\A<=9223372036854775807:=⟨by omega,ar1⟩;obtain⟨e2,I2,o2,w2⟩:=oY e1 31 Xf;rw[<- I2];refine bp fun r53 g53=>?_;have g53:=aP bD (bR (by simp)) g53;have hq:∀k,k<22->nm ((iv 31 22).map (DE.af e2)) k=nm Xf k:=fun k hk=>by
   rw[show(iv 31 22).map (DE.af e2)=(List.range 22).map fun k=>.i (e2 (31+k)).int from rfl,IF hk,w2 k (by omega)];unfold nm;rw[AU (by omega)]
 have c0:∀k,k<4->nm Xf (3+k)=σ k/\nm Xf (7+(3+k))=σ k/\nm Xf (14+(3+k))=σ k:=fun k hk=>by
   have nn:∀j,j<21->nm ((iv 0 21).map (DE.af e1)) j=nm ds j:=fun j hj=>by
     rw[show(iv 0 21).map (DE.af e1)=(List.range 21).map fun k=>.i (e1 (0+k)).int from rfl,IF hj,gK,o1 j (by omega)]
   obtain⟨q0,q1,q2⟩:=afd k hk;exact abK (3+k) (by omega) (by omega) (σ k) (by rw[nn _ (by omega)];exact q0) (by rw[nn _ (by omega)];exact q1) (by rw[nn _ (by omega)];exact q2)
 obtain⟨b0,b1,b2,b3,b4,b5,b6,h53⟩:=Sv (p:=σ) Ol.1 (fun k hk=>by
   obtain⟨q0,q1,q2⟩:=c0 k hk;exact⟨by rw[hq _ (by omega)];exact q0,by rw[hq _ (by omega),show 10+k=7+(3+k)by omega];exact q1,by rw[hq _ (by omega),show 17+k=14+(3+k)by omega];exact q2⟩) g53
 have hAr:ar ((iv 31 22).map (DE.af e2))=A:=by
   rw[hA];unfold ar;rw[hq 0 (by omega),hq 1 (by omega),hq 7 (by omega),hq 8 (by omega),hq 14 (by omega),hq 15 (by omega)]
 rw[hAr,hq 21 (by omega),n31]at h53;obtain⟨e3,I5,o3,w3⟩:=oY e2 53 r53;rw[<- I5];have hP:Pl A σ e3:=by
   subst h53;intro k hk
   match k,hk with
   |0,_=>exact⟨congrArg DV.int (w3 7 (by simp)),congrArg DV.int (w3 8 (by simp)),congrArg DV.int (w3 9 (by simp)),congrArg DV.int (w3 10 (by simp)),congrArg DV.int (w3 11 (by simp)),congrArg DV.int (w3 12 (by simp)),congrArg DV.int (w3 13 (by simp))⟩
   |1,_=>exact⟨congrArg DV.int (w3 14 (by simp)),congrArg DV.int (w3 15 (by simp)),congrArg DV.int (w3 16 (by simp)),congrArg DV.int (w3 17 (by simp)),congrArg DV.int (w3 18 (by simp)),congrArg DV.int (w3 19 (by simp)),congrArg DV.int (w3 20 (by simp))⟩
   |2,_=>exact⟨congrArg DV.int (w3 21 (by simp)),congrArg DV.int (w3 22 (by simp)),congrArg DV.int (w3 23 (by simp)),congrArg DV.int (w3 24 (by simp)),congrArg DV.int (w3 25 (by simp)),congrArg DV.int (w3 26 (by simp)),congrArg DV.int (w3 27 (by simp))⟩
   |3,_=>exact⟨congrArg DV.int (w3 28 (by simp)),congrArg DV.int (w3 29 (by simp)),congrArg DV.int (w3 30 (by simp)),congrArg DV.int (w3 31 (by simp)),congrArg DV.int (w3 32 (by simp)),congrArg DV.int (w3 33 (by simp)),congrArg DV.int (w3 34 (by simp))⟩
 clear I5 w3 o3 I2 w2 o2 xf w1 o1 hq c0 ear h53 g53 abK arz g31 VF cV afd;refine ll (fun vs=>∃(out:List (List Int)) (i:Int),vs=[.l out,.i i]/\∀r∈out,gA σ cF r) ⟨[],0,rfl,fun r hr=>(by cases hr)⟩ ?_;rintro _ ⟨out,si,rfl,ho⟩;obtain⟨e4,RN,o4,w4⟩:=oY e3 89 [.l out,.i si];rw[<- RN];have hP4:=hP.fi o4;have v89:e4 89 = .l out:=w4 0 (by simp);refine lk (fun _=>bh fun _=>?_) (fun _=>c8 ⟨?_,trivial⟩)
 rotate_left
 show ∀r∈(e4 89).list,gA σ cF r;rw[v89];exact ho;refine ll (fun vs=>∃(n:Nat) (h l:Nat->Int),vs = .i n::Cr h l/\SA A σ h l n) ⟨0,fun _=>0,fun _=>0,rfl,fun k hk h=>by omega⟩ ?_;rintro _ ⟨n,h,l,rfl,hg4⟩;obtain⟨e5,he5,o5,w5⟩:=oY e4 93 (.i n::Cr h l);rw[<- he5];have hP5:=hP4.fi fun k hk=>o5 k (by omega);have v93:e5 93 = .i n:=w5 0 (by simp);have vh:∀m,m<5->e5 (94+2*m) = .i (h m):=fun m hm=>by
   have:=w5 (1+2*m) (by rw[qe,rj];omega);rw[show 94+2*m=93+(1+2*m)by omega,this,Nat.add_comm 1 (2*m)];exact(vg hm).1
 have vl:∀m,m<5->e5 (95+2*m) = .i (l m):=fun m hm=>by
   have:=w5 (1+(2*m+1)) (by rw[qe,rj];omega);rw[show 95+2*m=93+(1+(2*m+1))by omega,this,Nat.add_comm 1 (2*m+1)];exact(vg hm).2
 refine gb (fun cu=>?_) (fun ng=>?_);have cu:(e5 93).int<5:=cu;rw[v93]at cu;have cu:(n:Int)<5:=cu;refine bh fun _=>bp fun r g=>?_;have g:=aP bD (bR (by simp)) g;have hd:(IE.v 93).af e5=(n:Int):=by show(e5 93).int=_;rw[v93];rfl
 have key:∀k,k<4->n=k+1->r=[.i (dc (A*σ k)),.i (dW (A*σ k))]:=fun k hk hn=>by
   obtain⟨p0,p1,p2,p3,p4,p5,p6⟩:=hP5 k hk;have cd:∀j,(ch (.v 93) (53+j) 7).af e5=(e5 (60+j+7*k)).int:=fun j=>by
     rw[uH (by omega) hd,hn,show 53+j+(k+1)*7=60+j+7*k by omega]
   refine afa (n:=A) (x:=(IE.get 30 (.v 90) 1).af e5) (y:=(IE.get 30 (.v 90) 0).af e5) (afc hA1 Ol hk) ?_;have ea:(((List.range 7).map fun j=>DE.i (ch (.v 93) (53+j) 7))++[DE.i (.get 30 (.v 90) 1),DE.i (.get 30 (.v 90) 0)]).map (DE.af e5)=[DV.i (dc (A*σ k)),.i (dW (A*σ k)),.i 0,.i 0,.i 0,.i 0,.i A,.i ((IE.get 30 (.v 90) 1).af e5),.i ((IE.get 30 (.v 90) 0).af e5)]:=by
     show [DV.i ((ch (.v 93) 53 7).af e5),.i ((ch (.v 93) 54 7).af e5),.i ((ch (.v 93) 55 7).af e5),.i ((ch (.v 93) 56 7).af e5),.i ((ch (.v 93) 57 7).af e5),.i ((ch (.v 93) 58 7).af e5),.i ((ch (.v 93) 59 7).af e5),_,_]=_;rw[(cd 0).trans p0,(cd 1).trans p1,(cd 2).trans p2,(cd 3).trans p3,(cd 4).trans p4,(cd 5).trans p5,(cd 6).trans p6];rfl
   rw[ea]at g;exact g
 obtain⟨e6,Xh,o6,w6⟩:=oY e5 4200 r;rw[<- Xh];have afe:(e6 93).int=(n:Int):=by rw[o6 _ (by omega),v93];rfl
 refine vb ⟨n+1,_,_,Cs ?_ (Sy afe),fun k hk hn=>?_⟩;show DV.i (IntKind.i64.wrap ((e6 93).int+1))=_;rw[afe,q9 (show iU ((n:Int)+1)by constructor<;>omega)];rfl;by_cases e:n=k+1;have hr:=key k hk e;subst hr;rw[if_pos e,if_pos e];exact⟨congrArg DV.int (w6 0 (by simp)),congrArg DV.int (w6 1 (by simp))⟩;rw[if_neg e,if_neg e,o6 _ (by omega),o6 _ (by omega),vh _ (by omega),show 94+1+2*(k+1)=95+2*(k+1)by omega,vl _ (by omega)];exact hg4 k hk (by omega)
 . have ng:5<=(e5 93).int:=ng;rw[v93]at ng;have ng:5<=(n:Int):=ng;refine ll (fun vs=>∃(out:List (List Int)) (x:Int) (h l:Nat->Int),vs = .l out :: .i x::Cr h l/\(∀r∈out,gA σ cF r)/\SA A σ h l 5) ⟨out,(IE.get 30 (.v 90) 1).af e5,fun m=>(e5 (94+2*m)).int,fun m=>(e5 (95+2*m)).int,?_,ho,fun k hk _=>?_⟩ ?_;show DV.l (e5 89).list::_=_;rw[o5 89 (by omega),v89];rfl;show(e5 (94+2*(k+1))).int=_/\(e5 (95+2*(k+1))).int=_;rw[vh _ (by omega),vl _ (by omega)];exact hg4 k hk (by omega);rintro _ ⟨abL,x,h2,l2,rfl,ho2,hg2⟩;obtain⟨e7,he7,o7,w7⟩:=oY e5 104 (.l abL :: .i x::Cr h2 l2);rw[<- he7];have hP7:=hP5.fi fun k hk=>o7 k (by omega);have OI:e7 104 = .l abL:=w7 0 (by simp);have v105:e7 105 = .i x:=w7 1 (by simp);have vh2:∀m,m<5->e7 (106+2*m) = .i (h2 m):=fun m hm=>by
     have:=w7 (1+(1+2*m)) (by rw[qe,qe,rj];omega);rw[show 106+2*m=104+(1+(1+2*m))by omega,this,show 1+(1+2*m)=2*m+1+1 by omega];exact(vg hm).1
   have vl2:∀m,m<5->e7 (107+2*m) = .i (l2 m):=fun m hm=>by
     have:=w7 (1+(1+(2*m+1))) (by rw[qe,qe,rj];omega);rw[show 107+2*m=104+(1+(1+(2*m+1)))by omega,this,show 1+(1+(2*m+1))=2*m+1+1+1 by omega];exact(vg hm).2
   refine lk (fun _=>?_) (fun _=>?_)
   rotate_left
   show qv _ 177016 _ 177007 _;rw[sA (by decide),sA (by decide),uz];refine⟨abL,(IE.wrap .i64 (.add (.v 90) (.c 1))).af e7,?_,ho2⟩;show [DV.l (e7 104).list,_]=_;rw[OI];rfl;refine bp fun r8 _=>?_;obtain⟨e8,he8,o8,w8⟩:=oY e7 117 r8;rw[<- he8];refine ll (fun vs=>∃(n:Nat) (c:Nat->Int),vs = .i n::(List.range 4).map (fun m=>.i (c m))/\∀k,k<4->k<n->c k=σ k) ⟨0,fun _=>0,rfl,fun k _ h=>by omega⟩ ?_;rintro _ ⟨n9,c,rfl,hc⟩;obtain⟨e9,Xi,o9,w9⟩:=oY e8 118 (.i n9::(List.range 4).map (fun m=>.i (c m)));rw[<- Xi];have o97:∀k,k<117->e9 k=e7 k:=fun k hk=>by rw[o9 k (by omega),o8 k hk]
   have hP9:=hP7.fi fun k hk=>o97 k (by omega);have SB:e9 118 = .i n9:=w9 0 (by simp);have vc:∀m,m<4->e9 (119+m) = .i (c m):=fun m hm=>by
     have:=w9 (1+m) (by simp;omega);rw[show 119+m=118+(1+m)by omega,this]
     match m,hm with
     |0,_=>rfl
     |1,_=>rfl
     |2,_=>rfl
     |3,_=>rfl
   refine gb (fun cu=>?_) (fun SC=>?_);have cu:(e9 118).int<4:=cu;rw[SB]at cu;have cu:(n9:Int)<4:=cu;have h9:n9<4:=by omega
   have hd:(up 118).af e9=((n9+1:Nat):Int):=by
     show IntKind.i64.wrap ((e9 118).int+1)=_;rw[SB];show IntKind.i64.wrap ((n9:Int)+1)=_;rw[q9 (show iU ((n9:Int)+1)by constructor<;>omega)];omega
   refine bh fun _=>bh fun _=>bh fun _=>bp fun r g=>?_;have g:=aP bD (bR (by simp)) g;obtain⟨p0,p1,p2,p3,p4,p5,p6⟩:=hP9 n9 h9;have ch6:(ch (up 118) (53+6) 7).af e9=A:=by
     rw[uH (by omega) hd,show 53+6+(n9+1)*7=66+7*n9 by omega];exact p6
   have cha:(ch (up 118) 106 2).af e9=dc (A*σ n9):=by
     rw[uH (by omega) hd,show 106+(n9+1)*2=106+2*(n9+1)by omega,o97 _ (by omega),vh2 _ (by omega)];exact(hg2 n9 h9 (by omega)).1
   have chb:(ch (up 118) 107 2).af e9=dW (A*σ n9):=by
     rw[uH (by omega) hd,show 107+(n9+1)*2=107+2*(n9+1)by omega,o97 _ (by omega),vl2 _ (by omega)];exact(hg2 n9 h9 (by omega)).2
   have hr:r=[.i (σ n9)]:=by
     refine XA (n:=A) hA1.1 hA1.2 (Ol.1 n9 h9) (a0:=.i ((ch (up 118) 53 7).af e9)) (a1:=.i ((ch (up 118) 54 7).af e9)) (a2:=.i ((ch (up 118) 55 7).af e9)) (a3:=.i ((ch (up 118) 56 7).af e9)) (a4:=.i ((ch (up 118) 57 7).af e9)) (a5:=.i ((ch (up 118) 58 7).af e9)) ?_;rw[<- cha,<- chb,<- ch6];exact g
   subst hr;obtain⟨uu,Kt,OJ,w10⟩:=oY e9 4731 [.i (σ n9)];rw[<- Kt];refine vb ⟨n9+1,fun m=>if n9=m then(uu 4731).int else(uu (119+m)).int,Cs ?_ ?_,fun k hk hn=>?_⟩;show DV.i (IntKind.i64.wrap ((uu 118).int+1))=_;rw[OJ _ (by omega),SB];show DV.i (IntKind.i64.wrap ((n9:Int)+1))=_;rw[q9 (show iU ((n9:Int)+1)by constructor<;>omega)];rfl;have M5:∀m:Nat,((n9:Int)=(m:Int))↔n9=m:=fun m=>by omega
   have v10:(uu 118).int=(n9:Int):=by rw[OJ _ (by omega),SB];rfl
   simp only[List.map_map];refine xh fun m _=>?_;simp only[Function.comp,DE.af,IE.af,v10,M5];show(if n9=k then(uu 4731).int else(uu (119+k)).int)=σ k;by_cases e:n9=k;rw[if_pos e,<- e];exact congrArg DV.int (w10 0 (by simp));rw[if_neg e,OJ _ (by omega),vc k hk];exact hc k hk (by omega);have SC:4<=(e9 118).int:=SC;rw[SB]at SC;have SC:4<=(n9:Int):=SC;refine xV (bh fun _=>xV ?_);obtain⟨uu,Kt,OJ,w10⟩:=Ip e9 123 (.l (dw.af e9 (.lit [[.inl (.v 105),.inl (.get 30 (.v 90) 0),.inl (.min (.max (.wrap .i64 (.add (.v 117) (.v 21))) (.c 0)) (.c 16777215)),.inl (.v 119),.inl (.v 120),.inl (.v 121),.inl (.v 122),.inl (.c 64)]])));rw[<- Kt];obtain⟨CY,RP,o11,w11⟩:=Ip uu 124 (.l (dw.af uu (.app 104 123)));rw[<- RP];have abM:∀k,k<117->CY k=e7 k:=fun k hk=>by rw[o11 k (by omega),OJ k (by omega),o97 k hk]
   have aj0:=hP7.fi fun k hk=>abM k (by omega);have aaT:∀r∈(CY 124).list,gA σ cF r:=by
     rw[w11];show ∀r∈(uu 104).list++(uu 123).list,_;rw[OJ _ (by omega),o97 _ (by omega),OI,w10];intro r hr;rcases mi.1 hr with hr|hr;exact ho2 r hr;have hr:r∈[[(e9 105).int,_,_,(e9 (119+0)).int,(e9 (119+1)).int,(e9 (119+2)).int,(e9 (119+3)).int,64]]:=hr;rw[vc 0 (by omega),vc 1 (by omega),vc 2 (by omega),vc 3 (by omega)]at hr;rw[kL.1 hr];intro q hq;simp only[cF,bF,il,or_false]at hq;rcases hq with rfl|rfl|rfl|rfl;exact hc 0 (by omega) (by omega);exact hc 1 (by omega) (by omega);exact hc 2 (by omega) (by omega);exact hc 3 (by omega) (by omega)
   refine ll (fun vs=>∃(n:Nat) (h l:Nat->Int),vs = .i n::Cr h l/\SA A σ h l 5) ⟨0,fun m=>(CY (106+2*m)).int,fun m=>(CY (107+2*m)).int,rfl,fun k hk hn=>?_⟩ ?_;show(CY (106+2*(k+1))).int=_/\(CY (107+2*(k+1))).int=_;rw[abM _ (by omega),abM _ (by omega),vh2 _ (by omega),vl2 _ (by omega)];exact hg2 k hk hn;rintro _ ⟨m,h3,l3,rfl,hg3⟩;obtain⟨ry,abu,Ks,Xm⟩:=oY CY 125 (.i m::Cr h3 l3);rw[<- abu];have aj1:=aj0.fi fun k hk=>Ks k (by omega);have abN:ry 125 = .i m:=Xm 0 (by simp);have vh3:∀j,j<5->ry (126+2*j) = .i (h3 j):=fun j hj=>by
     have:=Xm (1+2*j) (by rw[qe,rj];omega);rw[show 126+2*j=125+(1+2*j)by omega,this,Nat.add_comm 1 (2*j)];exact(vg hj).1
   have vl3:∀j,j<5->ry (127+2*j) = .i (l3 j):=fun j hj=>by
     have:=Xm (1+(2*j+1)) (by rw[qe,rj];omega);rw[show 127+2*j=125+(1+(2*j+1))by omega,this,Nat.add_comm 1 (2*j+1)];exact(vg hj).2
   refine gb (fun cu=>?_) (fun _=>?_);have cu:(ry 125).int<5:=cu;rw[abN]at cu;have cu:(m:Int)<5:=cu;refine bh fun _=>bp fun r g=>?_;have g:=aP bD (bR (by simp)) g;have hd:(IE.v 125).af ry=(m:Int):=by show(ry 125).int=_;rw[abN];rfl
   have key:∀k,k<4->m=k+1->r=[.i (dc (A*σ k)),.i (dW (A*σ k))]:=fun k hk hm=>by
     obtain⟨p0,p1,p2,p3,p4,p5,p6⟩:=aj1 k hk;have q0:(ch (.v 125) 126 2).af ry=dc (A*σ k):=by
       rw[uH (by omega) hd,hm,show 126+(k+1)*2=126+2*(k+1)by omega,vh3 _ (by omega)];exact(hg3 k hk (by omega)).1
     have q1:(ch (.v 125) 127 2).af ry=dW (A*σ k):=by
       rw[uH (by omega) hd,hm,show 127+(k+1)*2=127+2*(k+1)by omega,vl3 _ (by omega)];exact(hg3 k hk (by omega)).2
     have q2:(ch (.v 125) 55 7).af ry=dc 0:=by
       rw[uH (by omega) hd,hm,show 55+(k+1)*7=62+7*k by omega];exact p2
     have q3:(ch (.v 125) 56 7).af ry=dW 0:=by
       rw[uH (by omega) hd,hm,show 56+(k+1)*7=63+7*k by omega];exact p3
     have g:Gf 220 [.i ((ch (.v 125) 126 2).af ry),.i ((ch (.v 125) 127 2).af ry),.i ((ch (.v 125) 55 7).af ry),.i ((ch (.v 125) 56 7).af ry)] r:=g;rw[q0,q1,q2,q3]at g;have hV:=afc hA1 Ol hk;have e0:=Cq hV (by constructor<;>omega) (by rw[Int.add_zero];exact hV) g;rw[Int.add_zero]at e0;exact e0
   obtain⟨vP,abv,I6,w13⟩:=oY ry 4232 r;rw[<- abv];have Zq:(vP 125).int=(m:Int):=by rw[I6 _ (by omega),abN];rfl
   refine vb ⟨m+1,_,_,Cs ?_ (Sy Zq),fun k hk hn=>?_⟩;show DV.i (IntKind.i64.wrap ((vP 125).int+1))=_;rw[Zq,q9 (show iU ((m:Int)+1)by constructor<;>omega)];rfl;by_cases e:m=k+1;have hr:=key k hk e;subst hr;rw[if_pos e,if_pos e];exact⟨congrArg DV.int (w13 0 (by simp)),congrArg DV.int (w13 1 (by simp))⟩;rw[if_neg e,if_neg e,I6 _ (by omega),I6 _ (by omega),vh3 _ (by omega),show 126+1+2*(k+1)=127+2*(k+1)by omega,vl3 _ (by omega)];exact hg3 k hk hn;show qv _ 177027 _ 177016 _;rw[sA (by decide),sA (by decide),uz];refine⟨(CY 124).list,(IE.wrap .i64 (.add (.v 105) (.c 1))).af ry,fun j=>(ry (126+2*j)).int,fun j=>(ry (127+2*j)).int,?_,aaT,fun k hk hn=>?_⟩;show DV.l (ry 124).list::_=_;rw[Ks _ (by omega)];rfl;show(ry (126+2*(k+1))).int=_/\(ry (127+2*(k+1))).int=_;rw[vh3 _ (by omega),vl3 _ (by omega)];exact hg3 k hk hn
end
end Go.Proofs.YtohebioanhliiaaGreatDoor.av

/- Triangles, lines and points of one color. -/
import Derived.Test.YtohebioanhliiaaGreatDoorFM1
import Derived.Test.YtohebioanhliiaaGreatDoorFL2
set_option maxRecDepth 100000
set_option linter.unusedVariables false
set_option linter.unusedSimpArgs false
namespace Go.Proofs.YtohebioanhliiaaGreatDoor.aN
section
open Go.Sx Go
variable{σ:Nat->Int}{ds:List DV}{k:Nat}{az:List Kn}{e:aF}{n:Int}{rs:List DV}{cs:List (Nat×Nu)}{d:Int}{v:Nu}
def t246:aA:=
.ite (.or (.lt (.v 3) (.c 1)) (.le (.v 2) (.c 0))) (
.ret [.i (.v 0)]) (
.ite (.le (.v 3) (.v 2)) (
.ret [.i (.v 1)]) (
.ev (.call 156 (.c true) [.i (.wrap .i64 (.sub (.v 1) (.v 0))),.i (.v 2)] [.agg [.c i6,.c (.i .u64)]] 4) (
.ev (.call 198 (.c true) [.i (.v 4),.i (.v 5),.i (.v 3)] [.agg [.c i6,.c (.i .u64)],oI,oB] 6) (
.ev (.call 199 (.c true) [.i (.v 6),.i (.v 7)] [oI,oB] 11) (
.ret [.i (.wrap .i64 (.add (.v 0) (.v 11)))])))))
theorem ajN:TT PP 246=some ⟨246,t246,(rowOf 246).sub⟩:=by kernel_rfl
def t173:aA:=
.ev (.call 111 (.c true) [.i (.v 0),.i (.v 1),.i (.v 2),.i (.v 3),.i (.v 4),.i (.v 5),.i (.v 6),.i (.v 7),.i (.v 10),.i (.v 11),.i (.v 12),.i (.v 13),.i (.v 14),.i (.v 15),.i (.v 16),.i (.v 17),.i (.v 8),.i (.wrap .i64 (.sub (.v 8) (.v 18)))] [.agg [.c i6,.c i6,.c i6,.c i6,.c i6,.c i6,.c i6,.c i6],oI] 24) (
.ret [.i (.v 24),.i (.v 25),.i (.v 26),.i (.v 27),.i (.v 28),.i (.v 29),.i (.v 30),.i (.v 31),.i (.c 0),.b (.v 20)])
theorem ajO:TT PP 173=some ⟨173,t173,(rowOf 173).sub⟩:=by kernel_rfl
def t115:aA:=
.ev (.aH (.le (.c 0) (.len 0))) (
.ev (.aH (.le (.len 0) (.c 1759218604441))) (
.ev (.b8 2 (.rep (.len 0) [0,0,0,0,0,0,0,0,0,0])) (
.loop 115003 [.l 2,.i (.c 0)] [.s 279 [i6,i6,i6,i6,i6,i6,i6,i6,i6,.b],.c i6] 3 (
.ite (.lt (.v 4) (.len 0)) (
.ev (.aH (.le (.c 0) (.v 4))) (
.ev (.aH (.lt (.v 4) (.len 1))) (
.ev (.aH (.lt (.v 4) (.len 3))) (
.ev (.b8 4614 (.zK 3 (.v 4) [.inl (.get 0 (.v 4) 0),.inl (.get 0 (.v 4) 1),.inl (.get 0 (.v 4) 2),.inl (.get 0 (.v 4) 3),.inl (.get 0 (.v 4) 4),.inl (.get 0 (.v 4) 5),.inl (.get 0 (.v 4) 6),.inl (.get 0 (.v 4) 7),.inl (.c 0),.inr (.sM (.get 1 (.v 4) 0))])) (
.ev (.aH (r6 (.add (.v 4) (.c 1)))) (
.again 115003 [.l 4614,.i (.add (.v 4) (.c 1))])))))) (
.ret [.l 3])))))
theorem ajP:TT PP 115=some ⟨115,t115,(rowOf 115).sub⟩:=by kernel_rfl
def t117:aA:=
.ite (.eq (.len 0) (.c 0)) (
.ret [.nil,.nil]) (
.ev (.aH (.le (.c 0) (.len 0))) (
.ev (.aH (.le (.len 0) (.c 140737488355328))) (
.ev (.aH (.le (.len 0) (.c 2199023255552))) (
.ev (.b8 1025 (.rep (.len 0) [0,0,0,0,0,0,0,0])) (
.ev (.b8 2561 (.rep (.len 0) [0])) (
.loop 117005 [.l 1025,.l 2561,.i (.c 0)] [.s 76 fq,.s 4 [.b],.c i6] 2562 (
.ite (.lt (.v 2564) (.len 0)) (
.ev (.aH (.le (.c 0) (.v 2564))) (
.ev (.aH (.lt (.v 2564) (.len 2562))) (
.ev (.aH (.lt (.v 2564) (.len 2563))) (
.ev (.b8 7174 (.zK 2562 (.v 2564) [.inl (.get 0 (.v 2564) 0),.inl (.get 0 (.v 2564) 1),.inl (.get 0 (.v 2564) 2),.inl (.get 0 (.v 2564) 3),.inl (.get 0 (.v 2564) 4),.inl (.get 0 (.v 2564) 5),.inl (.get 0 (.v 2564) 6),.inl (.get 0 (.v 2564) 7)])) (
.ev (.b8 8198 (.set 2563 (.v 2564) 0 (.inr (.sM (.get 0 (.v 2564) 9))))) (
.ev (.aH (r6 (.add (.v 2564) (.c 1)))) (
.again 117005 [.l 7174,.l 8198,.i (.add (.v 2564) (.c 1))]))))))) (
.ret [.l 2562,.l 2563]))))))))
theorem ajQ:TT PP 117=some ⟨117,t117,(rowOf 117).sub⟩:=by kernel_rfl
def t100:aA:=
.ev (.aH (.or (.not (.not (.lt (.v 1) (.v 0)))) (r6 (.sub (.c 0) (.v 1))))) (
.ret [.b (.or (.lt (.v 1) (.v 0)) (.lt (.v 0) (.sub (.c 0) (.v 1))))])
theorem ad6:TT PP 100=some ⟨100,t100,(rowOf 100).sub⟩:=by kernel_rfl
def t157:aA:=
.ev (.call 101 (.c true) (iv 0 8) [.agg [.c i6,.c i6,.c i6,.c i6]] 9) (
.ev (.call 100 (.c true) [.i (.v 9),.i (.c 68719476736)] [oB] 13) (
.ite (.v 13) (
.ret [.b (.c false)]) (
.ev (.call 100 (.c true) [.i (.v 10),.i (.c 68719476736)] [oB] 14) (
.ite (.v 14) (
.ret [.b (.c false)]) (
.ev (.call 100 (.c true) [.i (.v 11),.i (.c 68719476736)] [oB] 15) (
.ite (.v 15) (
.ret [.b (.c false)]) (
.ev (.call 100 (.c true) [.i (.v 12),.i (.c 68719476736)] [oB] 16) (
.ite (.v 16) (
.ret [.b (.c false)]) (
.ite (.or (.lt (.v 4) (.c 0)) (.lt (.c 255) (.v 4))) (
.ret [.b (.c false)]) (
.ite (.or (.lt (.v 5) (.c 0)) (.lt (.c 255) (.v 5))) (
.ret [.b (.c false)]) (
.ite (.or (.lt (.v 6) (.c 0)) (.lt (.c 255) (.v 6))) (
.ret [.b (.c false)]) (
.ite (.or (.lt (.v 7) (.c 0)) (.lt (.c 255) (.v 7))) (
.ret [.b (.c false)]) (
.ret [.b (.c true)])))))))))))))
theorem ajR:TT PP 157=some ⟨157,t157,(rowOf 157).sub⟩:=by kernel_rfl
theorem aaN:([246,157,173,115,117].all fun k=>gP (rowOf k).sub)=true:=by kernel_rfl
theorem lG(h:k∈[246,157,173,115,117]):gP (rowOf k).sub=true:=mE.1 aaN k h
theorem aaO{p:Int}(hp:0<=p/\p<=255)(hn:gF n)(hd:gF d)(hg:Gf 246 [.i p,.i p,.i n,.i d] rs):rs=[.i p]:=by
 refine bF (R:=fun rs=>rs=[DV.i p]) ajN ?_ hg;refine eT (fun _=>cj rfl) (fun h1=>eT (fun _=>cj rfl) (fun h2=>?_));have h1:(decide (d<1)||decide (n<=0))=false:=h1;have h2:¬ d<=n:=Dc h2;rw[vF,sO,sO]at h1;have w0:IntKind.i64.wrap (p-p)=0:=by rw[Int.sub_self];rfl
 refine aY fun r1 g1=>?_;have g1:Gf 156 [.i (IntKind.i64.wrap (p-p)),.i n] r1:=aM aX (lG (by simp)) g1;rw[w0]at g1;have e1:=HG (by constructor<;>omega) hn g1;rw[Int.zero_mul]at e1;subst e1;refine aY fun r2 g2=>?_;have g2:Gf 198 [.i (dp 0),.i (eA 0),.i d] r2:=aM aX (lG (by simp)) g2;have e2:=QV (by constructor<;>omega) (by omega) hd.2 g2;rw[Int.zero_ediv]at e2;subst e2;refine aY fun r3 g3=>?_;have g3:Gf 199 [.i (dp 0),.i (eA 0)] r3:=aM aX (lG (by simp)) g3;have e3:=FM (by constructor<;>omega) g3;subst e3;refine cj ?_;show [DV.i (IntKind.i64.wrap (p+0))]=_;rw[Int.add_zero,gj (by constructor<;>omega)]
theorem jq(h:dX σ (.x v::az) ds):∃n xJ,ds = .i n::xJ/\v.has σ n/\dX σ az xJ:=by
 cases ds with
 |nil=>exact h.elim
 |cons d ds=>obtain⟨⟨n,rfl,hn⟩,h2⟩:=h;exact⟨n,ds,rfl,hn,h2⟩
theorem Wl(h:dX σ (.t::az) ds):∃d xJ,ds=d::xJ/\dX σ az xJ:=by
 cases ds with
 |nil=>exact h.elim
 |cons d ds=>exact⟨d,ds,rfl,h.2⟩
theorem QX(h:dX σ [] ds):ds=[]:=by
 cases ds with
 |nil=>rfl
 |cons d ds=>exact h.elim
theorem Wm:Told XF 246 adQ:=by
 intro σ mo p hp ds rs ha hg;obtain⟨k,hk,rfl⟩:=jz.1 hp;have hk:=tk.1 hk;obtain⟨a,ds,rfl,xa,h⟩:=jq (show dX σ (.x (.s k)::_) ds from ha);obtain⟨b,ds,rfl,hb,h⟩:=jq h;obtain⟨n,ds,rfl,hn,h⟩:=jq h;obtain⟨d,ds,rfl,hd,h⟩:=jq h;obtain rfl:=QX h;have xa:a=σ k:=xa;have hb:b=σ k:=hb;subst xa hb;obtain rfl:=aaO (mo.1 k hk) hn hd hg;exact⟨⟨_,rfl,rfl⟩,trivial⟩
theorem aaP:Told XF 67 p67:=by
 intro σ mo p hp ds rs ha hg;obtain rfl:=iE.1 hp;obtain⟨s0,ds,rfl,_,h⟩:=jq ha;obtain⟨s1,ds,rfl,h1,h⟩:=jq h;obtain⟨s2,ds,rfl,h2,h⟩:=jq h;obtain⟨s3,ds,rfl,h3,h⟩:=jq h;obtain⟨s4,ds,rfl,h4,h⟩:=jq h;obtain⟨v0,ds,rfl,k0,h⟩:=jq h;obtain⟨v1,ds,rfl,k1,h⟩:=jq h;obtain⟨v2,ds,rfl,k2,h⟩:=jq h;obtain⟨v3,ds,rfl,k3,h⟩:=jq h;obtain⟨v4,ds,rfl,_,h⟩:=jq h;obtain⟨v5,ds,rfl,_,h⟩:=jq h;obtain⟨v6,ds,rfl,_,h⟩:=jq h;obtain⟨v7,ds,rfl,_,h⟩:=jq h;obtain rfl:=QX h;have hs:wx [s0,s1,s2,s3,s4]:=fun j a b=>by
   obtain rfl|rfl|rfl|rfl:j=1\/j=2\/j=3\/j=4:=by omega
   exact h1;exact h2;exact h3;exact h4
 have hv:mr [v0,v1,v2,v3,v4,v5,v6,v7]:=fun j a=>by
   obtain rfl|rfl|rfl|rfl:j=0\/j=1\/j=2\/j=3:=by omega
   exact k0;exact k1;exact k2;exact k3
 obtain⟨x,rfl,hx⟩:=Ju hs hv (rs:=rs) hg;exact⟨⟨x,rfl,by have:=hx.1;omega,by have:=hx.2;omega⟩,trivial⟩
theorem ad7{m:Int}(hn: -m<=n/\n<=m)(hm:0<=m/\m<=4611686018427387904)(hg:Gf 100 [.i n,.i m] rs):rs=[.b false]:=by
 refine bF (R:=fun rs=>rs=[DV.b false]) ad6 ?_ hg;refine bA fun _=>cj ?_;show [DV.b (decide (m<n)||decide (n<0-m))]=_;rw[show(decide (m<n)||decide (n<0-m))=false by rw[vF,sO,sO];omega]
theorem FN{v:List Int}(h:∀j,j<4->-68719476736<=v.getD j 0/\v.getD j 0<=68719476736)(hc:∀j,j<4->0<=v.getD (4+j) 0/\v.getD (4+j) 0<=255)(hg:Gf 157 (cells 8 v) rs):rs=[.b true]:=by
 refine bF (R:=fun rs=>rs=[DV.b true]) ajR ?_ hg;refine aY fun r0 g0=>?_;have g0:Gf 101 (cells 8 v) r0:=aM aX (lG (by simp)) g0;obtain rfl:=FO g0;have far:∀ {j:Nat} {r:List DV},j<4->Gf 100 [.i (v.getD j 0),.i 68719476736] r->r=[.b false]:=fun {j r} hj g=>ad7 (h j hj) (by omega) g;have col:∀ {j:Nat},j<4->(decide (v.getD (4+j) 0<0)||decide (255<v.getD (4+j) 0))=false:=fun {j} hj=>by
   have:=hc j hj;rw[vF,sO,sO];omega
 refine aY fun r g=>?_;have g:=aM aX (lG (by simp)) g;obtain rfl:=far (j:=0) (by omega) g;refine vb rfl (aY fun r g=>?_);have g:=aM aX (lG (by simp)) g;obtain rfl:=far (j:=1) (by omega) g;refine vb rfl (aY fun r g=>?_);have g:=aM aX (lG (by simp)) g;obtain rfl:=far (j:=2) (by omega) g;refine vb rfl (aY fun r g=>?_);have g:=aM aX (lG (by simp)) g;obtain rfl:=far (j:=3) (by omega) g;exact vb rfl (vb (col (j:=0) (by omega)) (vb (col (j:=1) (by omega)) (vb (col (j:=2) (by omega)) (vb (col (j:=3) (by omega)) (cj rfl)))))
theorem aaQ{p q lo hi:Int}(hp:lo<=p/\p<=hi)(hq:lo<=q/\q<=hi)(wD: -1152921504606846976<=lo)(UK:hi<=1152921504606846976)(h0:0<=n)(h1:n<=d)(h2:1<=d):lo<=BJ p q n d/\BJ p q n d<=hi:=by
 unfold BJ;rw[gj (show gF (q-p)by constructor<;>omega)];have b:(0<=(q-p)*n/d/\(q-p)*n/d<=q-p)\/(q-p<=(q-p)*n/d/\(q-p)*n/d<=0):=by
   rcases Int.le_total p q with h|h;refine .inl ⟨uW (qJ (by omega) h0) (by omega),Int.ediv_le_of_le_mul (by omega) ?_⟩;exact oK h1 (by omega);have hx:=oK h1 (show 0<=p-q by omega);have hy:=qJ (show 0<=p-q by omega) h0;have e1:(q-p)*n = -((p-q)*n):=by rw[<- Int.neg_mul];congr 1;omega
   have e2:(q-p)*d = -((p-q)*d):=by rw[<- Int.neg_mul];congr 1;omega
   refine .inr ⟨Int.le_ediv_of_mul_le (by omega) (by omega),?_⟩;have:=Int.ediv_le_ediv (show 0<d by omega) (show(q-p)*n<=0 by omega);rwa[Int.zero_ediv]at this
 rw[gj (show gF (p+(q-p)*n/d)by constructor<;>omega)];omega
theorem Wn:Told XF 173 ad0:=by
 intro σ mo p hp ds rs ha hg;obtain rfl:=iE.1 hp;obtain⟨u0,ds,rfl,a0,h⟩:=jq ha;obtain⟨u1,ds,rfl,a1,h⟩:=jq h;obtain⟨u2,ds,rfl,a2,h⟩:=jq h;obtain⟨u3,ds,rfl,a3,h⟩:=jq h;obtain⟨u4,ds,rfl,a4,h⟩:=jq h;obtain⟨u5,ds,rfl,a5,h⟩:=jq h;obtain⟨u6,ds,rfl,a6,h⟩:=jq h;obtain⟨u7,ds,rfl,a7,h⟩:=jq h;obtain⟨n,ds,rfl,hn,h⟩:=jq h;obtain⟨b,dt,et,ht⟩:=Wl h;subst et;obtain⟨v0,ds,rfl,b0,h⟩:=jq ht;obtain⟨v1,ds,rfl,b1,h⟩:=jq h;obtain⟨v2,ds,rfl,b2,h⟩:=jq h;obtain⟨v3,ds,rfl,b3,h⟩:=jq h;obtain⟨v4,ds,rfl,b4,h⟩:=jq h;obtain⟨v5,ds,rfl,b5,h⟩:=jq h;obtain⟨v6,ds,rfl,b6,h⟩:=jq h;obtain⟨v7,ds,rfl,b7,h⟩:=jq h;obtain⟨m,ds,rfl,hm,h⟩:=jq h;obtain⟨x,dx,ex,hx⟩:=Wl h;subst ex;obtain⟨y,dy,ey,hy⟩:=Wl hx;subst ey;obtain rfl:=QX hy;have a4:u4=σ 0:=a4;have a5:u5=σ 1:=a5;have a6:u6=σ 2:=a6;have a7:u7=σ 3:=a7;have b4:v4=σ 0:=b4;have b5:v5=σ 1:=b5;have b6:v6=σ 2:=b6;have b7:v7=σ 3:=b7;have hn:0<=n/\n<=4611686018427387903:=hn;have hm: -4611686018427387903<=m/\m<=-1:=hm;refine bF (R:=dX σ _) ajO ?_ hg;refine aY fun r g=>?_;have g:=aM aX (lG (by simp)) g;have g:Gf 111 (cells 8 [u0,u1,u2,u3,u4,u5,u6,u7]++cells 8 [v0,v1,v2,v3,v4,v5,v6,v7]++[.i n,.i (IntKind.i64.wrap (n-m))]) r:=g;rw[gj (show gF (n-m)by constructor<;>omega)]at g;have c:=mo.1;have c0:=c 0 (by omega);have c1:=c 1 (by omega);have c2:=c 2 (by omega);have c3:=c 3 (by omega)
 have four:∀j:Nat,j<4->j=0\/j=1\/j=2\/j=3:=fun j h=>by omega
 have fu:∀ {r},Gf 157 (cells 8 [u0,u1,u2,u3,u4,u5,u6,u7]) r->r=[.b true]:=fun {r}=>FN (fun j hj=>by
   rcases four j hj with rfl|rfl|rfl|rfl;exact a0;exact a1;exact a2;exact a3) (fun j hj=>by
   rcases four j hj with rfl|rfl|rfl|rfl;exact a4▸c0;exact a5▸c1;exact a6▸c2;exact a7▸c3)
 have fv:∀ {r},Gf 157 (cells 8 [v0,v1,v2,v3,v4,v5,v6,v7]) r->r=[.b true]:=fun {r}=>FN (fun j hj=>by
   rcases four j hj with rfl|rfl|rfl|rfl;exact b0;exact b1;exact b2;exact b3) (fun j hj=>by
   rcases four j hj with rfl|rfl|rfl|rfl;exact b4▸c0;exact b5▸c1;exact b6▸c2;exact b7▸c3)
 rcases ad8 hn.1 (by omega) (by omega) (by omega) g with⟨_,_,rfl⟩|⟨h,_⟩;have mi:∀ {p q:Int},nX.has σ p->nX.has σ q->nX.has σ (BJ p q n (n-m)):=fun hp hq=>aaQ (show -68719476736<=_/\_<=68719476736 from hp) hq (by omega) (by omega) hn.1 (by omega) (by omega);have ms:∀ {p q:Int} {k:Nat},k<4->p=σ k->q=σ k->BJ p q n (n-m)=σ k:=fun {p q k} hk hp hq=>by
   subst hp hq;have:=c k hk;exact HJ (by constructor<;>omega)
 refine cj ⟨⟨_,rfl,mi a0 b0⟩,⟨_,rfl,mi a1 b1⟩,⟨_,rfl,mi a2 b2⟩,⟨_,rfl,mi a3 b3⟩,⟨_,rfl,ms (k:=0) (by omega) a4 b4⟩,⟨_,rfl,ms (k:=1) (by omega) a5 b5⟩,⟨_,rfl,ms (k:=2) (by omega) a6 b6⟩,⟨_,rfl,ms (k:=3) (by omega) a7 b7⟩,⟨_,rfl,?_⟩,trivial,trivial⟩;exact⟨Int.le_refl _,Int.le_refl _⟩;rcases h with h|h;have:=fu h;cases this;have:=fv h;cases this
theorem filled{L:List (List Int)}{i n:Nat}{row:List Int}(hl:L.length=n)(hi:i<n)(h:∀j,j<i->cG σ cs (L.getD j []))(hr:cG σ cs row) :
   (L.modify i fun _=>row).length=n/\∀j,j<i+1->cG σ cs ((L.modify i fun _=>row).getD j []):=by
 refine⟨by rw[List.length_modify,hl],fun j hj=>?_⟩;rw[cm,List.getElem?_modify];have hx:L[j]?=some (L.getD j []):=by rw[cm,eN (by omega)];rfl
 rw[hx];by_cases e:i=j;show cG σ cs ((some (if i=j then row else _)).getD []);rw[if_pos e];exact hr;show cG σ cs ((some (if i=j then row else L.getD j [])).getD []);rw[if_neg e];exact h j (by omega)
theorem BK{L:List (List Int)}(h:∀j,j<L.length->cG σ cs (L.getD j [])):∀r∈L,cG σ cs r:=by
 intro r hr;obtain⟨j,hj,rfl⟩:=List.getElem_of_mem hr;have:=h j hj;rwa[cm,eN hj]at this
theorem Yp{r:List Int}(h:cG σ cV r)(y:List Int)(cs:List (Nat×Nu))(hy:cG σ cs (r.getD 0 0::r.getD 1 0::r.getD 2 0::r.getD 3 0::r.getD 4 0::r.getD 5 0::r.getD 6 0::r.getD 7 0::y)) :
   cG σ (cV++cs) (r.getD 0 0::r.getD 1 0::r.getD 2 0::r.getD 3 0::r.getD 4 0::r.getD 5 0::r.getD 6 0::r.getD 7 0::y):=by
 intro c hc;rcases jS.1 hc with hc|hc
 . simp only[bC,gu,or_false]at hc;rcases hc with rfl|rfl|rfl|rfl|rfl|rfl|rfl|rfl
   all_goals exact h _ (by simp)
 exact hy c hc
theorem Wo:Told XF 115 ad1:=by
 intro σ mo p hp ds rs ha hg;obtain rfl:=iE.1 hp;cases ds with
 |nil=>exact ha.elim
 | cons d0 ds=>
   obtain⟨h0,ht⟩:=ha;have h0:∀r∈d0.list,cG σ cV r:=h0;obtain⟨d1,xJ,e,hn⟩:=Wl ht;subst e;obtain rfl:=QX hn;refine bF (R:=dX σ _) ajP ?_ hg;refine bA fun hlen=>bA fun _=>oX (nq (fun vs=>∃(L:List (List Int)) (i:Nat),vs=[.l L,.i i]/\L.length=d0.list.length/\i<=d0.list.length/\∀j,j<i->cG σ (cV++[(8,nD)]) (L.getD j [])) ⟨_,0,rfl,?_,by omega,fun j hj=>by omega⟩ ?_);show(List.replicate ((d0.list.length:Int)).toNat [0,0,0,0,0,0,0,0,0,0]).length=_;rw[List.length_replicate,pz];rintro _ ⟨L,i,rfl,hL,hi,hj⟩;refine eT (fun hc=>?_) (fun hc=>?_);have hc:(i:Int)<d0.list.length:=jY hc;have Et:i<d0.list.length:=by omega
   refine bA fun _=>bA fun _=>bA fun _=>oX (bA fun _=>?_);have hr:=h0 _ (ug (xs:=d0.list) (i:=(i:Int)) (by omega) hc);rw[pz]at hr;have hk:=Yp hr [0,if decide (cellAt d1.list (i:Int) 0≠0)=true then 1 else 0] [(8,nD)] (fun c hc=>by
     rw[iE.1 hc];exact⟨show(-4611686018427387903:Int)<=0 by decide,show(0:Int)<=4611686018427387903 by decide⟩)
   obtain⟨f1,f2⟩:=filled hL Et hj hk;exact lC ⟨_,i+1,rfl,f1,Et,f2⟩;have hc:¬ (i:Int)<d0.list.length:=Dc hc;refine cj ⟨?_,trivial⟩;exact BK (L:=L) fun j h=>hj j (by omega)
theorem Wp:Told XF 117 ad2:=by
 intro σ mo p hp ds rs ha hg;obtain rfl:=iE.1 hp;cases ds with
 |nil=>exact ha.elim
 | cons d0 ds=>
   obtain⟨h0,ht⟩:=ha;have h0:∀r∈d0.list,cG σ (cV++[(8,nD)]) r:=h0;obtain rfl:=QX ht;refine bF (R:=dX σ _) ajQ ?_ hg;refine eT (fun _=>cj ⟨show ∀r∈([]:List (List Int)),cG σ cV r from fun r hr=>(by cases hr),trivial,trivial⟩) (fun _=>?_);refine bA fun hlen=>bA fun _=>bA fun _=>oX (oX (nq (fun vs=>∃(L M:List (List Int)) (i:Nat),vs=[.l L,.l M,.i i]/\L.length=d0.list.length/\i<=d0.list.length/\∀j,j<i->cG σ cV (L.getD j [])) ⟨_,_,0,rfl,?_,by omega,fun j hj=>by omega⟩ ?_));show(List.replicate ((d0.list.length:Int)).toNat [0,0,0,0,0,0,0,0]).length=_;rw[List.length_replicate,pz];rintro _ ⟨L,M,i,rfl,hL,hi,hj⟩;refine eT (fun hc=>?_) (fun hc=>?_);have hc:(i:Int)<d0.list.length:=jY hc;have Et:i<d0.list.length:=by omega
   refine bA fun _=>bA fun _=>bA fun _=>oX (oX (bA fun _=>?_));have hr:=h0 _ (ug (xs:=d0.list) (i:=(i:Int)) (by omega) hc);rw[pz]at hr;have hv:cG σ cV (d0.list.getD i []):=fun c hc=>hr c (zO _ hc);have hk:=Yp hv [] [] (fun c hc=>by cases hc);rw[vM]at hk;obtain⟨f1,f2⟩:=filled hL Et hj hk;exact lC ⟨_,_,i+1,rfl,f1,Et,f2⟩;have hc:¬ (i:Int)<d0.list.length:=Dc hc;refine cj ⟨?_,trivial,trivial⟩;exact BK (L:=L) fun j h=>hj j (by omega)
theorem dh{L:Fk}{ps:List (List Kn×List Kn)}(h:Told XF k ps)(hL:Told.all XF L):Told.all XF ((k,ps)::L):=fun e he=>by
 rcases bC.1 he with rfl|he;exact h;exact hL e he
theorem mQ:Told.all XF []:=fun e he=>by cases he
theorem ad9:Told.all XF f73:=dh aaP (dh Wn (dh Wo (dh Wp mQ)))
theorem aaR:Told XF 73 p73:=gp b73 ad9
theorem QY:Told.all XF f246:=dh Wm mQ
theorem QZ:Told.all XF f245:=dh (gp ajp QY) QY
theorem Jv:Told.all XF f205:=dh (gp ajq QZ) QZ
theorem Jw:Told.all XF f172:=dh (gp ajr Jv) (dh (gp ajs Jv) Jv)
theorem aaS:Told.all XF f113:=dh (gp ajt Jw) (dh (gp aju Jw) Jw)
theorem Q0:Told XF 72 p72:=gp b72 aaS
theorem Jx:Told.all XF f106:=dh (gp ajv mQ) (dh (gp ajw mQ) mQ)
theorem Q1:Told.all XF f104:=dh (gp adX Jx) (dh (gp adY Jx) Jx)
theorem aaT:Told.all XF f103:=dh (gp ajx Q1) Q1
theorem Q2:Told XF 69 p69:=gp b69 aaT
theorem Yq:Told.all XF f69:=dh Q2 (dh Q0 mQ)
theorem aaU(aaV:Told XF 177 aaJ):Told XF 74 Wg:=by
 have Wq:=gp ajA (dh aaV mQ);exact gp b74 (dh Wq (dh (gp ajz Yq) (dh (gp ajy Yq) mQ)))
def ch(i:IE)(a s:Nat):IE:=.ju i 0 (.v a) (.ju i 1 (.v (a+s)) (.ju i 2 (.v (a+2*s)) (.ju i 3 (.v (a+3*s)) (.v (a+4*s)))))
def up(k:Nat):IE:=.wrap .i64 (.add (.v k) (.c 1))
def ag(i b r:Nat):List DE:=(List.range 5).flatMap fun m=>[.i (.ju (.v i) m (.v r) (.v (b+2*m))),.i (.ju (.v i) m (.v (r+1)) (.v (b+1+2*m)))]
theorem uh{i:IE}{a s:Nat}(hk:k<5)(hi:i.af e=(k:Int)):(ch i a s).af e=(e (a+k*s)).int:=by
 unfold ch;simp only[IE.af,hi]
 match k,hk with
 |0,_=>simp
 |1,_=>simp
 |2,_=>simp
 |3,_=>simp
 |4,_=>simp
def t177:aA:=
.ev (.call 221 (.c true) (iv 0 21++iv 22 4) [.one (.s 344 [i6,i6,i6])] 30) (
.ite (.eq (.len 30) (.c 0)) (
.ret [.nil]) (
.ev (.call 222 (.c true) (iv 0 21) [.agg [.c i6,.c i6,.c i6,.c i6,.c i6,.c i6,.c i6,.c i6,.c i6,.c i6,.c i6,.c i6,.c i6,.c i6,.c i6,.c i6,.c i6,.c i6,.c i6,.c i6,.c i6,.c i6]] 31) (
.ev (.call 223 (.c true) (iv 31 22) [.agg [.c i6,.c (.i .u64),.c i6,.c (.i .u64),.c i6,.c (.i .u64),.c i6,.c i6,.c (.i .u64),.c i6,.c (.i .u64),.c i6,.c (.i .u64),.c i6,.c i6,.c (.i .u64),.c i6,.c (.i .u64),.c i6,.c (.i .u64),.c i6,.c i6,.c (.i .u64),.c i6,.c (.i .u64),.c i6,.c (.i .u64),.c i6,.c i6,.c (.i .u64),.c i6,.c (.i .u64),.c i6,.c (.i .u64),.c i6]] 53) (
.loop 177007 [.nil,.i (.c 0)] [.s 74 fq,.c i6] 89 (
.ite (.lt (.v 90) (.len 30)) (
.ev (.aH (.le (.c 0) (.v 90))) (
.loop 177011 [.i (.c 0),.i (.c 0),.i (.c 0),.i (.c 0),.i (.c 0),.i (.c 0),.i (.c 0),.i (.c 0),.i (.c 0),.i (.c 0),.i (.c 0)] [.c i6,.c i6,.c (.i .u64),.c i6,.c (.i .u64),.c i6,.c (.i .u64),.c i6,.c (.i .u64),.c i6,.c (.i .u64)] 93 (
.ite (.lt (.v 93) (.c 5)) (
.ev (.aH (.le (.c 0) (.v 93))) (
.ev (.call 224 (.c true) (((List.range 7).map fun j=>.i (ch (.v 93) (53+j) 7))++[.i (.get 30 (.v 90) 1),.i (.get 30 (.v 90) 0)]) [.agg [.c i6,.c (.i .u64)]] 4200) (
.again 177011 (.i (up 93)::ag 93 94 4200)))) (
.loop 177016 [.l 89,.i (.get 30 (.v 90) 1),.i (.v 94),.i (.v 95),.i (.v 96),.i (.v 97),.i (.v 98),.i (.v 99),.i (.v 100),.i (.v 101),.i (.v 102),.i (.v 103)] [.s 74 fq,.c i6,.c i6,.c (.i .u64),.c i6,.c (.i .u64),.c i6,.c (.i .u64),.c i6,.c (.i .u64),.c i6,.c (.i .u64)] 104 (
.ite (.lt (.v 105) (.get 30 (.v 90) 2)) (
.ev (.call 225 (.c true) (iv 53 7++[.i (.v 106),.i (.v 107)]) [oI] 117) (
.loop 177021 [.i (.c 0),.i (.c 0),.i (.c 0),.i (.c 0),.i (.c 0)] [.c i6,.c i6,.c i6,.c i6,.c i6] 118 (
.ite (.lt (.v 118) (.c 4)) (
.ev (.aH (.le (.c 0) (up 118))) (
.ev (.aH (.lt (up 118) (.c 5))) (
.ev (.aH (.le (.c 0) (.v 118))) (
.ev (.call 225 (.c true) (((List.range 7).map fun j=>.i (ch (up 118) (53+j) 7))++[.i (ch (up 118) 106 2),.i (ch (up 118) 107 2)]) [oI] 4731) (
.again 177021 (.i (up 118)::(List.range 4).map fun m=>.i (.ju (.v 118) m (.v 4731) (.v (119+m))))))))) (
.ev (.b8 123 (.lit [[.inl (.v 105),.inl (.get 30 (.v 90) 0),.inl (.min (.max (.wrap .i64 (.add (.v 117) (.v 21))) (.c 0)) (.c 16777215)),.inl (.v 119),.inl (.v 120),.inl (.v 121),.inl (.v 122),.inl (.c 64)]])) (
.ev (.aH (.le (.add (.len 104) (.len 123)) (.c 2199023255552))) (
.ev (.b8 124 (.app 104 123)) (
.loop 177027 [.i (.c 0),.i (.v 106),.i (.v 107),.i (.v 108),.i (.v 109),.i (.v 110),.i (.v 111),.i (.v 112),.i (.v 113),.i (.v 114),.i (.v 115)] [.c i6,.c i6,.c (.i .u64),.c i6,.c (.i .u64),.c i6,.c (.i .u64),.c i6,.c (.i .u64),.c i6,.c (.i .u64)] 125 (
.ite (.lt (.v 125) (.c 5)) (
.ev (.aH (.le (.c 0) (.v 125))) (
.ev (.call 220 (.c true) [.i (ch (.v 125) 126 2),.i (ch (.v 125) 127 2),.i (ch (.v 125) 55 7),.i (ch (.v 125) 56 7)] [.agg [.c i6,.c (.i .u64)]] 4232) (
.again 177027 (.i (up 125)::ag 125 126 4232)))) (
.again 177016 [.l 124,.i (.wrap .i64 (.add (.v 105) (.c 1))),.i (.v 126),.i (.v 127),.i (.v 128),.i (.v 129),.i (.v 130),.i (.v 131),.i (.v 132),.i (.v 133),.i (.v 134),.i (.v 135)]))))))))) (
.again 177007 [.l 104,.i (.wrap .i64 (.add (.v 90) (.c 1)))])))))) (
.ret [.l 89]))))))
theorem ajS:TT PP 177=some ⟨177,t177,(rowOf 177).sub⟩:=by kernel_rfl
def Pl(A:Int)(σ:Nat->Int)(e:aF):Prop:=∀k,k<4->(e (60+7*k)).int=dp (A*σ k)/\(e (61+7*k)).int=eA (A*σ k)/\(e (62+7*k)).int=0/\(e (63+7*k)).int=0/\(e (64+7*k)).int=0/\(e (65+7*k)).int=0/\(e (66+7*k)).int=A
theorem Pl.fT{A:Int}{e':aF}(h:Pl A σ e)(he:∀k,k<89->e' k=e k):Pl A σ e':=by
 intro k hk;obtain⟨h0,h1,h2,h3,h4,h5,h6⟩:=h k hk;refine⟨?_,?_,?_,?_,?_,?_,?_⟩;rw[he _ (by omega)];exact h0;rw[he _ (by omega)];exact h1;rw[he _ (by omega)];exact h2;rw[he _ (by omega)];exact h3;rw[he _ (by omega)];exact h4;rw[he _ (by omega)];exact h5;rw[he _ (by omega)];exact h6
def BL(h l:Nat->Int):List DV:=(List.range 5).flatMap fun m=>[.i (h m),.i (l m)]
theorem qY(h l:Nat->Int):(BL h l).length=10:=rfl
theorem uO{h l:Nat->Int}{m:Nat}(hm:m<5):(BL h l).getD (2*m) (.i 0) = .i (h m)/\(BL h l).getD (2*m+1) (.i 0) = .i (l m):=by
 match m,hm with
 |0,_=>exact⟨rfl,rfl⟩
 |1,_=>exact⟨rfl,rfl⟩
 |2,_=>exact⟨rfl,rfl⟩
 |3,_=>exact⟨rfl,rfl⟩
 |4,_=>exact⟨rfl,rfl⟩
theorem Q3{i b r:Nat}{n:Nat}(hi:(e i).int=(n:Int)):(ag i b r).map (DE.af e)=BL (fun m=>if n=m then(e r).int else(e (b+2*m)).int) (fun m=>if n=m then(e (r+1)).int else(e (b+1+2*m)).int):=by
 have hc:∀m:Nat,((n:Int)=(m:Int))↔n=m:=fun m=>by omega
 simp only[ag,BL,List.map_flatMap,kQ,pj,DE.af,IE.af,hi,hc]
def Q4(A:Int)(σ:Nat->Int)(h l:Nat->Int)(n:Int):Prop:=∀k:Nat,k<4->(k:Int)+1<n->h (k+1)=dp (A*σ k)/\l (k+1)=eA (A*σ k)
theorem Yr:∀ {az:List Kn} {ds:List DV} {j:Nat},dX σ az ds->az[j]?=some (.x v)->∃n,ds[j]?=some (.i n)/\v.has σ n
 | [],_,j,_,e=>by cases e
 |a::az,[],j,h,_=>h.elim
 | a::az,d::ds,0,h,e=>by
   cases e;obtain⟨⟨n,rfl,hn⟩,_⟩:=h;exact⟨n,rfl,hn⟩
 |a::az,d::ds,j+1,h,e=>Yr (az:=az) (ds:=ds) (j:=j) h.2 e
theorem z6{j:Nat}(h:dX σ az ds)(e:az[j]?=some (.x (.s k))):nm ds j=σ k:=by
 obtain⟨n,h1,h2⟩:=Yr h e;have hj:j<ds.length:=by
   rcases oH j ds.length with h|h;exact h;rw[uU h]at h1;cases h1
 unfold nm;rw[fH hj,cm,h1];exact h2
section
variable {A:Int}{σ:Nat->Int}{E:Nat->List DV->List DV->Prop}{Ps:List (Int->Prop)}
variable{F:Nat->List DV->Prop}{G:List DV->Prop}{id:Nat}{vs:List DV}
theorem ad'(hA:1<=A/\A<=9223372036854775807)(mo:PS σ){k:Nat}(hk:k<4):pU (A*σ k):=by
 have h:=mo.1 k hk;have h1:=qk hA.2 h.1;have h2:=qJ (show 0<=A by omega) h.1;constructor<;>omega
theorem BM{a b:DV}{l m:List DV}(h1:a=b)(h2:l=m):a::l=b::m:=by rw[h1,h2]
theorem FP{uX:Nat}(h:id≠uX):kO F uX G id vs=F id vs:=by
 unfold kO;rw[if_neg h]
theorem Q5:kO F id G id vs=G vs:=by
 unfold kO;rw[if_pos rfl]
theorem HK{n:Nat}{f:Nat->Int}{j:Nat}(hj:j<n):nm ((List.range n).map fun k=>.i (f k)) j=f j:=by
 unfold nm;rw[fH (by simpa using hj),cm,iS,List.getElem?_range hj];rfl
theorem Wr:Told XF 177 aaJ:=by
 intro σ mo p hp ds rs ha hg;obtain rfl:=iE.1 hp;have Ws:∀k,k<4->nm ds (3+k)=σ k/\nm ds (7+(3+k))=σ k/\nm ds (14+(3+k))=σ k:=fun k hk=>by
   match k,hk with
   |0,_=>exact⟨z6 ha rfl,z6 ha rfl,z6 ha rfl⟩
   |1,_=>exact⟨z6 ha rfl,z6 ha rfl,z6 ha rfl⟩
   |2,_=>exact⟨z6 ha rfl,z6 ha rfl,z6 ha rfl⟩
   |3,_=>exact⟨z6 ha rfl,z6 ha rfl,z6 ha rfl⟩
 refine bF (R:=dX σ _) ajS ?_ hg;unfold t177;refine aY fun r30 Ys=>?_;have Ys:=aM aX (bW (by simp)) Ys;refine FQ (fun _=>cj ⟨show ∀r∈([]:List (List Int)),cG σ cF r from fun r hr=>(by cases hr),trivial⟩) (fun da=>?_);refine aY fun r31 g31=>?_;have g31:=aM aX (bW (by simp)) g31;obtain⟨l31,n31,ar0,ar1,arz,aaW⟩:=aaM g31;obtain⟨e1,mS,o1,w1⟩:=yK (a8.au 0 ds) 30 r30;rw[<- mS]at da g31 aaW arz ⊢;have ear:ar ((iv 0 21).map (DE.af e1))=ar ds:=by
   show Ar (e1 0).int (e1 1).int (e1 7).int (e1 8).int (e1 14).int (e1 15).int=_;rw[o1 0 (by omega),o1 1 (by omega),o1 7 (by omega),o1 8 (by omega),o1 14 (by omega),o1 15 (by omega)]
 have hA0:ar r31≠0:=fun h0=>by
   have h1:=arz h0;rw[ear]at h1;have h2:=QS (show ar ((iv 0 21++iv 22 4).map (DE.af (a8.au 0 ds)))=0 from h1) Ys;subst h2;have:=w1 0 (by simp);refine da ?_;show((e1 30).list.length:Int)=0;rw[show e1 30 = .l []from this];rfl
 obtain⟨A,hA⟩:∃A,A=ar r31:=⟨_,rfl⟩;rw[<- hA]at ar0 ar1 n31 hA0;have hA1:1<=A/\A<=9223372036854775807:=⟨by omega,ar1⟩;obtain⟨e2,sD,o2,w2⟩:=yK e1 31 r31;rw[<- sD];refine aY fun r53 g53=>?_;have g53:=aM aX (bW (by simp)) g53;have hq:∀k,k<22->nm ((iv 31 22).map (DE.af e2)) k=nm r31 k:=fun k hk=>by
   rw[show(iv 31 22).map (DE.af e2)=(List.range 22).map fun k=>.i (e2 (31+k)).int from rfl,HK hk,w2 k (by omega)];unfold nm;rw[fH (by omega)]
 have c0:∀k,k<4->nm r31 (3+k)=σ k/\nm r31 (7+(3+k))=σ k/\nm r31 (14+(3+k))=σ k:=fun k hk=>by
   have nn:∀j,j<21->nm ((iv 0 21).map (DE.af e1)) j=nm ds j:=fun j hj=>by
     rw[show(iv 0 21).map (DE.af e1)=(List.range 21).map fun k=>.i (e1 (0+k)).int from rfl,HK hj,fR,o1 j (by omega)]
   obtain⟨q0,q1,q2⟩:=Ws k hk;exact aaW (3+k) (by omega) (by omega) (σ k) (by rw[nn _ (by omega)];exact q0) (by rw[nn _ (by omega)];exact q1) (by rw[nn _ (by omega)];exact q2)
 obtain⟨b0,b1,b2,b3,b4,b5,b6,h53⟩:=QW (p:=σ) mo.1 (fun k hk=>by
   obtain⟨q0,q1,q2⟩:=c0 k hk;exact⟨by rw[hq _ (by omega)];exact q0,by rw[hq _ (by omega),show 10+k=7+(3+k)by omega];exact q1,by rw[hq _ (by omega),show 17+k=14+(3+k)by omega];exact q2⟩) g53
 have hAr:ar ((iv 31 22).map (DE.af e2))=A:=by
   rw[hA];unfold ar;rw[hq 0 (by omega),hq 1 (by omega),hq 7 (by omega),hq 8 (by omega),hq 14 (by omega),hq 15 (by omega)]
 rw[hAr,hq 21 (by omega),n31]at h53;obtain⟨e3,u9,o3,w3⟩:=yK e2 53 r53;rw[<- u9];have hP:Pl A σ e3:=by
   subst h53;intro k hk
   match k,hk with
   |0,_=>exact⟨congrArg DV.int (w3 7 (by simp)),congrArg DV.int (w3 8 (by simp)),congrArg DV.int (w3 9 (by simp)),congrArg DV.int (w3 10 (by simp)),congrArg DV.int (w3 11 (by simp)),congrArg DV.int (w3 12 (by simp)),congrArg DV.int (w3 13 (by simp))⟩
   |1,_=>exact⟨congrArg DV.int (w3 14 (by simp)),congrArg DV.int (w3 15 (by simp)),congrArg DV.int (w3 16 (by simp)),congrArg DV.int (w3 17 (by simp)),congrArg DV.int (w3 18 (by simp)),congrArg DV.int (w3 19 (by simp)),congrArg DV.int (w3 20 (by simp))⟩
   |2,_=>exact⟨congrArg DV.int (w3 21 (by simp)),congrArg DV.int (w3 22 (by simp)),congrArg DV.int (w3 23 (by simp)),congrArg DV.int (w3 24 (by simp)),congrArg DV.int (w3 25 (by simp)),congrArg DV.int (w3 26 (by simp)),congrArg DV.int (w3 27 (by simp))⟩
   |3,_=>exact⟨congrArg DV.int (w3 28 (by simp)),congrArg DV.int (w3 29 (by simp)),congrArg DV.int (w3 30 (by simp)),congrArg DV.int (w3 31 (by simp)),congrArg DV.int (w3 32 (by simp)),congrArg DV.int (w3 33 (by simp)),congrArg DV.int (w3 34 (by simp))⟩
 clear u9 w3 o3 sD w2 o2 mS w1 o1 hq c0 ear h53 g53 aaW arz g31 Ys da Ws;refine nq (fun vs=>∃(out:List (List Int)) (i:Int),vs=[.l out,.i i]/\∀r∈out,cG σ cF r) ⟨[],0,rfl,fun r hr=>(by cases hr)⟩ ?_;rintro _ ⟨out,si,rfl,ho⟩;obtain⟨e4,he4,o4,w4⟩:=yK e3 89 [.l out,.i si];rw[<- he4];have hP4:=hP.fT o4;have v89:e4 89 = .l out:=w4 0 (by simp);refine eT (fun _=>bA fun _=>?_) (fun _=>cj ⟨?_,trivial⟩)
 rotate_left
 show ∀r∈(e4 89).list,cG σ cF r;rw[v89];exact ho;refine nq (fun vs=>∃(n:Nat) (h l:Nat->Int),vs = .i n::BL h l/\Q4 A σ h l n) ⟨0,fun _=>0,fun _=>0,rfl,fun k hk h=>by omega⟩ ?_;rintro _ ⟨n,h,l,rfl,hg4⟩;obtain⟨e5,he5,o5,w5⟩:=yK e4 93 (.i n::BL h l);rw[<- he5];have hP5:=hP4.fT fun k hk=>o5 k (by omega);have v93:e5 93 = .i n:=w5 0 (by simp);have vh:∀m,m<5->e5 (94+2*m) = .i (h m):=fun m hm=>by
   have:=w5 (1+2*m) (by rw[pf,qY];omega);rw[show 94+2*m=93+(1+2*m)by omega,this,Nat.add_comm 1 (2*m)];exact(uO hm).1
 have vl:∀m,m<5->e5 (95+2*m) = .i (l m):=fun m hm=>by
   have:=w5 (1+(2*m+1)) (by rw[pf,qY];omega);rw[show 95+2*m=93+(1+(2*m+1))by omega,this,Nat.add_comm 1 (2*m+1)];exact(uO hm).2
 refine mC (fun cM=>?_) (fun my=>?_);have cM:(e5 93).int<5:=cM;rw[v93]at cM;have cM:(n:Int)<5:=cM;refine bA fun _=>aY fun r g=>?_;have g:=aM aX (bW (by simp)) g;have hd:(IE.v 93).af e5=(n:Int):=by show(e5 93).int=_;rw[v93];rfl
 have key:∀k,k<4->n=k+1->r=[.i (dp (A*σ k)),.i (eA (A*σ k))]:=fun k hk hn=>by
   obtain⟨p0,p1,p2,p3,p4,p5,p6⟩:=hP5 k hk;have cd:∀j,(ch (.v 93) (53+j) 7).af e5=(e5 (60+j+7*k)).int:=fun j=>by
     rw[uh (by omega) hd,hn,show 53+j+(k+1)*7=60+j+7*k by omega]
   refine ad5 (n:=A) (x:=(IE.get 30 (.v 90) 1).af e5) (y:=(IE.get 30 (.v 90) 0).af e5) (ad' hA1 mo hk) ?_;have ea:(((List.range 7).map fun j=>DE.i (ch (.v 93) (53+j) 7))++[DE.i (.get 30 (.v 90) 1),DE.i (.get 30 (.v 90) 0)]).map (DE.af e5)=[DV.i (dp (A*σ k)),.i (eA (A*σ k)),.i 0,.i 0,.i 0,.i 0,.i A,.i ((IE.get 30 (.v 90) 1).af e5),.i ((IE.get 30 (.v 90) 0).af e5)]:=by
     show [DV.i ((ch (.v 93) 53 7).af e5),.i ((ch (.v 93) 54 7).af e5),.i ((ch (.v 93) 55 7).af e5),.i ((ch (.v 93) 56 7).af e5),.i ((ch (.v 93) 57 7).af e5),.i ((ch (.v 93) 58 7).af e5),.i ((ch (.v 93) 59 7).af e5),_,_]=_;rw[(cd 0).trans p0,(cd 1).trans p1,(cd 2).trans p2,(cd 3).trans p3,(cd 4).trans p4,(cd 5).trans p5,(cd 6).trans p6];rfl
   rw[ea]at g;exact g
 obtain⟨e6,he6,o6,w6⟩:=yK e5 4200 r;rw[<- he6];have aea:(e6 93).int=(n:Int):=by rw[o6 _ (by omega),v93];rfl
 refine lC ⟨n+1,_,_,BM ?_ (Q3 aea),fun k hk hn=>?_⟩;show DV.i (IntKind.i64.wrap ((e6 93).int+1))=_;rw[aea,gj (show gF ((n:Int)+1)by constructor<;>omega)];rfl;by_cases e:n=k+1;have hr:=key k hk e;subst hr;rw[if_pos e,if_pos e];exact⟨congrArg DV.int (w6 0 (by simp)),congrArg DV.int (w6 1 (by simp))⟩;rw[if_neg e,if_neg e,o6 _ (by omega),o6 _ (by omega),vh _ (by omega),show 94+1+2*(k+1)=95+2*(k+1)by omega,vl _ (by omega)];exact hg4 k hk (by omega)
 . have my:5<=(e5 93).int:=my;rw[v93]at my;have my:5<=(n:Int):=my;refine nq (fun vs=>∃(out:List (List Int)) (x:Int) (h l:Nat->Int),vs = .l out :: .i x::BL h l/\(∀r∈out,cG σ cF r)/\Q4 A σ h l 5) ⟨out,(IE.get 30 (.v 90) 1).af e5,fun m=>(e5 (94+2*m)).int,fun m=>(e5 (95+2*m)).int,?_,ho,fun k hk _=>?_⟩ ?_;show DV.l (e5 89).list::_=_;rw[o5 89 (by omega),v89];rfl;show(e5 (94+2*(k+1))).int=_/\(e5 (95+2*(k+1))).int=_;rw[vh _ (by omega),vl _ (by omega)];exact hg4 k hk (by omega);rintro _ ⟨aaX,x,h2,l2,rfl,ho2,hg2⟩;obtain⟨e7,he7,o7,w7⟩:=yK e5 104 (.l aaX :: .i x::BL h2 l2);rw[<- he7];have hP7:=hP5.fT fun k hk=>o7 k (by omega);have aaY:e7 104 = .l aaX:=w7 0 (by simp);have v105:e7 105 = .i x:=w7 1 (by simp);have vh2:∀m,m<5->e7 (106+2*m) = .i (h2 m):=fun m hm=>by
     have:=w7 (1+(1+2*m)) (by rw[pf,pf,qY];omega);rw[show 106+2*m=104+(1+(1+2*m))by omega,this,show 1+(1+2*m)=2*m+1+1 by omega];exact(uO hm).1
   have vl2:∀m,m<5->e7 (107+2*m) = .i (l2 m):=fun m hm=>by
     have:=w7 (1+(1+(2*m+1))) (by rw[pf,pf,qY];omega);rw[show 107+2*m=104+(1+(1+(2*m+1)))by omega,this,show 1+(1+(2*m+1))=2*m+1+1+1 by omega];exact(uO hm).2
   refine eT (fun _=>?_) (fun _=>?_)
   rotate_left
   show kO _ 177016 _ 177007 _;rw[FP (by decide),FP (by decide),Q5];refine⟨aaX,(IE.wrap .i64 (.add (.v 90) (.c 1))).af e7,?_,ho2⟩;show [DV.l (e7 104).list,_]=_;rw[aaY];rfl;refine aY fun r8 _=>?_;obtain⟨e8,he8,o8,w8⟩:=yK e7 117 r8;rw[<- he8];refine nq (fun vs=>∃(n:Nat) (c:Nat->Int),vs = .i n::(List.range 4).map (fun m=>.i (c m))/\∀k,k<4->k<n->c k=σ k) ⟨0,fun _=>0,rfl,fun k _ h=>by omega⟩ ?_;rintro _ ⟨n9,c,rfl,hc⟩;obtain⟨e9,he9,o9,w9⟩:=yK e8 118 (.i n9::(List.range 4).map (fun m=>.i (c m)));rw[<- he9];have o97:∀k,k<117->e9 k=e7 k:=fun k hk=>by rw[o9 k (by omega),o8 k hk]
   have hP9:=hP7.fT fun k hk=>o97 k (by omega);have Q6:e9 118 = .i n9:=w9 0 (by simp);have vc:∀m,m<4->e9 (119+m) = .i (c m):=fun m hm=>by
     have:=w9 (1+m) (by simp;omega);rw[show 119+m=118+(1+m)by omega,this]
     match m,hm with
     |0,_=>rfl
     |1,_=>rfl
     |2,_=>rfl
     |3,_=>rfl
   refine mC (fun cM=>?_) (fun Q7=>?_);have cM:(e9 118).int<4:=cM;rw[Q6]at cM;have cM:(n9:Int)<4:=cM;have h9:n9<4:=by omega
   have hd:(up 118).af e9=((n9+1:Nat):Int):=by
     show IntKind.i64.wrap ((e9 118).int+1)=_;rw[Q6];show IntKind.i64.wrap ((n9:Int)+1)=_;rw[gj (show gF ((n9:Int)+1)by constructor<;>omega)];omega
   refine bA fun _=>bA fun _=>bA fun _=>aY fun r g=>?_;have g:=aM aX (bW (by simp)) g;obtain⟨p0,p1,p2,p3,p4,p5,p6⟩:=hP9 n9 h9;have ch6:(ch (up 118) (53+6) 7).af e9=A:=by
     rw[uh (by omega) hd,show 53+6+(n9+1)*7=66+7*n9 by omega];exact p6
   have cha:(ch (up 118) 106 2).af e9=dp (A*σ n9):=by
     rw[uh (by omega) hd,show 106+(n9+1)*2=106+2*(n9+1)by omega,o97 _ (by omega),vh2 _ (by omega)];exact(hg2 n9 h9 (by omega)).1
   have chb:(ch (up 118) 107 2).af e9=eA (A*σ n9):=by
     rw[uh (by omega) hd,show 107+(n9+1)*2=107+2*(n9+1)by omega,o97 _ (by omega),vl2 _ (by omega)];exact(hg2 n9 h9 (by omega)).2
   have hr:r=[.i (σ n9)]:=by
     refine Wj (n:=A) hA1.1 hA1.2 (mo.1 n9 h9) (a0:=.i ((ch (up 118) 53 7).af e9)) (a1:=.i ((ch (up 118) 54 7).af e9)) (a2:=.i ((ch (up 118) 55 7).af e9)) (a3:=.i ((ch (up 118) 56 7).af e9)) (a4:=.i ((ch (up 118) 57 7).af e9)) (a5:=.i ((ch (up 118) 58 7).af e9)) ?_;rw[<- cha,<- chb,<- ch6];exact g
   subst hr;obtain⟨Na,aaZ,o10,w10⟩:=yK e9 4731 [.i (σ n9)];rw[<- aaZ];refine lC ⟨n9+1,fun m=>if n9=m then(Na 4731).int else(Na (119+m)).int,BM ?_ ?_,fun k hk hn=>?_⟩;show DV.i (IntKind.i64.wrap ((Na 118).int+1))=_;rw[o10 _ (by omega),Q6];show DV.i (IntKind.i64.wrap ((n9:Int)+1))=_;rw[gj (show gF ((n9:Int)+1)by constructor<;>omega)];rfl;have Gp:∀m:Nat,((n9:Int)=(m:Int))↔n9=m:=fun m=>by omega
   have v10:(Na 118).int=(n9:Int):=by rw[o10 _ (by omega),Q6];rfl
   simp only[List.map_map];refine zF fun m _=>?_;simp only[Function.comp,DE.af,IE.af,v10,Gp];show(if n9=k then(Na 4731).int else(Na (119+k)).int)=σ k;by_cases e:n9=k;rw[if_pos e,<- e];exact congrArg DV.int (w10 0 (by simp));rw[if_neg e,o10 _ (by omega),vc k hk];exact hc k hk (by omega);have Q7:4<=(e9 118).int:=Q7;rw[Q6]at Q7;have Q7:4<=(n9:Int):=Q7;refine oX (bA fun _=>oX ?_);obtain⟨Na,aaZ,o10,w10⟩:=HL e9 123 (.l (ew.af e9 (.lit [[.inl (.v 105),.inl (.get 30 (.v 90) 0),.inl (.min (.max (.wrap .i64 (.add (.v 117) (.v 21))) (.c 0)) (.c 16777215)),.inl (.v 119),.inl (.v 120),.inl (.v 121),.inl (.v 122),.inl (.c 64)]])));rw[<- aaZ];obtain⟨Uv,ajT,o11,w11⟩:=HL Na 124 (.l (ew.af Na (.app 104 123)));rw[<- ajT];have aa0:∀k,k<117->Uv k=e7 k:=fun k hk=>by rw[o11 k (by omega),o10 k (by omega),o97 k hk]
   have ajU:=hP7.fT fun k hk=>aa0 k (by omega);have aad:∀r∈(Uv 124).list,cG σ cF r:=by
     rw[w11];show ∀r∈(Na 104).list++(Na 123).list,_;rw[o10 _ (by omega),o97 _ (by omega),aaY,w10];intro r hr;rcases jS.1 hr with hr|hr;exact ho2 r hr;have hr:r∈[[(e9 105).int,_,_,(e9 (119+0)).int,(e9 (119+1)).int,(e9 (119+2)).int,(e9 (119+3)).int,64]]:=hr;rw[vc 0 (by omega),vc 1 (by omega),vc 2 (by omega),vc 3 (by omega)]at hr;rw[iE.1 hr];intro q hq;simp only[cF,bC,gu,or_false]at hq;rcases hq with rfl|rfl|rfl|rfl;exact hc 0 (by omega) (by omega);exact hc 1 (by omega) (by omega);exact hc 2 (by omega) (by omega);exact hc 3 (by omega) (by omega)
   refine nq (fun vs=>∃(n:Nat) (h l:Nat->Int),vs = .i n::BL h l/\Q4 A σ h l 5) ⟨0,fun m=>(Uv (106+2*m)).int,fun m=>(Uv (107+2*m)).int,rfl,fun k hk hn=>?_⟩ ?_;show(Uv (106+2*(k+1))).int=_/\(Uv (107+2*(k+1))).int=_;rw[aa0 _ (by omega),aa0 _ (by omega),vh2 _ (by omega),vl2 _ (by omega)];exact hg2 k hk hn;rintro _ ⟨m,h3,l3,rfl,hg3⟩;obtain⟨Bu,ajV,o12,w12⟩:=yK Uv 125 (.i m::BL h3 l3);rw[<- ajV];have ajW:=ajU.fT fun k hk=>o12 k (by omega);have aa1:Bu 125 = .i m:=w12 0 (by simp);have vh3:∀j,j<5->Bu (126+2*j) = .i (h3 j):=fun j hj=>by
     have:=w12 (1+2*j) (by rw[pf,qY];omega);rw[show 126+2*j=125+(1+2*j)by omega,this,Nat.add_comm 1 (2*j)];exact(uO hj).1
   have vl3:∀j,j<5->Bu (127+2*j) = .i (l3 j):=fun j hj=>by
     have:=w12 (1+(2*j+1)) (by rw[pf,qY];omega);rw[show 127+2*j=125+(1+(2*j+1))by omega,this,Nat.add_comm 1 (2*j+1)];exact(uO hj).2
   refine mC (fun cM=>?_) (fun _=>?_);have cM:(Bu 125).int<5:=cM;rw[aa1]at cM;have cM:(m:Int)<5:=cM;refine bA fun _=>aY fun r g=>?_;have g:=aM aX (bW (by simp)) g;have hd:(IE.v 125).af Bu=(m:Int):=by show(Bu 125).int=_;rw[aa1];rfl
   have key:∀k,k<4->m=k+1->r=[.i (dp (A*σ k)),.i (eA (A*σ k))]:=fun k hk hm=>by
     obtain⟨p0,p1,p2,p3,p4,p5,p6⟩:=ajW k hk;have q0:(ch (.v 125) 126 2).af Bu=dp (A*σ k):=by
       rw[uh (by omega) hd,hm,show 126+(k+1)*2=126+2*(k+1)by omega,vh3 _ (by omega)];exact(hg3 k hk (by omega)).1
     have q1:(ch (.v 125) 127 2).af Bu=eA (A*σ k):=by
       rw[uh (by omega) hd,hm,show 127+(k+1)*2=127+2*(k+1)by omega,vl3 _ (by omega)];exact(hg3 k hk (by omega)).2
     have q2:(ch (.v 125) 55 7).af Bu=dp 0:=by
       rw[uh (by omega) hd,hm,show 55+(k+1)*7=62+7*k by omega];exact p2
     have q3:(ch (.v 125) 56 7).af Bu=eA 0:=by
       rw[uh (by omega) hd,hm,show 56+(k+1)*7=63+7*k by omega];exact p3
     have g:Gf 220 [.i ((ch (.v 125) 126 2).af Bu),.i ((ch (.v 125) 127 2).af Bu),.i ((ch (.v 125) 55 7).af Bu),.i ((ch (.v 125) 56 7).af Bu)] r:=g;rw[q0,q1,q2,q3]at g;have hV:=ad' hA1 mo hk;have e0:=BI hV (by constructor<;>omega) (by rw[Int.add_zero];exact hV) g;rw[Int.add_zero]at e0;exact e0
   obtain⟨e13,ajX,o13,w13⟩:=yK Bu 4232 r;rw[<- ajX];have Yt:(e13 125).int=(m:Int):=by rw[o13 _ (by omega),aa1];rfl
   refine lC ⟨m+1,_,_,BM ?_ (Q3 Yt),fun k hk hn=>?_⟩;show DV.i (IntKind.i64.wrap ((e13 125).int+1))=_;rw[Yt,gj (show gF ((m:Int)+1)by constructor<;>omega)];rfl;by_cases e:m=k+1;have hr:=key k hk e;subst hr;rw[if_pos e,if_pos e];exact⟨congrArg DV.int (w13 0 (by simp)),congrArg DV.int (w13 1 (by simp))⟩;rw[if_neg e,if_neg e,o13 _ (by omega),o13 _ (by omega),vh3 _ (by omega),show 126+1+2*(k+1)=127+2*(k+1)by omega,vl3 _ (by omega)];exact hg3 k hk hn;show kO _ 177027 _ 177016 _;rw[FP (by decide),FP (by decide),Q5];refine⟨(Uv 124).list,(IE.wrap .i64 (.add (.v 105) (.c 1))).af Bu,fun j=>(Bu (126+2*j)).int,fun j=>(Bu (127+2*j)).int,?_,aad,fun k hk hn=>?_⟩;show DV.l (Bu 124).list::_=_;rw[o12 _ (by omega)];rfl;show(Bu (126+2*(k+1))).int=_/\(Bu (127+2*(k+1))).int=_;rw[vh3 _ (by omega),vl3 _ (by omega)];exact hg3 k hk hn
end
end
section
open Go.Sx Go
variable{σ:Nat->Int}{v:List Int}
abbrev kU:List Kn:=[.t,.t,.t,.t,.x (.s 0),.x (.s 1),.x (.s 2),.x (.s 3)]
def DW(σ:Nat->Int)(rs:List DV):Prop:=(∃p,rs=p++[.b false])\/∃p q,rs=p++q++[.b true]/\dX σ kU p/\dX σ kU q
def N9(n d:Int):Prop:=d=0\/Fr n d
def Q8(vs:List DV):Prop:=∃(b:Bool) (i ln ld fn fd:Int),vs=[.b b,.i i,.i ln,.i ld,.i fn,.i fd]/\N9 ln ld/\N9 fn fd
section
variable {σ:Nat->Int}{E:Nat->List DV->List DV->Prop}{F:Nat->List DV->Prop}{e:aF}
theorem BN{a b c d x:Nat}(hx:a<x/\b<x/\c<x/\d<x)(h1:N9 (e a).int (e b).int)(h2:N9 (e c).int (e d).int):(CP a b c d x).par E (DW σ) [] e (kO F 71003 Q8):=by
 have fin:∀(e':aF) (q:BE),(∀k,k<x->e' k=e k)->(aA.ite q (.ret aa2) (.ev (.aH (r6 (.add (.v 24) (.c 1)))) (.again 71003 [.b (.v 23),.i (.add (.v 24) (.c 1)),.i (.v a),.i (.v b),.i (.v c),.i (.v d)]))).par E (DW σ) [] e' (kO F 71003 Q8):=fun e' q o=>by
   refine eT (fun _=>cj (.inl ⟨List.replicate 16 (.i 0),rfl⟩)) (fun _=>bA fun _=>lC ⟨_,_,_,_,_,_,rfl,?_,?_⟩);show N9 (e' a).int (e' b).int;rw[o a hx.1,o b hx.2.1];exact h1;show N9 (e' c).int (e' d).int;rw[o c hx.2.2.1,o d hx.2.2.2];exact h2
 exact sa (fun _ r _=>fin _ _ fun k hk=>aF.aT hk) (fun _=>fin _ _ fun k hk=>aF.aT hk)
end
theorem zA{e:aF}{a:Nat}(h:∀k,k<4->(e (a+(4+k))).int=σ k):dX σ kU ((iv a 8).map (DE.af e)):=
 ⟨trivial,trivial,trivial,trivial,⟨_,rfl,h 0 (by omega)⟩,⟨_,rfl,h 1 (by omega)⟩,⟨_,rfl,h 2 (by omega)⟩,⟨_,rfl,h 3 (by omega)⟩,trivial⟩
theorem aa3(mo:PS σ){u:List Int}(hu:mr u)(hv:mr v)(cu:∀k,k<4->u.getD (4+k) 0=σ k)(cv:∀k,k<4->v.getD (4+k) 0=σ k){n d:Int}(h:Fr n d)
   {r:List DV} (hg:Gf 111 (cells 8 u++cells 8 v++[.i n,.i d]) r):r.length=9/\∀k,k<4->(r.getD (4+k) (.i 0)).int=σ k:=by
 rcases ad8 h.1 h.2.1 h.2.2.1 h.2.2.2 hg with⟨_,_,rfl⟩|⟨hb,_⟩;refine⟨rfl,fun k hk=>?_⟩;have m:BJ (u.getD (4+k) 0) (v.getD (4+k) 0) n d=σ k:=by
   rw[cu k hk,cv k hk];have:=mo.1 k hk;exact HJ (by constructor<;>omega)
 match k,hk with
 |0,_=>exact m
 |1,_=>exact m
 |2,_=>exact m
 |3,_=>exact m
 have fu:=fun {r:List DV}=>FN (v:=u) (rs:=r) (fun j hj=>hu j hj) (fun j hj=>by rw[cu j hj];exact mo.1 j hj);have fv:=fun {r:List DV}=>FN (v:=v) (rs:=r) (fun j hj=>hv j hj) (fun j hj=>by rw[cv j hj];exact mo.1 j hj);rcases hb with hb|hb;have:=fu hb;cases this;have:=fv hb;cases this
theorem aa4(mo:PS σ){u:List Int}{S:List (List Int)}(hS:∀s∈S,wx s)(hu:mr u)(hv:mr v)(cu:∀k,k<4->u.getD (4+k) 0=σ k)(cv:∀k,k<4->v.getD (4+k) 0=σ k)
   {rs:List DV} (hg:Gf 71 (cells 8 u++cells 8 v++[.l S]) rs):DW σ rs:=by
 refine bF (R:=DW σ) T71 ?_ hg;obtain⟨e,he⟩:∃e,e=a8.au 0 (cells 8 u++cells 8 v++[DV.l S]):=⟨_,rfl⟩;have h16:e 16 = .l S:=by rw[he];rfl
 rw[<- he];unfold t71;refine nq Q8 ⟨false,0,0,0,0,0,rfl,.inl rfl,.inl rfl⟩ ?_;rintro _ ⟨b,i,ln,ld,fn,fd,rfl,p1,p2⟩;obtain⟨e1,mS,o1,w1⟩:=yK e 23 [.b b,.i i,.i ln,.i ld,.i fn,.i fd];rw[<- mS];have v24:e1 24 = .i i:=w1 1 (by simp);have v25:e1 25 = .i ln:=w1 2 (by simp);have v26:e1 26 = .i ld:=w1 3 (by simp);have v27:e1 27 = .i fn:=w1 4 (by simp);have v28:e1 28 = .i fd:=w1 5 (by simp);have u16:e1 16 = .l S:=by rw[o1 _ (by omega),h16]
 have el:∀k,k<16->e1 k=a8.au 0 (cells 8 u++cells 8 v++[DV.l S]) k:=fun k hk=>by rw[o1 _ (by omega),he]
 have e8:(iv 0 16).map (DE.af e1)=cells 8 u++cells 8 v:=by
   rw[show(iv 0 16).map (DE.af e1)=(List.range 16).map fun k=>.i (e1 k).int from rfl,zF (g:=fun k=>DV.i (a8.au 0 (cells 8 u++cells 8 v++[DV.l S]) k).int) (fun k hk=>by rw[el k (tk.1 hk)])];rfl
 have q1:N9 (e1 25).int (e1 26).int:=by rw[v25,v26];exact p1
 have q2:N9 (e1 27).int (e1 28).int:=by rw[v27,v28];exact p2
 refine mC (fun cM=>?_) (fun my=>?_);have cM:(e1 24).int<((e1 16).list.length:Int):=cM;refine bA fun h0=>aY fun r g=>?_;have h0:(0:Int)<=(e1 24).int:=jY h0;have g:=aM aX (dZ (by simp)) g;have hm:S.getD i.toNat []∈S:=by
   rw[v24,u16]at cM;rw[v24]at h0;exact ug (xs:=S) (i:=i) h0 cM
 have ea:Jy.map (DE.af e1)=cells 5 (S.getD i.toNat [])++cells 8 u++cells 8 v:=by
   rw[show Jy.map (DE.af e1)=((List.range 5).map fun j=>DV.i (cellAt (e1 16).list (e1 24).int j))++(iv 0 16).map (DE.af e1)from rfl,e8,u16,v24,OJ];rfl
 rw[ea]at g;obtain⟨k,n,d,rfl,hk⟩:=aa5 (hS _ hm) hu hv g;obtain⟨e2,sD,o2,w2⟩:=yK e1 30 [.i k,.i n,.i d];rw[<- sD];have v30:e2 30 = .i k:=w2 0 (by simp);have v31:e2 31 = .i n:=w2 1 (by simp);have v32:e2 32 = .i d:=w2 2 (by simp);have s1:∀e3:aF,(∀j,j<33->e3 j=e2 j)->N9 (e3 25).int (e3 26).int/\N9 (e3 27).int (e3 28).int/\(k=1\/k=2->N9 (e3 31).int (e3 32).int):=fun e3 o3=>by
   refine⟨?_,?_,fun hh=>?_⟩;rw[o3 _ (by omega),o3 _ (by omega),o2 _ (by omega),o2 _ (by omega)];exact q1;rw[o3 _ (by omega),o3 _ (by omega),o2 _ (by omega),o2 _ (by omega)];exact q2;rw[o3 _ (by omega),o3 _ (by omega),v31,v32];rcases hk with hk|hk|⟨_,hk⟩;omega;omega;exact .inr hk
 refine FQ (fun hc=>?_) (fun _=>FQ (fun hc=>?_) (fun _=>eT (fun _=>cj (.inl ⟨List.replicate 16 (.i 0),rfl⟩)) (fun _=>?_)));have hc:(e2 30).int=1:=hc;rw[v30]at hc;have hc:k=1:=hc;have fin:∀(r:List DV) (q:BE),(aA.ite q (CP 25 26 31 32 35) (CP 25 26 27 28 35)).par (fun g=>cX (TT PP) XF ((⟨71,t71,(rowOf 71).sub⟩:iU).key g)) (DW σ) [] (e2.au 34 r) (kO (fun _ _=>True) 71003 Q8):=fun r q=>by
   obtain⟨a1,a2,a3⟩:=s1 (e2.au 34 r) fun j hj=>aF.aT (by omega);exact eT (fun _=>BN (by omega) a1 (a3 (.inl hc))) (fun _=>BN (by omega) a1 a2)
 exact sa (fun _ r _=>fin r _) (fun _=>fin _ _);have hc:(e2 30).int=2:=hc;rw[v30]at hc;have hc:k=2:=hc;have fin:∀(r:List DV) (q:BE),(aA.ite q (CP 31 32 27 28 35) (CP 25 26 27 28 35)).par (fun g=>cX (TT PP) XF ((⟨71,t71,(rowOf 71).sub⟩:iU).key g)) (DW σ) [] (e2.au 34 r) (kO (fun _ _=>True) 71003 Q8):=fun r q=>by
   obtain⟨a1,a2,a3⟩:=s1 (e2.au 34 r) fun j hj=>aF.aT (by omega);exact eT (fun _=>BN (by omega) (a3 (.inr hc)) a2) (fun _=>BN (by omega) a1 a2)
 exact sa (fun _ r _=>fin r _) (fun _=>fin _ _);obtain⟨a1,a2,_⟩:=s1 e2 fun j _=>rfl;exact BN (by omega) a1 a2;have cU:∀k,k<4->(e1 (0+(4+k))).int=σ k:=fun k hk=>by
   rw[<- cu k hk];rw[fR,el _ (by omega)]
   match k,hk with
   |0,_=>rfl
   |1,_=>rfl
   |2,_=>rfl
   |3,_=>rfl
 have cV':∀k,k<4->(e1 (8+(4+k))).int=σ k:=fun k hk=>by
   rw[<- cv k hk];rw[el _ (by omega)]
   match k,hk with
   |0,_=>rfl
   |1,_=>rfl
   |2,_=>rfl
   |3,_=>rfl
 have args:∀(e':aF) (a b:Nat),(∀k,k<30->e' k=e1 k)->a<30->b<30->(iv 0 16++[DE.i (.v a),.i (.v b)]).map (DE.af e')=cells 8 u++cells 8 v++[.i (e1 a).int,.i (e1 b).int]:=fun e' a b o ha hb=>by
   rw[qI,show(iv 0 16).map (DE.af e')=(List.range 16).map fun k=>.i (e' k).int from rfl,zF (g:=fun k=>DV.i (e1 k).int) (fun k hk=>by rw[o k (by have:=tk.1 hk;omega)]),<- e8];show _++[DV.i (e' a).int,.i (e' b).int]=_;rw[o a ha,o b hb];rfl
 have pos:∀ {n d:Int},N9 n d->0<d->Fr n d:=fun h h0=>by
   rcases h with h|h;omega;exact h
 unfold Yu;refine mC (fun h28=>?_) (fun _=>?_);have f28:=pos q2 h28;refine aY fun r g=>?_;have g:=aM aX (dZ (by simp)) g;rw[args e1 27 28 (fun _ _=>rfl) (by omega) (by omega)]at g;obtain⟨lr,cr⟩:=aa3 mo hu hv cu cv f28 g;obtain⟨e2,sD,o2,w2⟩:=yK e1 1566 r;rw[<- sD];have c2:∀k,k<4->(e2 (1566+(4+k))).int=σ k:=fun k hk=>by rw[w2 _ (by omega)];exact cr k hk
 refine mC (fun Q9=>?_) (fun _=>cj (.inr ⟨_,_,by rw[qI,qI];rfl,zA c2,zA (a:=8) fun k hk=>by rw[o2 _ (by omega)];exact cV' k hk⟩));have Q9:0<(e2 26).int:=Q9;rw[o2 _ (by omega)]at Q9;refine aY fun r' g'=>?_;have g':=aM aX (dZ (by simp)) g';rw[args e2 25 26 (fun k hk=>o2 k (by omega)) (by omega) (by omega)]at g';obtain⟨lr',cr'⟩:=aa3 mo hu hv cu cv (pos q1 Q9) g';obtain⟨e3,u9,o3,w3⟩:=yK e2 1575 r';rw[<- u9];exact cj (.inr ⟨_,_,by rw[qI,qI];rfl,zA fun k hk=>by rw[o3 _ (by omega)];exact c2 k hk,zA (a:=1575) fun k hk=>by rw[w3 _ (by omega)];exact cr' k hk⟩);refine mC (fun Q9=>?_) (fun _=>?_);have Q9:0<(e1 26).int:=Q9;refine aY fun r' g'=>?_;have g':=aM aX (dZ (by simp)) g';rw[args e1 25 26 (fun _ _=>rfl) (by omega) (by omega)]at g';obtain⟨lr',cr'⟩:=aa3 mo hu hv cu cv (pos q1 Q9) g';obtain⟨e3,u9,o3,w3⟩:=yK e1 1566 r';rw[<- u9];exact cj (.inr ⟨_,_,by rw[qI,qI];rfl,zA (a:=0) fun k hk=>by rw[o3 _ (by omega)];exact cU k hk,zA (a:=1566) fun k hk=>by rw[w3 _ (by omega)];exact cr' k hk⟩);exact cj (.inr ⟨(iv 0 8).map (DE.af e1),(iv 8 8).map (DE.af e1),rfl,zA (a:=0) cU,zA (a:=8) cV'⟩)
end
end Go.Proofs.YtohebioanhliiaaGreatDoor.aN

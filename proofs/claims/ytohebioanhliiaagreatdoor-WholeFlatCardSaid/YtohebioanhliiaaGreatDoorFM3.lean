/- Where it is flat, each fragment has the color of one vertex: WholeFlat gives true. -/
import Derived.Test.YtohebioanhliiaaGreatDoorFM2
set_option maxRecDepth 100000
set_option linter.unusedVariables false
set_option linter.unusedSimpArgs false
namespace Go.Proofs.YtohebioanhliiaaGreatDoor.aN
open Go.Sx Go
variable{σ:Nat->Int}{v:List Int}{D:yH}{rs st:List DV}{c d k:Int}
def FR:aA:=
.ite (.or (.not (.v 15)) (.not (.v 16))) (
.ret [.i (.c 0),.i (.c 0),.i (.c 0),.i (.c 0),.i (.c 0),.i (.c 0),.i (.c 0),.i (.c 1)]) (
.ev (.aH (r6 (.mul (.v 8) (.c 256)))) (
.ev (.aH (r6 (.mul (.v 10) (.c 128)))) (
.ev (.aH (r6 (.add (.v 0) (.v 3)))) (
.ev (.aH (r6 (.mul (.mul (.v 10) (.c 128)) (.add (.v 0) (.v 3))))) (
.ev (.call 154 (.c true) [.i (.mul (.mul (.v 10) (.c 128)) (.add (.v 0) (.v 3))),.i (.v 3)] [oI] 7186) (
.ev (.aH (r6 (.add (.mul (.v 8) (.c 256)) (.v 7186)))) (
.ev (.aH (r6 (.mul (.v 9) (.c 256)))) (
.ev (.aH (r6 (.mul (.v 11) (.c 128)))) (
.ev (.aH (r6 (.add (.v 1) (.v 3)))) (
.ev (.aH (r6 (.mul (.mul (.v 11) (.c 128)) (.add (.v 1) (.v 3))))) (
.ev (.call 154 (.c true) [.i (.mul (.mul (.v 11) (.c 128)) (.add (.v 1) (.v 3))),.i (.v 3)] [oI] 14355) (
.ev (.aH (r6 (.add (.mul (.v 9) (.c 256)) (.v 14355)))) (
.ite (.or (.or (.or (.lt (.add (.mul (.v 8) (.c 256)) (.v 7186)) (.c (-268435456))) (.lt (.c 268435456) (.add (.mul (.v 8) (.c 256)) (.v 7186)))) (.lt (.add (.mul (.v 9) (.c 256)) (.v 14355)) (.c (-268435456)))) (.lt (.c 268435456) (.add (.mul (.v 9) (.c 256)) (.v 14355)))) (
.ret [.i (.c 0),.i (.c 0),.i (.c 0),.i (.c 0),.i (.c 0),.i (.c 0),.i (.c 0),.i (.c 9)]) (
.ev (.aH (r6 (.add (.v 2) (.v 3)))) (
.ev (.aH (r6 (.mul (.c 16777215) (.add (.v 2) (.v 3))))) (
.ev (.aH (r6 (.mul (.c 2) (.v 3)))) (
.ev (.call 154 (.c true) [.i (.mul (.c 16777215) (.add (.v 2) (.v 3))),.i (.mul (.c 2) (.v 3))] [oI] 14356) (
.ret [.i (.add (.mul (.v 8) (.c 256)) (.v 7186)),.i (.add (.mul (.v 9) (.c 256)) (.v 14355)),.i (.min (.max (.v 14356) (.c 0)) (.c 16777215)),.i (.v 4),.i (.v 5),.i (.v 6),.i (.v 7),.i (.c 0)]))))))))))))))))))
def t108:aA:=
.ev (.call 152 (.c true) (iv 8 4) [oB] 15) (
.ev (.call 153 (.v 15) (iv 0 8) [oB] 16) (FR))
theorem ajY:TT PP 108=some ⟨108,t108,(rowOf 108).sub⟩:=by kernel_rfl
theorem Wt{a b:Int}{p:List DV}(hl:p.length=7)(hg:Gf 108 (cells 8 v++[.i a,.i b,.i c,.i d]) (p++[.i 0])):∃x y z,p=[.i x,.i y,.i z,.i (v.getD 4 0),.i (v.getD 5 0),.i (v.getD 6 0),.i (v.getD 7 0)]:=by
 have key:∀rs,Gf 108 (cells 8 v++[.i a,.i b,.i c,.i d]) rs->(∃q n,n≠0/\rs=q++[DV.i n])\/∃x y z,rs=[.i x,.i y,.i z,.i (v.getD 4 0),.i (v.getD 5 0),.i (v.getD 6 0),.i (v.getD 7 0),.i 0]:=fun rs hg=>by
   refine bF (R:=fun rs=>(∃q n,n≠0/\rs=q++[DV.i n])\/∃x y z,rs=[.i x,.i y,.i z,.i (v.getD 4 0),.i (v.getD 5 0),.i (v.getD 6 0),.i (v.getD 7 0),.i 0]) ajY ?_ hg;obtain⟨e,he⟩:∃e,e=a8.au 0 (cells 8 v++[DV.i a,.i b,.i c,.i d]):=⟨_,rfl⟩;have hc:∀k,k<4->e (4+k) = .i (v.getD (4+k) 0):=fun k hk=>by
     rw[he]
     match k,hk with
     |0,_=>rfl
     |1,_=>rfl
     |2,_=>rfl
     |3,_=>rfl
   rw[<- he];refine aY fun r1 _=>?_;have fin:∀e2:aF,(∀k,k<15->e2 k=e k)->(aA.par (fun g=>cX (TT PP) XF ((⟨108,t108,(rowOf 108).sub⟩:iU).key g)) (fun rs=>(∃q n,n≠0/\rs=q++[DV.i n])\/∃x y z,rs=[.i x,.i y,.i z,.i (v.getD 4 0),.i (v.getD 5 0),.i (v.getD 6 0),.i (v.getD 7 0),.i 0]) FR [] e2 (fun _ _=>True)):=fun e2 o2=>by
     unfold FR;refine eT (fun _=>cj (.inl ⟨List.replicate 7 (.i 0),1,by omega,rfl⟩)) (fun _=>?_);refine bA fun _=>bA fun _=>bA fun _=>bA fun _=>aY fun r2 _=>bA fun _=>bA fun _=>bA fun _=>bA fun _=>bA fun _=>aY fun r3 _=>bA fun _=>?_;refine eT (fun _=>cj (.inl ⟨List.replicate 7 (.i 0),9,by omega,rfl⟩)) (fun _=>?_);refine bA fun _=>bA fun _=>bA fun _=>aY fun r4 _=>?_;have lw:∀k,k<4->(((e2.au 7186 r2).au 14355 r3).au 14356 r4 (4+k)).int=v.getD (4+k) 0:=fun k hk=>by
       rw[aF.aT (by omega),aF.aT (by omega),aF.aT (by omega),o2 _ (by omega),hc k hk];rfl
     refine cj (.inr ⟨(IE.add (.mul (.v 8) (.c 256)) (.v 7186)).af (((e2.au 7186 r2).au 14355 r3).au 14356 r4),(IE.add (.mul (.v 9) (.c 256)) (.v 14355)).af (((e2.au 7186 r2).au 14355 r3).au 14356 r4),(IE.min (.max (.v 14356) (.c 0)) (.c 16777215)).af (((e2.au 7186 r2).au 14355 r3).au 14356 r4),?_⟩);show [_,_,_,DV.i (((e2.au 7186 r2).au 14355 r3).au 14356 r4 (4+0)).int,.i (((e2.au 7186 r2).au 14355 r3).au 14356 r4 (4+1)).int,.i (((e2.au 7186 r2).au 14355 r3).au 14356 r4 (4+2)).int,.i (((e2.au 7186 r2).au 14355 r3).au 14356 r4 (4+3)).int,_]=_;rw[lw 0 (by omega),lw 1 (by omega),lw 2 (by omega),lw 3 (by omega)];rfl
   exact sa (fun _ r2 _=>fin _ fun k hk=>by rw[aF.aT (by omega),aF.aT (by omega)]) (fun _=>fin _ fun k hk=>by rw[aF.aT (by omega),aF.aT (by omega)])
 rcases key _ hg with⟨q,n,hn,h⟩|⟨x,y,z,h⟩;have:=List.append_inj_right' h rfl;injection this with h1;injection h1 with h1;exact absurd h1.symm hn;have h:=List.append_inj_left' (show p++[DV.i 0]=[.i x,.i y,.i z,.i (v.getD 4 0),.i (v.getD 5 0),.i (v.getD 6 0),.i (v.getD 7 0)]++[.i 0]from h) rfl;exact⟨x,y,z,h⟩
def K7(σ:Nat->Int)(v:List Int):Prop:=mr v/\∀k,k<4->v.getD (4+k) 0=σ k
theorem K7.Ws(h:K7 σ v):cG σ cV v:=by
 intro c hc;simp only[cV,bC,gu,or_false]at hc;rcases hc with rfl|rfl|rfl|rfl|rfl|rfl|rfl|rfl;exact h.1 0 (by omega);exact h.1 1 (by omega);exact h.1 2 (by omega);exact h.1 3 (by omega);exact h.2 0 (by omega);exact h.2 1 (by omega);exact h.2 2 (by omega);exact h.2 3 (by omega)
theorem Q'(h:cG σ cV v){k:Nat}(hk:k<4):v.getD (4+k) 0=σ k:=by
 match k,hk with
 |0,_=>exact h (4,.s 0) (by simp)
 |1,_=>exact h (5,.s 1) (by simp)
 |2,_=>exact h (6,.s 2) (by simp)
 |3,_=>exact h (7,.s 3) (by simp)
theorem aeb{x y z:Int}(h:∀k,k<4->v.getD (4+k) 0=σ k):dX σ kW [.i x,.i y,.i z,.i (v.getD 4 0),.i (v.getD 5 0),.i (v.getD 6 0),.i (v.getD 7 0)]:=
 ⟨trivial,trivial,trivial,⟨_,rfl,h 0 (by omega)⟩,⟨_,rfl,h 1 (by omega)⟩,⟨_,rfl,h 2 (by omega)⟩,⟨_,rfl,h 3 (by omega)⟩,trivial⟩
theorem se:∀ {a b:List Kn} {x y:List DV},dX σ a x->dX σ b y->dX σ (a++b) (x++y)
 | [],_,[],_,_,h=>h
 | [],_,_::_,_,h,_=>h.elim
 |_::_,_,[],_,h,_=>h.elim
 |a::az,b,x::xs,y,h,h'=>⟨h.1,se (a:=az) (x:=xs) h.2 h'⟩
theorem DX:∀(ds:List DV),dX σ (List.replicate ds.length .t) ds
 | []=>trivial
 |d::ds=>⟨trivial,DX ds⟩
theorem Ra:∀ {az:List Kn} {ds:List DV},dX σ az ds->ds.length=az.length
 | [],[],_=>rfl
 | [],_::_,h=>h.elim
 |_::_,[],h=>h.elim
 |a::az,d::ds,h=>by rw[pf,pf,Ra (az:=az) (ds:=ds) h.2]
theorem HM(h:dX σ kU (cells 8 v)):∀k,k<4->v.getD (4+k) 0=σ k:=by
 obtain⟨_,_,_,_,⟨a,ea,ha⟩,⟨b,eb,hb⟩,⟨c,ec,hc⟩,⟨d,ed,hd⟩,_⟩:=h;intro k hk;injection ea with ea;injection eb with eb;injection ec with ec;injection ed with ed
 match k,hk with
 |0,_=>exact ea.trans ha
 |1,_=>exact eb.trans hb
 |2,_=>exact ec.trans hc
 |3,_=>exact ed.trans hd
theorem Ag(hE:∀k ds rs,D.E k ds rs->Gf k ds rs){p:List DV}(h:D.place v p 0)(hc:∀k,k<4->v.getD (4+k) 0=σ k):dX σ kW p:=by
 obtain⟨x,y,z,rfl⟩:=Wt h.1 (hE _ _ _ h.2);exact aeb hc
theorem aa6(mo:PS σ)(hE:∀k ds rs,D.E k ds rs->Gf k ds rs)(hS:∀s∈D.fo,wx s)(hk:(D.a 69).int=σ 4)(hb:D.bx.length=4){vs es:List (List Int)}{d d':List DV}{out sI:List (List Int)}{w w':Bool}
   (h:Step D vs es d out w d' sI w') (hd:d.length=3) (hv:∀v∈vs,K7 σ v):d'.length=3/\∀r∈sI,r∈out\/cG σ cF r:=by
 cases h with
 |hidden _ _ _ _=>exact⟨hd,fun r hr=>.inl hr⟩
 |KT _ _ _ _=>exact⟨hd,fun r hr=>.inl hr⟩
 |lineNo _ _ _=>exact⟨hd,fun r hr=>.inl hr⟩
 |Fx _ _ _ _ _=>exact⟨hd,fun r hr=>.inl hr⟩
 |Qq _ _ _=>exact⟨hd,fun r hr=>.inl hr⟩
 |KU _ _ _ _ _ _ _=>exact⟨hd,fun r hr=>.inl hr⟩
 | point e1 _ hp hf=>
   subst e1;have kp:=Ag hE hp (hv _ (by simp)).2;have kb:dX σ (List.replicate 4 .t) D.bx:=hb▸DX D.bx;have:=Q2 σ mo _ (iE.2 rfl) _ _ (show dX σ (pd 13 (kW++[.t,.x (.s 4)])) _ from se (se kp (b:=[.t,.x (.s 4)]) (y:=[.i (D.a 68).int,.i (D.a 69).int]) ⟨trivial,⟨_,rfl,hk⟩,trivial⟩) kb) (hE _ _ _ hf);exact⟨hd,fun r hr=>(jS.1 hr).imp id fun hr=>this.1 r hr⟩
 | line e1 h71 h1 h2 hl hf=>
   subst e1;obtain⟨u1,u2⟩:=hv _ (aZ ..);obtain⟨v1,v2⟩:=hv _ (bI _ (aZ ..));rcases aa4 mo hS u1 v1 u2 v2 (hE _ _ _ h71)with⟨p,e⟩|⟨p,q,e,kp,kq⟩;have:=List.append_inj_right' e rfl;cases this;have e:=List.append_inj_left' e rfl;obtain⟨ep,eq⟩:=List.append_inj e.symm (by rw[Ra kp];rfl);subst ep eq;have kp1:=Ag hE h1 (HM kp);have kp2:=Ag hE h2 (HM kq);have kl:dX σ (List.replicate 15 .t) D.look:=DX D.look;have kd:dX σ (List.replicate 3 .t) d:=hd▸DX d;have kb:dX σ (List.replicate 4 .t) D.bx:=hb▸DX D.bx;have k5:=se (se (se (se kp1 kp2) kl) kd) kb;have:=Q0 σ mo _ (iE.2 rfl) _ _ k5 (hE _ _ _ hf);exact⟨hl,fun r hr=>(jS.1 hr).imp id fun hr=>this.1 r hr⟩
 | adA n1 n2 da h73 hl h7 hp hf=>
   rename_i us on ws fr e;have t3 := aaR σ mo _ (iE.2 rfl) _ _ (show dX σ [kL,.t,.l cS] [.l vs,.l es,.l D.fo]from⟨fun v hm=>(hv v hm).Ws,trivial,fun s hm c hc=>by
     have hs:=hS s hm;simp only[cS,bC,gu,or_false]at hc;rcases hc with rfl|rfl|rfl|rfl;exact hs 1 (by omega) (by omega);exact hs 2 (by omega) (by omega);exact hs 3 (by omega) (by omega);exact hs 4 (by omega) (by omega),trivial⟩) (hE _ _ _ h73)
   have hus:∀u∈us,cG σ cV u:=t3.1;have hws:∀r∈ws,cG σ cF r:=BK (L:=ws) fun j hj=>by
     have hm:us.getD j []∈us:=by
       rw[cm,eN (by omega)];exact List.getElem_mem _
     have kp:=Ag hE (hp j (by omega)) fun k hk=>Q' (hus _ hm) hk;obtain⟨_,_,_,⟨a,ea,ha⟩,⟨b,eb,nC⟩,⟨c,ec,hc⟩,⟨d',ed,ZF⟩,_⟩:=kp;injection ea with ea;injection eb with eb;injection ec with ec;injection ed with ed;intro q hq;simp only[cF,bC,gu,or_false]at hq;rcases hq with rfl|rfl|rfl|rfl;exact ea.trans ha;exact eb.trans nC;exact ec.trans hc;exact ed.trans ZF
   have kb:dX σ (List.replicate 4 .t) D.bx:=hb▸DX D.bx;have kl:dX σ ([.t,.t,.t,.t,.t,.t,.t,.x (.s 4)]++List.replicate 7 .t) D.look:=⟨trivial,trivial,trivial,trivial,trivial,trivial,trivial,⟨_,rfl,hk⟩,trivial,trivial,trivial,trivial,trivial,trivial,trivial,trivial⟩;have k2:dX σ [kF,.t] [.l ws,.l on]:=⟨hws,trivial,trivial⟩;have k5:=se (se k2 kl) kb;have:=aaU Wr σ mo _ (iE.2 rfl) _ _ k5 (hE _ _ _ hf);exact⟨hd,fun r hr=>(jS.1 hr).imp id fun hr=>this.1 r hr⟩
def t66:aA:=
.ite (.not (.eq (.v 0) (.c 3))) (
.ret [.b (.and (.and (.le (.c 0) (.v 0)) (.lt (.v 0) (.c 3))) (.and (.eq (.v 1) (.c 0)) (.and (.eq (.v 2) (.c 0)) (.and (.eq (.v 3) (.c 0)) (.eq (.v 4) (.c 0))))))]) (
.ev (.call 100 (.c true) [.i (.v 1),.i (.c 32768)] [oB] 6) (
.ite (.v 6) (
.ret [.b (.c false)]) (
.ev (.call 100 (.c true) [.i (.v 2),.i (.c 32768)] [oB] 7) (
.ite (.v 7) (
.ret [.b (.c false)]) (
.ev (.call 100 (.c true) [.i (.v 3),.i (.c 32768)] [oB] 8) (
.ite (.v 8) (
.ret [.b (.c false)]) (
.ev (.call 100 (.c true) [.i (.v 4),.i (.c 32768)] [oB] 9) (
.ite (.v 9) (
.ret [.b (.c false)]) (
.ret [.b (.c true)])))))))))
theorem T66:TT PP 66=some ⟨66,t66,(rowOf 66).sub⟩:=by kernel_rfl
theorem p66:gP (rowOf 66).sub=true:=by kernel_rfl
theorem K8{n m:Int}(hg:Gf 100 [.i n,.i m] rs):rs=[.b (decide (m<n)||decide (n<0-m))]:=by
 refine bF (R:=fun rs=>rs=[DV.b (decide (m<n)||decide (n<0-m))]) ad6 ?_ hg;exact bA fun _=>cj rfl
theorem Wu{a b:Int}(hg:Gf 66 [.i 3,.i a,.i b,.i c,.i d] rs):rs=[.b true]->(-32768<=a/\a<=32768)/\(-32768<=b/\b<=32768)/\(-32768<=c/\c<=32768)/\(-32768<=d/\d<=32768):=by
 refine bF (R:=fun rs=>rs=[DV.b true]->(-32768<=a/\a<=32768)/\(-32768<=b/\b<=32768)/\(-32768<=c/\c<=32768)/\(-32768<=d/\d<=32768)) T66 ?_ hg;have no:∀ {P:Prop},[DV.b false]=[DV.b true]->P:=fun h=>by cases h
 have ok:∀ {n:Int},(decide ((32768:Int)<n)||decide (n<0-32768))=false->-32768<=n/\n<=32768:=fun {n} h=>by
   rw[vF,sO,sO]at h;omega
 refine vb rfl (aY fun r g=>?_);have g:=aM aX p66 g;obtain rfl:=K8 g;refine eT (fun _=>cj no) (fun h1=>aY fun r g=>?_);have g:=aM aX p66 g;obtain rfl:=K8 g;refine eT (fun _=>cj no) (fun h2=>aY fun r g=>?_);have g:=aM aX p66 g;obtain rfl:=K8 g;refine eT (fun _=>cj no) (fun h3=>aY fun r g=>?_);have g:=aM aX p66 g;obtain rfl:=K8 g;refine eT (fun _=>cj no) (fun h4=>cj fun _=>?_);exact⟨ok h1,ok h2,ok h3,ok h4⟩
theorem Wv{ds:List DV}{S:List (List Int)}(hl:ds.length=94)(hg:Gf 29 ds [.l S]):∀s∈S,wx s:=by
 obtain⟨S',e,q,h⟩:=Ww hl hg;injection q with q;injection q with q;subst q;obtain⟨e',⟨h,_⟩|⟨h,_,iA⟩⟩:=aa7 h;injection h with h;injection h with h;subst h;intro s hs;cases hs
 . injection h with h;injection h with h;subst h;intro s hs j h1 h4;have four:j=1\/j=2\/j=3\/j=4:=by omega
   rcases jS.1 hs with hs|hs
   . simp only[vd,bC,gu,or_false]at hs;rcases hs with rfl|rfl|rfl
     all_goals rcases four with rfl|rfl|rfl|rfl<;>exact⟨by decide,by decide⟩
   obtain⟨r,hr,rfl⟩:=jz.1 hs;obtain⟨k3,hg⟩:=iA r hr;rw[k3]at hg;obtain⟨a,b,c,d⟩:=Wu hg rfl;rcases four with rfl|rfl|rfl|rfl;exact a;exact b;exact c;exact d
def sig(c:List Int)(k:Int)(j:Nat):Int:=if j<4 then c.getD (4+j) 0 else k
theorem aa8{c:List Int}(h:∀j,j<4->0<=c.getD (4+j) 0/\c.getD (4+j) 0<=255)(hk:k≠2):PS (sig c k):=
 ⟨fun j hj=>by unfold sig;rw[if_pos hj];exact h j hj,hk⟩
def Rb(V:List (List Int))(r:List Int):Prop:=∃c∈V,∀j,j<4->r.getD (3+j) 0=c.getD (4+j) 0
theorem Rc(hE:∀k ds rs,D.E k ds rs->Gf k ds rs)(hS:∀s∈D.fo,wx s)(hk:(D.a 69).int≠2)(hb:D.bx.length=4)(hf:(D.a 77).bool=true)(hV:∀v∈(D.a 60).list,mr v/\∀j,j<4->0<=v.getD (4+j) 0/\v.getD (4+j) 0<=255)
   {L:List (List Int)} {n:Nat} (hn:n=(D.a 60).list.length) (hL:∀r∈L,∃m,ud m n r):∀ {k:Nat} {d:List DV} {out:List (List Int)} {w:Bool},k<=L.length->D.runs L k d out w->d.length=3/\∀r∈out,Rb (D.a 60).list r
 | 0,d,out,w,_,h=>by
   obtain⟨rfl,rfl,_⟩:=h;exact⟨rfl,fun r hr=>by cases hr⟩
 | k+1,d,out,w,hkl,h=>by
   obtain⟨d1,aap,w1,h1,h2⟩:=h;obtain⟨l1,c1⟩:=Rc hE hS hk hb hf hV hn hL (k:=k) (by omega) h1;obtain⟨m,V,E',p,hr,_,_,iP,p0,p1,_⟩:=hL _ (Ah (S:=L) (j:=k) (by omega));have hp2:(L.getD k []).getD 2 0=p:=by rw[hr];rfl
   have hc:(D.a 60).list.getD p.toNat []∈(D.a 60).list:=ug p0 (by omega);obtain⟨c,pF⟩:∃c,c=(D.a 60).list.getD p.toNat []:=⟨_,rfl⟩;rw[<- pF]at hc;have hv:∀v∈D.zw (L.getD k []),K7 (sig c (D.a 69).int) v:=by
     intro v hv;unfold yH.zw at hv;obtain⟨x,_,rfl⟩:=jz.1 hv;refine⟨Wx (fun r hr=>(hV r hr).1) _ _ _,fun j hj=>?_⟩;unfold sig;rw[if_pos hj,hf,hp2,pF]
     match j,hj with
     |0,_=>rfl
     |1,_=>rfl
     |2,_=>rfl
     |3,_=>rfl
   obtain⟨l2,c2⟩:=aa6 (aa8 (hV c hc).2 hk) hE hS rfl hb h2 (by split;rfl;exact l1) hv;refine⟨l2,fun r hr=>?_⟩;rcases c2 r hr with h|h;exact c1 r h;refine⟨c,hc,fun j hj=>?_⟩
   match j,hj with
   |0,_=>exact h (3,.s 0) (by simp)
   |1,_=>exact h (4,.s 1) (by simp)
   |2,_=>exact h (5,.s 2) (by simp)
   |3,_=>exact h (6,.s 3) (by simp)
def Rd:List DE:=((Yw 1).set 77 (.b (.c true))).set 69 (.i (.tmod (.v 70) (.c 2)))
def Wy:BE:=.or (.v 101) (.and (.eq (.get 97 (.v 100) 3) (.get 61 (.v 102) 4)) (.and (.eq (.get 97 (.v 100) 4) (.get 61 (.v 102) 5)) (.and (.eq (.get 97 (.v 100) 5) (.get 61 (.v 102) 6)) (.eq (.get 97 (.v 100) 6) (.get 61 (.v 102) 7)))))
def t5:aA:=
.ev (.call 17 (.c true) [.l 0] [.agg pV,oB] 1) (
.ite (.not (.v 95)) (
.ev (.call 10 (.c true) [] [oB] 97) (
.ret [.b (.v 97)])) (
.ev (.call 18 (.c true) Rd [.one (.s 74 fq),oB] 97) (
.loop 5008 [.b (.c false),.i (.c 0)] [.c (.b),.c i6] 99 (
.ite (.lt (.v 100) (.len 97)) (
.loop 5012 [.b (.c false),.i (.c 0)] [.c (.b),.c i6] 101 (
.ite (.lt (.v 102) (.len 61)) (
.ev (.aH (.or (.not (.not (.v 101))) (.le (.c 0) (.v 100)))) (
.ev (.aH (.or (.not (.not (.v 101))) (.lt (.v 100) (.len 97)))) (
.ev (.aH (.or (.not (.not (.v 101))) (.le (.c 0) (.v 102)))) (
.ev (.aH (r6 (.add (.v 102) (.c 1)))) (
.again 5012 [.b Wy,.i (.add (.v 102) (.c 1))]))))) (
.ite (.not (.v 101)) (
.ret [.b (.c false)]) (
.ev (.aH (r6 (.add (.v 100) (.c 1)))) (
.again 5008 [.b (.v 99),.i (.add (.v 100) (.c 1))]))))) (
.ev (.call 10 (.c true) [] [oB] 101) (
.ret [.b (.v 101)]))))))
theorem T5:TT PP 5=some ⟨5,t5,(rowOf 5).sub⟩:=by kernel_rfl
theorem ajZ:pA[69]?=some (.i mn mx):=by kernel_rfl
theorem aj0:pA[77]?=some .b:=by kernel_rfl
theorem Nw(hP:gY st)(hk:mn<=k/\k<=mx):gY ((st.set 77 (.b true)).set 69 (.i k)):=by
 have o:∀j,j≠69->j≠77->((st.set 77 (.b true)).set 69 (.i k)).getD j (.i 0)=st.getD j (.i 0):=fun j h1 h2=>by rw[lx h1,lx h2]
 refine⟨K9 (K9 hP.has aj0 trivial) ajZ hk,?_,?_,?_⟩;unfold sw ve;rw[o 3 (by omega) (by omega),o 1 (by omega) (by omega),o 2 (by omega) (by omega)];exact hP.c3;unfold sw ve;rw[o 4 (by omega) (by omega),o 1 (by omega) (by omega),o 2 (by omega) (by omega)];exact hP.c4;unfold sw;rw[o 60 (by omega) (by omega),o 61 (by omega) (by omega)];exact hP.c60
theorem Wz(hP:gY st):∀r∈(a8.au 0 st 60).list,∀j,j<4->0<=r.getD (4+j) 0/\r.getD (4+j) 0<=255:=by
 have hl:=hP.len;obtain⟨d,hd,ha⟩:=hP.has.at (i:=60) (a:=pA.getD 60 .t) (by kernel_rfl);have ha:A.has (.l 0 (some 256) Qj) d:=ha;have e:a8.au 0 st 60=d:=by rw[fH (by omega),cm,hd];rfl
 rw[e];cases d with
 | l xs=>
   intro r hr j hj;have h1:=wi (ha.2.2 r hr) (j:=4+j) (x:=0) (y:=255) (by
     match j,hj with
     |0,_=>rfl
     |1,_=>rfl
     |2,_=>rfl
     |3,_=>rfl)
   rwa[fR]at h1
 |i _=>exact ha.elim
 |b _=>exact ha.elim
theorem Nx(hP:gY st)(hf:(a8.au 0 st 77).bool=true)(hk:(a8.au 0 st 69).int≠2)(h:KV E18 st rs):∃out w,rs=[.l out,.b w]/\∀r∈out,Rb (a8.au 0 st 60).list r:=by
 have hl:=hP.len;have giv:∀g x y,E18 g x y->Gf g x y:=fun g x y hg=>aM aX p18 hg;obtain⟨bx,S,L,e,d,out,w,b4,g28,g29,aj1,run,rfl⟩:=h;rw[Ny hP]at g29;refine⟨out,w,rfl,?_⟩;have hm:(a8.au 0 st 61).list.length<=256:=by
   have:((a8.au 0 st 61).list.length:Int)<=256:=tU (ml (ae:=a8) (base:=0) (BO hP).1 _ (wy (b:=0) Jz));omega
 have Yi:(a8.au 0 st 60).list.length=(a8.au 0 st 61).list.length:=by
   have:=hP.c60;unfold sw at this;rw[fH (by omega),fH (by omega)];exact this
 obtain⟨rs0,g0,L0,e0,q0,_,_,Qy⟩:=Ys (X:=XF) _ ⟨(a8.au 0 st 59).int,(a8.au 0 st 61).list,(a8.au 0 st 78).bool,rfl,by omega⟩;have hq:=(giv _ _ _ aj1).Ut g0;rw[q0]at hq;injection hq with hq _;injection hq with hq;subst hq;exact(Rc (D:=⟨E18,a8.au 0 st,bx,S⟩) giv (Wv hl (giv _ _ _ g29)) hk b4 hf (fun v hv=>⟨Re hP v hv,Wz hP v hv⟩) rfl (fun r hr=>⟨_,by rw[Yi];exact Qy _ _ _ rfl r hr⟩) (ga _) run).2
theorem g5:ng (TT PP) XF 5 HN (fun _ rs=>rs=[.b true]):=by
 refine mg T5 fun ds hp=>?_;obtain⟨WA,aj2,hlen,b,hb,hG⟩:=g17 adO ds hp;obtain⟨l,rfl,xK⟩:=id hp;unfold t5;refine jO (pre:=fun ds=>ds=[DV.l l]) (rel:=fun _ fw=>fw=WA) (fun ds h=>by subst h;exact⟨WA,aj2,rfl⟩) rfl ?_;intro fw _ vn;rw[vn];clear vn;obtain⟨e1,mS,o1,g1⟩:=yK (a8.au 0 [.l l]) 1 WA;rw[<- mS];have g95:(e1 95).bool=b:=by rw[show e1 95=e1 (1+94)from rfl,g1 94 (by omega),hb];rfl
 have aw:∀ {e:aF} {Ps F k},(aA.ev (.call 10 (.c true) [] [oB] k) (.ret [.b (.v k)])).ir (fun g=>cX (TT PP) XF ((⟨5,t5,(rowOf 5).sub⟩:iU).key g)) (fun rs=>rs=[DV.b true]) Ps e F:=fun {e Ps F k}=>by
   refine jO (pre:=fun ds=>ds=[]) (rel:=fun _ fw=>fw=[DV.b true]) (fun ds h=>by subst h;exact⟨_,Aw.Qi,rfl⟩) rfl ?_;rintro _ _ rfl;exact XU (by show [DV.b (e.set k (.b true) k).bool]=_;simp[aF.set,DV.bool])
 refine lU (fun h=>aw) (fun h=>?_);have h:(!((e1 95).bool))=false:=h;rw[g95,Bool.not_eq_false']at h;subst h;obtain⟨hP,_,_,_,_⟩:=hG l rfl rfl;obtain⟨st,eK⟩:∃st,WA.take 94=st:=⟨_,rfl⟩;rw[eK]at hP;have xH:=hP.len;have Uy:∀j,j<94->e1 (1+j)=st.getD j (.i 0):=fun j hj=>by
   rw[g1 j (by omega),<- eK];simp only[cm];rw[List.getElem?_take_of_lt hj]
 obtain⟨k,hk⟩:∃k,k=Int.tmod (e1 70).int 2:=⟨_,rfl⟩;have vq: -2<k/\k<2:=by
   rw[hk];have h1:=Int.tmod_lt_of_pos (e1 70).int (show(0:Int)<2 by omega);have h2:=Int.lt_tmod_of_pos (e1 70).int (show(0:Int)<2 by omega);omega
 have hA:Rd.map (DE.af e1)=(st.set 77 (.b true)).set 69 (.i k):=by
   have pv:(Yw 1).map (DE.af e1)=st:=mu (b:=1) hP.has (fun j hj=>Uy j (by omega)) (by kernel_rfl);unfold Rd;rw[List.map_set,List.map_set,pv,hk];rfl
 have hQ:=Nw hP (k:=k) (by unfold mn mx;omega);obtain⟨Q,hQe⟩:∃Q,(st.set 77 (.b true)).set 69 (.i k)=Q:=⟨_,rfl⟩;have gq:∀j,j<94->j≠69->j≠77->a8.au 0 Q j=st.getD j (.i 0):=fun j hj h1 h2=>by
   rw[fH (by rw[<- hQe];simp;omega),<- hQe,lx h1,lx h2]
 have q77:(a8.au 0 Q 77).bool=true:=by rw[fH (by rw[<- hQe];simp;omega),<- hQe,lx (by omega),vy (by omega)];rfl
 have q69:(a8.au 0 Q 69).int=k:=by rw[fH (by rw[<- hQe];simp;omega),<- hQe,vy (by simp;omega)];rfl
 rw[hQe]at hQ hA;obtain⟨r1,q1,aec,em1⟩:=g18 aX aaI _ (BO hQ);obtain⟨out,w,rfl,hc⟩:=Nx hQ q77 (by rw[q69];omega) em1;have vY:A.has (.l 0 (some 512000000000) oY) (.l out):=by have:=aec.1;rw[adP]at this;exact this.1
 obtain⟨V,hV⟩:∃V,V=(e1 61).list:=⟨_,rfl⟩;have hVq:(a8.au 0 Q 60).list=V:=by rw[gq 60 (by omega) (by omega) (by omega),<- Uy 60 (by omega),hV]
 rw[hVq]at hc;have hVl:(V.length:Int)<=256:=by
   have:((a8.au 0 Q 61).list.length:Int)<=256:=tU (ml (ae:=a8) (base:=0) (BO hQ).1 _ (wy (b:=0) Jz));have h2:=hQ.c60;unfold sw at h2;rw[<- fH (by rw[hQ.len];omega),<- fH (by rw[hQ.len];omega),hVq]at h2;omega
 refine jO (pre:=fun ds=>ds=Q) (rel:=fun _ fw=>fw=[.l out,.b w]) (fun ds h=>by subst h;exact⟨_,q1,rfl⟩) hA ?_;rintro _ _ rfl;obtain⟨e2,sD,o2,v2⟩:=yK e1 97 [.l out,.b w];have x97:e2 97 = .l out:=v2 0 (by simp);have x61:(e2 61).list=V:=by rw[o2 _ (by omega),hV]
 rw[<- sD];have hol:=vY.2.1 _ rfl;refine mh (fun vs=>∃i:Nat,i<=out.length/\vs=[.b false,.i i]) (fun| [_,.i i]=>((out.length:Int)-i).toNat|_=>0) ⟨0,by omega,rfl⟩ ?_;rintro _ ⟨i,hi,rfl⟩;obtain⟨e3,u9,o3,v3⟩:=yK e2 99 [.b false,.i i];have aed:e3 100 = .i i:=v3 1 (by simp);have x99:e3 99 = .b false:=v3 0 (by simp);have y97:e3 97 = .l out:=by rw[o3 _ (by omega),x97]
 have y61:(e3 61).list=V:=by rw[o3 _ (by omega),x61]
 rw[<- u9];refine gQ (fun cM=>?_) (fun my=>aw);simp only[IE.af,aed,y97,di,dl]at cM;have hil:i<out.length:=by omega
 obtain⟨c,Gp,OC⟩:=hc _ (Ah (S:=out) hil);obtain⟨n,da⟩:=List.mem_iff_getElem?.1 Gp;have hn:n<V.length:=(dw.1 da).1;have hVn:V.getD n []=c:=by rw[cm,da];rfl
 refine mh (fun vs=>∃(b:Bool) (j:Nat),j<=V.length/\vs=[.b b,.i j]/\(n<j->b=true)) (fun| [_,.i i]=>((V.length:Int)-i).toNat|_=>0) ⟨false,0,by omega,rfl,fun h=>by omega⟩ ?_;rintro _ ⟨b,j,hj,rfl,hb⟩;obtain⟨e4,he4,o4,v4⟩:=yK e3 101 [.b b,.i j];have Rf:e4 101 = .b b:=v4 0 (by simp);have JA:e4 102 = .i j:=v4 1 (by simp);have z97:e4 97 = .l out:=by rw[o4 _ (by omega),y97]
 have Nz:e4 100 = .i i:=by rw[o4 _ (by omega),aed]
 have z99:e4 99 = .b false:=by rw[o4 _ (by omega),x99]
 have z61:(e4 61).list=V:=by rw[o4 _ (by omega),y61]
 rw[<- he4];have gd:∀ {k:Nat} {i:IE} {c m:Nat} {L:List (List Int)},(e4 k).list=L->i.af e4=(m:Int)->(IE.get k i c).af e4=(L.getD m []).getD c 0:=fun {k i c m L} h1 h2=>by
   show((e4 k).list.getD (i.af e4).toNat []).getD c 0=_;rw[h1,h2];rfl
 refine gQ (fun cM=>?_) (fun my=>?_);simp only[IE.af,JA,z61,di]at cM;refine iV ?_ (iV ?_ (iV ?_ (yF ?_ (lA ⟨⟨Wy.af e4,j+1,by omega,?_,fun hn=>?_⟩,?_⟩))));simp only[BE.af,IE.af,Rf,Nz,di,db];simp;simp only[BE.af,IE.af,Rf,Nz,z97,di,db,dl];simp[hil];simp only[BE.af,IE.af,Rf,JA,di,db];simp;simp only[IE.af,JA,di];omega;show [DV.b (Wy.af e4),DV.i ((e4 102).int+1)]=_;rw[JA];rfl;unfold Wy;by_cases h:n<j;simp only[BE.af,Rf,db,hb h,Bool.true_or];obtain rfl:n=j:=by omega
 have e97:(e4 97).list=out:=by rw[z97];rfl
 have i100:(IE.v 100).af e4=(i:Int):=by show(e4 100).int=_;rw[Nz];rfl
 have i102:(IE.v 102).af e4=(n:Int):=by show(e4 102).int=_;rw[JA];rfl
 simp only[BE.af,gd e97 i100,gd z61 i102,hVn];have a0:(out.getD i []).getD 3 0=c.getD 4 0:=OC 0 (by omega);have a1:(out.getD i []).getD 4 0=c.getD 5 0:=OC 1 (by omega);have a2:(out.getD i []).getD 5 0=c.getD 6 0:=OC 2 (by omega);have a3:(out.getD i []).getD 6 0=c.getD 7 0:=OC 3 (by omega);simp only[a0,a1,a2,a3,decide_true,Bool.and_true,Bool.or_true];show((V.length:Int)-((e4 102).int+1)).toNat<((V.length:Int)-(j:Int)).toNat;rw[JA];simp only[di];omega;simp only[IE.af,JA,z61,di]at my;have hbt:b=true:=hb (by omega);subst hbt;refine lU (fun h=>?_) (fun _=>?_);have h:(!((e4 101).bool))=true:=h;rw[Rf]at h;cases h;refine yF (by simp only[IE.af,Nz,di];omega) (HO rfl ⟨⟨i+1,by omega,?_⟩,?_⟩);simp only[List.map,DE.af,BE.af,IE.af,z99,Nz,di,db];rfl;show((out.length:Int)-((e4 100).int+1)).toNat<((out.length:Int)-(i:Int)).toNat;rw[Nz];simp only[di];omega
end Go.Proofs.YtohebioanhliiaaGreatDoor.aN

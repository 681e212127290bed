/- Points and lines are trimmed alike by any order of sides: WholeSides' function gives true. -/
import Derived.Test.YtohebioanhliiaaGreatDoorJL1
import Derived.Test.YtohebioanhliiaaGreatDoorJZ2
set_option maxRecDepth 100000
set_option linter.unusedVariables false
set_option linter.unusedSimpArgs false
namespace Go.Proofs.YtohebioanhliiaaGreatDoor.aF
section
open Go.Sx Go
def afr:List DE:=[.i (.c 0),.i (.c 0),.i (.c 0),.i (.c 0),.i (.c 0),.i (.c 0),.i (.c 0),.i (.c 0),.i (.c 0),.i (.c 0),.i (.c 0),.i (.c 0),.i (.c 0),.i (.c 0),.i (.c 0),.i (.c 0),.b (.c false)]
def Cf(ln ld fn fd c:Nat):au:=.ev (.call 110 (.and (.lt (.c 0) (.v fd)) (.lt (.c 0) (.v ld))) [.i (.v ln),.i (.v ld),.i (.v fn),.i (.v fd)] [oB] c) (.ite (.and (.and (.lt (.c 0) (.v fd)) (.lt (.c 0) (.v ld))) (.v c)) (.ret afr)
 (.ev (.aG (r6 (.add (.v 24) (.c 1)))) (.again 71003 [.b (.v 23),.i (.add (.v 24) (.c 1)),.i (.v ln),.i (.v ld),.i (.v fn),.i (.v fd)])))
def I5:List DE:=[.i (.get 16 (.v 24) 0),.i (.get 16 (.v 24) 1),.i (.get 16 (.v 24) 2),.i (.get 16 (.v 24) 3),.i (.get 16 (.v 24) 4)]++iv 0 16
def rAt:List VT:=[.agg [.c i6,.c i6,.c i6,.c i6,.c i6,.c i6,.c i6,.c i6],oI]
def QX:au:=.ev (.aG (.le (.c 0) (.v 24))) (.ev (.call 109 (.c true) I5 [oI,oI,oI] 30) (.ite (.eq (.v 30) (.c 1))
 (.ev (.call 110 (.not (.eq (.v 28) (.c 0))) [.i (.v 27),.i (.v 28),.i (.v 31),.i (.v 32)] [oB] 34) (.ite (.or (.eq (.v 28) (.c 0)) (.v 34)) (Cf 25 26 31 32 35) (Cf 25 26 27 28 35)))
 (.ite (.eq (.v 30) (.c 2))
 (.ev (.call 110 (.not (.eq (.v 26) (.c 0))) [.i (.v 31),.i (.v 32),.i (.v 25),.i (.v 26)] [oB] 34) (.ite (.or (.eq (.v 26) (.c 0)) (.v 34)) (Cf 31 32 27 28 35) (Cf 25 26 27 28 35)))
 (.ite (.eq (.v 30) (.c 3)) (.ret afr) (Cf 25 26 27 28 34)))))
def XP:au:=.ite (.lt (.c 0) (.v 28)) (.ev (.call 111 (.c true) (iv 0 16++[.i (.v 27),.i (.v 28)]) rAt 1566) (.ite (.lt (.c 0) (.v 26)) (.ev (.call 111 (.c true) (iv 0 16++[.i (.v 25),.i (.v 26)]) rAt 1575) (.ret (iv 1566 8++iv 1575 8++[.b (.c true)]))) (.ret (iv 1566 8++iv 8 8++[.b (.c true)]))))
 (.ite (.lt (.c 0) (.v 26)) (.ev (.call 111 (.c true) (iv 0 16++[.i (.v 25),.i (.v 26)]) rAt 1566) (.ret (iv 0 8++iv 1566 8++[.b (.c true)]))) (.ret (iv 0 16++[.b (.c true)])))
def t71:au:=.loop 71003 [.b (.c false),.i (.c 0),.i (.c 0),.i (.c 0),.i (.c 0),.i (.c 0)] [.c (.b),.c i6,.c i6,.c i6,.c i6,.c i6] 23 (.ite (.lt (.v 24) (.len 16)) QX XP)
theorem T71:TT Tryz.prog 71=some ⟨71,t71,(rowOf 71).sub⟩:=by kernel_rfl
def Pt(u v s:List Int)(k n d:Int):Prop:=Gf 109 (cells 5 s++cells 8 u++cells 8 v) [.i k,.i n,.i d]
theorem Pt.uf{u v s:List Int}{k n d k' n' d':Int}(h:Pt u v s k n d)(h':Pt u v s k' n' d'):k=k'/\n=n'/\d=d':=by
 have:=cK.uf h h';injection this with h1 this;injection this with h2 this;injection this with h3 _;injection h1 with h1;injection h2 with h2;injection h3 with h3;exact⟨h1,h2,h3⟩
abbrev Fr(n d:Int):Prop:=0<=n/\n<=d/\1<=d/\d<=9223372036854775807
theorem Fr.i{n d:Int}(h:Fr n d):wJ n/\wJ d:=by constructor<;>constructor<;>omega
variable {u v:List Int}{S:List (List Int)}
def Bad(u v:List Int)(S:List (List Int)):Prop:=(∃s∈S,∃n d,Pt u v s 3 n d)\/∃s∈S,∃s'∈S,∃n d n' d',Pt u v s 1 n d/\Pt u v s' 2 n' d'/\n'*d<n*d'
def MW(u v:List Int)(S:List (List Int))(p:List DV):Prop:=((∀s∈S,∀n d,¬ Pt u v s 1 n d)/\p=cells 8 u)\/∃s∈S,∃n d e,Fr n d/\Pt u v s 1 n d/\(∀s'∈S,∀n' d',Pt u v s' 1 n' d'->n'*d<=n*d')/\Gf 111 (cells 8 u++cells 8 v++[.i n,.i d]) (p++[e])
def MX(u v:List Int)(S:List (List Int))(p:List DV):Prop:=((∀s∈S,∀n d,¬ Pt u v s 2 n d)/\p=cells 8 v)\/∃s∈S,∃n d e,Fr n d/\Pt u v s 2 n d/\(∀s'∈S,∀n' d',Pt u v s' 2 n' d'->n*d'<=n'*d)/\Gf 111 (cells 8 u++cells 8 v++[.i n,.i d]) (p++[e])
def We(u v:List Int)(S:List (List Int))(rs:List DV):Prop:=(Bad u v S/\rs=List.replicate 16 (.i 0)++[.b false])\/(¬ Bad u v S/\∃p q,rs=p++q++[.b true]/\p.length=8/\q.length=8/\MW u v S p/\MX u v S q)
structure qk(u v:List Int)(S:List (List Int))(i:Nat)(ln ld fn fd:Int):Prop where
 cw:∀j,j<i->∀n d,¬ Pt u v (S.getD j []) 3 n d
 fst:(fd=0/\∀j,j<i->∀n d,¬ Pt u v (S.getD j []) 1 n d)\/(Fr fn fd/\(∃j,j<i/\Pt u v (S.getD j []) 1 fn fd)/\∀j,j<i->∀n d,Pt u v (S.getD j []) 1 n d->n*fd<=fn*d)
 Wf:(ld=0/\∀j,j<i->∀n d,¬ Pt u v (S.getD j []) 2 n d)\/(Fr ln ld/\(∃j,j<i/\Pt u v (S.getD j []) 2 ln ld)/\∀j,j<i->∀n d,Pt u v (S.getD j []) 2 n d->ln*d<=n*ld)
theorem iF{j:Nat}(h:j<S.length):S.getD j []∈S:=by
 rw[cq,dG h];exact List.getElem_mem h
theorem mem_row{s:List Int}(h:s∈S):∃j,j<S.length/\S.getD j []=s:=by
 obtain⟨j,hj,e⟩:=List.getElem_of_mem h;exact⟨j,hj,by rw[cq,dG hj];exact e⟩
theorem rl{a b c d e f:Int}(hb:0<b)(hd:0<d)(hf:0<f)(h1:a*d<=c*b)(h2:c*f<=e*d):a*f<=e*b:=by
 have x1:=qF h1 (show 0<=f by omega);have x2:=qF h2 (show 0<=b by omega);refine Int.le_of_mul_le_mul_right (a:=d) ?_ hd;have e1:a*f*d=a*d*f:=by rw[Int.mul_assoc,ko f d,<- Int.mul_assoc]
 have e2:c*b*f=c*f*b:=by rw[Int.mul_assoc,ko b f,<- Int.mul_assoc]
 have e3:e*d*b=e*b*d:=by rw[Int.mul_assoc,ko d b,<- Int.mul_assoc]
 omega
section
variable {F:Nat->List DV->Prop}{e:az}
def I71(u v:List Int)(S:List (List Int))(vs:List DV):Prop:=∃(c:Bool) (i:Nat) (ln ld fn fd:Int),vs=[.b c,.i i,.i ln,.i ld,.i fn,.i fd]/\i<=S.length/\qk u v S i ln ld fn fd/\(1<=fd->1<=ld->¬ ln*fd<fn*ld)
abbrev E71:Nat->List DV->List DV->Prop:=fun g=>cK (TT Tryz.prog) XF ((⟨71,t71,(rowOf 71).sub⟩:iG).key g)
theorem tn{a b c d x:Nat}{q:Bool}{i:Nat}{ln ld fn fd:Int}(ha:e a = .i ln)(hb:e b = .i ld)(hc:e c = .i fn)(hd:e d = .i fd)(hx:a<x/\b<x/\c<x/\d<x/\24<x)(Kf:e 23 = .b q)(GQ:e 24 = .i i)(hi:i<S.length)
   (hI:qk u v S (i+1) ln ld fn fd):(Cf a b c d x).par E71 (We u v S) [] e (lN F 71003 (I71 u v S)):=by
 have fin:∀e':az,(∀k,k<x->e' k=e k)->(1<=fd->1<=ld->¬ ln*fd<fn*ld)->(au.ev (.aG (r6 (.add (.v 24) (.c 1)))) (.again 71003 [.b (.v 23),.i (.add (.v 24) (.c 1)),.i (.v a),.i (.v b),.i (.v c),.i (.v d)])).par E71 (We u v S) [] e' (lN F 71003 (I71 u v S)):=fun e' o gD=>by
   refine gn fun _=>re ⟨q,i+1,ln,ld,fn,fd,?_,by omega,hI,gD⟩;simp only[jK,nN,DE.af,IE.af,BE.af,o 23 (by omega),o 24 (by omega),o a (by omega),o b (by omega),o c (by omega),o d (by omega),ha,hb,hc,hd,Kf,GQ,di,db];rfl
 refine wx (fun hg r g=>?_) (fun hg=>?_);have hg:(decide (0<(e d).int)&&decide (0<(e b).int))=true:=hg;rw[hd,hb,ao,aC,aC]at hg;have hg:0<fd/\0<ld:=hg;obtain⟨f1,f2,_⟩:Fr fn fd/\(∃j,j<i+1/\Pt u v (S.getD j []) 1 fn fd)/\_:=hI.fst.resolve_left fun h=>by omega
 obtain⟨l1,l2,_⟩:Fr ln ld/\(∃j,j<i+1/\Pt u v (S.getD j []) 2 ln ld)/\_:=hI.Wf.resolve_left fun h=>by omega
 have g:Gf 110 [.i (e a).int,.i (e b).int,.i (e c).int,.i (e d).int] r:=bC bX (cD (by simp)) g;rw[ha,hb,hc,hd]at g;obtain rfl:=IN l1.i.1 l1.i.2 f1.i.1 f1.i.2 g;obtain⟨e',As,o,w⟩:=A7 e x [.b (decide (ln*fd<fn*ld))];have w:e' x = .b (decide (ln*fd<fn*ld)):=w 0 (by simp);show(au.ite _ _ _).par E71 (We u v S) [] (e.av x [.b (decide (ln*fd<fn*ld))]) _;rw[<- As];have QY:BE.af e' (.and (.and (.lt (.c 0) (.v d)) (.lt (.c 0) (.v b))) (.v x))=decide (ln*fd<fn*ld):=by
   show((decide (0<(e' d).int)&&decide (0<(e' b).int))&&(e' x).bool)=_;rw[o d (by omega),o b (by omega),hd,hb,w,gQ (show 0<(DV.i fd).int from hg.1),gQ (show 0<(DV.i ld).int from hg.2)];rfl
 refine iC (fun h=>fe (.inl ⟨?_,rfl⟩)) (fun h=>fin e' o fun _ _=>?_);rw[QY,aC]at h;obtain⟨j,hj,p⟩:=f2;obtain⟨k,hk,p'⟩:=l2;exact .inr ⟨_,iF (by omega),_,iF (by omega),_,_,_,_,p,p',h⟩;rw[QY,tZ]at h;exact h;have hg:(decide (0<(e d).int)&&decide (0<(e b).int))=false:=hg;rw[hd,hb]at hg;have hg:(decide (0<fd)&&decide (0<ld))=false:=hg;obtain⟨e',As,o,_⟩:=A7 e x (defs (bI [oB]));rw[<- As];refine IH ?_ (fin e' o fun h1 h2=>?_);show((decide (0<(e' d).int)&&decide (0<(e' b).int))&&(e' x).bool)=false;rw[o d (by omega),o b (by omega),hd,hb];show((decide (0<fd)&&decide (0<ld))&&_)=false;rw[hg];rfl;rw[gQ (show 0<fd by omega),gQ (show 0<ld by omega)]at hg;cases hg
theorem qk.stay{i:Nat}{ln ld fn fd:Int}(h:qk u v S i ln ld fn fd){k n d:Int}(hp:Pt u v (S.getD i []) k n d)(h3:k≠3)(h1:k=1->1<=fd/\n*fd<=fn*d)(h2:k=2->1<=ld/\ln*d<=n*ld):qk u v S (i+1) ln ld fn fd:=by
 refine⟨fun j hj n' d' p=>?_,?_,?_⟩;by_cases e:j=i;subst e;exact h3 (hp.uf p).1;exact h.cw j (by omega) _ _ p;rcases h.fst with⟨z,a⟩|⟨a,⟨j,hj,b⟩,c⟩;refine .inl ⟨z,fun j hj n' d' p=>?_⟩;by_cases e:j=i;subst e;have:=(h1 (hp.uf p).1).1;omega;exact a j (by omega) _ _ p;refine .inr ⟨a,⟨j,by omega,b⟩,fun j hj n' d' p=>?_⟩;by_cases e:j=i;subst e;obtain⟨e1,e2,e3⟩:=hp.uf p;subst e2 e3;exact(h1 e1).2;exact c j (by omega) _ _ p;rcases h.Wf with⟨z,a⟩|⟨a,⟨j,hj,b⟩,c⟩;refine .inl ⟨z,fun j hj n' d' p=>?_⟩;by_cases e:j=i;subst e;have:=(h2 (hp.uf p).1).1;omega;exact a j (by omega) _ _ p;refine .inr ⟨a,⟨j,by omega,b⟩,fun j hj n' d' p=>?_⟩;by_cases e:j=i;subst e;obtain⟨e1,e2,e3⟩:=hp.uf p;subst e2 e3;exact(h2 e1).2;exact c j (by omega) _ _ p
def Pos(u v:List Int)(S:List (List Int)):Prop:=∀s∈S,∀k n d,Pt u v s k n d->k=1\/k=2->Fr n d
theorem qk.ang(H:Pos u v S){i:Nat}(hi:i<S.length){ln ld fn fd:Int}(h:qk u v S i ln ld fn fd){n d:Int}(hp:Pt u v (S.getD i []) 1 n d)(hn:fd=0\/fn*d<n*fd):qk u v S (i+1) ln ld n d:=by
 have hf:=H _ (iF hi) _ _ _ hp (.inl rfl);refine⟨fun j hj n' d' p=>?_,.inr ⟨hf,⟨i,by omega,hp⟩,fun j hj n' d' p=>?_⟩,?_⟩;by_cases e:j=i;subst e;have:=(hp.uf p).1;omega
 exact h.cw j (by omega) _ _ p;by_cases e:j=i;subst e;obtain⟨_,e2,e3⟩:=hp.uf p;subst e2 e3;exact Int.le_refl _;rcases h.fst with⟨z,a⟩|⟨a,_,c⟩;exact absurd p (a j (by omega) _ _);have h1:=c j (by omega) _ _ p;have h2:fn*d<n*fd:=by rcases hn with z|z<;>omega
 have YK:=H _ (iF (show j<S.length by omega)) _ _ _ p (.inl rfl);exact rl (show 0<d' by omega) (show 0<fd by omega) (show 0<d by omega) h1 (by omega);rcases h.Wf with⟨z,a⟩|⟨a,⟨j,hj,b⟩,c⟩;refine .inl ⟨z,fun j hj n' d' p=>?_⟩;by_cases e:j=i;subst e;have:=(hp.uf p).1;omega
 exact a j (by omega) _ _ p;refine .inr ⟨a,⟨j,by omega,b⟩,fun j hj n' d' p=>?_⟩;by_cases e:j=i;subst e;have:=(hp.uf p).1;omega
 exact c j (by omega) _ _ p
theorem qk.anh(H:Pos u v S){i:Nat}(hi:i<S.length){ln ld fn fd:Int}(h:qk u v S i ln ld fn fd){n d:Int}(hp:Pt u v (S.getD i []) 2 n d)(hn:ld=0\/n*ld<ln*d):qk u v S (i+1) n d fn fd:=by
 have hf:=H _ (iF hi) _ _ _ hp (.inr rfl);refine⟨fun j hj n' d' p=>?_,?_,.inr ⟨hf,⟨i,by omega,hp⟩,fun j hj n' d' p=>?_⟩⟩;by_cases e:j=i;subst e;have:=(hp.uf p).1;omega
 exact h.cw j (by omega) _ _ p;rcases h.fst with⟨z,a⟩|⟨a,⟨j,hj,b⟩,c⟩;refine .inl ⟨z,fun j hj n' d' p=>?_⟩;by_cases e:j=i;subst e;have:=(hp.uf p).1;omega
 exact a j (by omega) _ _ p;refine .inr ⟨a,⟨j,by omega,b⟩,fun j hj n' d' p=>?_⟩;by_cases e:j=i;subst e;have:=(hp.uf p).1;omega
 exact c j (by omega) _ _ p;by_cases e:j=i;subst e;obtain⟨_,e2,e3⟩:=hp.uf p;subst e2 e3;exact Int.le_refl _;rcases h.Wf with⟨z,a⟩|⟨a,_,c⟩;exact absurd p (a j (by omega) _ _);have h1:=c j (by omega) _ _ p;have h2:n*ld<ln*d:=by rcases hn with z|z<;>omega
 have YK:=H _ (iF (show j<S.length by omega)) _ _ _ p (.inr rfl);exact rl (show 0<d by omega) (show 0<ld by omega) (show 0<d' by omega) (Int.le_of_lt h2) h1
theorem QZ:kI 109=some ⟨(kI 109).get!.args,[oI,oI,oI],0⟩/\kI 111=some ⟨(kI 111).get!.args,[.agg [.c i6,.c i6,.c i6,.c i6,.c i6,.c i6,.c i6,.c i6],oI],0⟩:=⟨by kernel_rfl,by kernel_rfl⟩
theorem I6(H:Pos u v S){q:Bool}{i:Nat}{ln ld fn fd:Int}(hu:∀k,k<8->e k = .i (u.getD k 0))(hv:∀k,k<8->e (8+k) = .i (v.getD k 0))(Xw:e 16 = .l S)(Kf:e 23 = .b q)(GQ:e 24 = .i i)(Qd:e 25 = .i ln)(Fg:e 26 = .i ld)(Np:e 27 = .i fn)(IG:e 28 = .i fd)(hi:i<S.length)
   (hI:qk u v S i ln ld fn fd) (gD:1<=fd->1<=ld->¬ ln*fd<fn*ld):QX.par E71 (We u v S) [] e (lN F 71003 (I71 u v S)):=by
 refine gn fun _=>cM fun r g=>?_;have ea:I5.map (DE.af e)=cells 5 (S.getD i [])++cells 8 u++cells 8 v:=by
   have h0:=hu 0 (by omega);have h1:=hu 1 (by omega);have h2:=hu 2 (by omega);have h3:=hu 3 (by omega);have h4:=hu 4 (by omega);have h5:=hu 5 (by omega);have h6:=hu 6 (by omega);have h7:=hu 7 (by omega)
   have k0:=hv 0 (by omega);have k1:=hv 1 (by omega);have k2:=hv 2 (by omega);have k3:=hv 3 (by omega);have k4:=hv 4 (by omega);have k5:=hv 5 (by omega);have k6:=hv 6 (by omega);have k7:=hv 7 (by omega)
   simp only[I5,iv,jK,nN,qt,mP,DE.af,IE.af,Xw,GQ,h0,h1,h2,h3,h4,h5,h6,h7,k0,k1,k2,k3,k4,k5,k6,k7,di,dl,cellAt,qm,show(8:Nat)+0=8 from rfl,Nat.reduceAdd]at *;rfl
 rw[ea]at g;have g:Gf 109 (cells 5 (S.getD i [])++cells 8 u++cells 8 v) r:=bC bX (cD (by simp)) g;obtain⟨k,n,d,rfl⟩:∃k n d:Int,r=[.i k,.i n,.i d]:=by
   have:=bX.kd 109 _ _ _ QZ.1 g;obtain⟨a,r0,rfl,k0⟩:=dj this;obtain⟨b,r1,rfl,k1⟩:=dj k0;obtain⟨c,r2,rfl,k2⟩:=dj k1;obtain rfl:=iT k2;exact⟨a,b,c,rfl⟩
 have hp:Pt u v (S.getD i []) k n d:=g;obtain⟨e1,lH,o1,w1⟩:=A7 e 30 [.i k,.i n,.i d];have v30:e1 30 = .i k:=w1 0 (by simp);have v31:e1 31 = .i n:=w1 1 (by simp);have v32:e1 32 = .i d:=w1 2 (by simp);rw[<- lH];refine EZ (fun hk=>?_) (fun ud=>?_);have hk:(e1 30).int=1:=hk;rw[v30]at hk;have hk:k=1:=hk;subst hk;have hf:=H _ (iF hi) _ _ _ hp (.inl rfl);have go:∀e2:az,(∀j,j<34->e2 j=e1 j)->(fd≠0->e2 34 = .b (decide (fn*d<n*fd)))->(au.ite (.or (.eq (.v 28) (.c 0)) (.v 34)) (Cf 25 26 31 32 35) (Cf 25 26 27 28 35)).par E71 (We u v S) [] e2 (lN F 71003 (I71 u v S)):=fun e2 o2 Xy=>by
   have QY:BE.af e2 (.or (.eq (.v 28) (.c 0)) (.v 34))=(decide (fd=0)||(e2 34).bool):=by
     show(decide ((e2 28).int=0)||(e2 34).bool)=_;rw[o2 28 (by omega),o1 28 (by omega),IG];rfl
   refine iC (fun hc=>?_) (fun hc=>?_);refine tn (by rw[o2 _ (by omega),o1 _ (by omega)];exact Qd) (by rw[o2 _ (by omega),o1 _ (by omega)];exact Fg) (by rw[o2 _ (by omega)];exact v31) (by rw[o2 _ (by omega)];exact v32) (by omega) (by rw[o2 _ (by omega),o1 _ (by omega)];exact Kf) (by rw[o2 _ (by omega),o1 _ (by omega)];exact GQ) hi (hI.ang H hi hp ?_);rw[QY,fF,aC]at hc;by_cases z:fd=0;exact .inl z;rw[Xy z]at hc;exact .inr (mC (hc.resolve_left z));rw[QY,uL,tZ]at hc;have kN:=hc.2;rw[Xy hc.1]at kN;have kN:¬ fn*d<n*fd:=Fc kN;refine tn (by rw[o2 _ (by omega),o1 _ (by omega)];exact Qd) (by rw[o2 _ (by omega),o1 _ (by omega)];exact Fg) (by rw[o2 _ (by omega),o1 _ (by omega)];exact Np) (by rw[o2 _ (by omega),o1 _ (by omega)];exact IG) (by omega) (by rw[o2 _ (by omega),o1 _ (by omega)];exact Kf) (by rw[o2 _ (by omega),o1 _ (by omega)];exact GQ) hi (hI.stay hp (by omega) (fun _=>⟨?_,by omega⟩) (fun h=>by omega));rcases hI.fst with⟨z,_⟩|⟨a,_⟩;exact absurd z hc.1;exact a.2.2.1
 refine wx (fun hg r2 g2=>?_) (fun hg=>?_);have hg:(!(decide ((e1 28).int=0)))=true:=hg;rw[o1 28 (by omega),IG]at hg;have hz:¬ fd=0:=by rw[mg]at hg;exact Fc hg
 have fr:Fr fn fd:=by rcases hI.fst with⟨z,_⟩|⟨a,_⟩;exact absurd z hz;exact a
 have g2:Gf 110 [.i (e1 27).int,.i (e1 28).int,.i (e1 31).int,.i (e1 32).int] r2:=bC bX (cD (by simp)) g2;rw[o1 27 (by omega),o1 28 (by omega),Np,IG,v31,v32]at g2;obtain rfl:=IN fr.i.1 fr.i.2 hf.i.1 hf.i.2 g2;obtain⟨e2,pz,o2,w2⟩:=A7 e1 34 [.b (decide (fn*d<n*fd))];show(au.ite _ _ _).par _ _ _ (e1.av 34 [.b (decide (fn*d<n*fd))]) _;rw[<- pz];exact go e2 o2 fun _=>w2 0 (by simp);have hg:(!(decide ((e1 28).int=0)))=false:=hg;rw[o1 28 (by omega),IG]at hg;have hz:fd=0:=by rw[Bool.not_eq_false']at hg;exact mC hg
 obtain⟨e2,pz,o2,w2⟩:=A7 e1 34 (defs (bI [oB]));rw[<- pz];exact go e2 o2 fun h=>absurd hz h;have ud:¬ k=1:=by have ud:¬ (e1 30).int=1:=ud;rw[v30]at ud;exact ud
 refine EZ (fun hk=>?_) (fun rC=>?_);have hk:(e1 30).int=2:=hk;rw[v30]at hk;have hk:k=2:=hk;subst hk;have hf:=H _ (iF hi) _ _ _ hp (.inr rfl);have go:∀e2:az,(∀j,j<34->e2 j=e1 j)->(ld≠0->e2 34 = .b (decide (n*ld<ln*d)))->(au.ite (.or (.eq (.v 26) (.c 0)) (.v 34)) (Cf 31 32 27 28 35) (Cf 25 26 27 28 35)).par E71 (We u v S) [] e2 (lN F 71003 (I71 u v S)):=fun e2 o2 Xy=>by
   have QY:BE.af e2 (.or (.eq (.v 26) (.c 0)) (.v 34))=(decide (ld=0)||(e2 34).bool):=by
     show(decide ((e2 26).int=0)||(e2 34).bool)=_;rw[o2 26 (by omega),o1 26 (by omega),Fg];rfl
   refine iC (fun hc=>?_) (fun hc=>?_);refine tn (by rw[o2 _ (by omega)];exact v31) (by rw[o2 _ (by omega)];exact v32) (by rw[o2 _ (by omega),o1 _ (by omega)];exact Np) (by rw[o2 _ (by omega),o1 _ (by omega)];exact IG) (by omega) (by rw[o2 _ (by omega),o1 _ (by omega)];exact Kf) (by rw[o2 _ (by omega),o1 _ (by omega)];exact GQ) hi (hI.anh H hi hp ?_);rw[QY,fF,aC]at hc;by_cases z:ld=0;exact .inl z;rw[Xy z]at hc;exact .inr (mC (hc.resolve_left z));rw[QY,uL,tZ]at hc;have kN:=hc.2;rw[Xy hc.1]at kN;have kN:¬ n*ld<ln*d:=Fc kN;refine tn (by rw[o2 _ (by omega),o1 _ (by omega)];exact Qd) (by rw[o2 _ (by omega),o1 _ (by omega)];exact Fg) (by rw[o2 _ (by omega),o1 _ (by omega)];exact Np) (by rw[o2 _ (by omega),o1 _ (by omega)];exact IG) (by omega) (by rw[o2 _ (by omega),o1 _ (by omega)];exact Kf) (by rw[o2 _ (by omega),o1 _ (by omega)];exact GQ) hi (hI.stay hp (by omega) (fun h=>by omega) (fun _=>⟨?_,by omega⟩));rcases hI.Wf with⟨z,_⟩|⟨a,_⟩;exact absurd z hc.1;exact a.2.2.1
 refine wx (fun hg r2 g2=>?_) (fun hg=>?_);have hg:(!(decide ((e1 26).int=0)))=true:=hg;rw[o1 26 (by omega),Fg]at hg;have hz:¬ ld=0:=by rw[mg]at hg;exact Fc hg
 have fr:Fr ln ld:=by rcases hI.Wf with⟨z,_⟩|⟨a,_⟩;exact absurd z hz;exact a
 have g2:Gf 110 [.i (e1 31).int,.i (e1 32).int,.i (e1 25).int,.i (e1 26).int] r2:=bC bX (cD (by simp)) g2;rw[o1 25 (by omega),o1 26 (by omega),Qd,Fg,v31,v32]at g2;obtain rfl:=IN hf.i.1 hf.i.2 fr.i.1 fr.i.2 g2;obtain⟨e2,pz,o2,w2⟩:=A7 e1 34 [.b (decide (n*ld<ln*d))];show(au.ite _ _ _).par _ _ _ (e1.av 34 [.b (decide (n*ld<ln*d))]) _;rw[<- pz];exact go e2 o2 fun _=>w2 0 (by simp);have hg:(!(decide ((e1 26).int=0)))=false:=hg;rw[o1 26 (by omega),Fg]at hg;have hz:ld=0:=by rw[Bool.not_eq_false']at hg;exact mC hg
 obtain⟨e2,pz,o2,w2⟩:=A7 e1 34 (defs (bI [oB]));rw[<- pz];exact go e2 o2 fun h=>absurd hz h;have rC:¬ k=2:=by have rC:¬ (e1 30).int=2:=rC;rw[v30]at rC;exact rC
 refine EZ (fun hk=>fe (.inl ⟨.inl ⟨_,iF hi,n,d,?_⟩,rfl⟩)) (fun QV=>?_);have hk:(e1 30).int=3:=hk;rw[v30]at hk;have hk:k=3:=hk;subst hk;exact hp;have QV:¬ k=3:=by have QV:¬ (e1 30).int=3:=QV;rw[v30]at QV;exact QV
 exact tn (by rw[o1 _ (by omega)];exact Qd) (by rw[o1 _ (by omega)];exact Fg) (by rw[o1 _ (by omega)];exact Np) (by rw[o1 _ (by omega)];exact IG) (by omega) (by rw[o1 _ (by omega)];exact Kf) (by rw[o1 _ (by omega)];exact GQ) hi (hI.stay hp QV (fun h=>absurd h ud) (fun h=>absurd h rC))
theorem eight{ds rs:List DV}(hg:Gf 111 ds rs):∃p e,rs=p++[e]/\p.length=8/\∀j,j<8->∃x,p.getD j (.i 0) = .i x:=by
 have:=bX.kd 111 _ _ _ QZ.2 hg;obtain⟨x0,r0,rfl,k0⟩:=dj this;obtain⟨x1,r1,rfl,k1⟩:=dj k0;obtain⟨x2,r2,rfl,k2⟩:=dj k1;obtain⟨x3,r3,rfl,k3⟩:=dj k2;obtain⟨x4,r4,rfl,k4⟩:=dj k3;obtain⟨x5,r5,rfl,k5⟩:=dj k4;obtain⟨x6,r6,rfl,k6⟩:=dj k5;obtain⟨x7,r7,rfl,k7⟩:=dj k6;obtain⟨x8,r8,rfl,k8⟩:=dj k7;obtain rfl:=iT k8;refine⟨[.i x0,.i x1,.i x2,.i x3,.i x4,.i x5,.i x6,.i x7],.i x8,rfl,rfl,fun j hj=>?_⟩
 match j,hj with
 |0,_=>exact⟨_,rfl⟩
 |1,_=>exact⟨_,rfl⟩
 |2,_=>exact⟨_,rfl⟩
 |3,_=>exact⟨_,rfl⟩
 |4,_=>exact⟨_,rfl⟩
 |5,_=>exact⟨_,rfl⟩
 |6,_=>exact⟨_,rfl⟩
 |7,_=>exact⟨_,rfl⟩
theorem zx:∀ {n b:Nat} {p:List DV},p.length=n->(∀j,j<n->e (b+j)=p.getD j (.i 0))->(∀j,j<n->∃x,p.getD j (.i 0) = .i x)->(iv b n).map (DE.af e)=p:=by
 intro n;induction n with
 | zero=>intro b p h _ _;cases p with
   |nil=>rfl
   |cons _ _=>simp at h
 | succ n ih=>
   intro b p h ha hx;cases p with
   |nil=>simp at h
   | cons d p=>
     have h0:=ha 0 (by omega);obtain⟨x,hx0⟩:=hx 0 (by omega);simp only[List.getD_cons_zero]at h0 hx0;have:=ih (b:=b+1) (p:=p) (by simpa using h) (fun j hj=>by have:=ha (j+1) (by omega);simpa[Nat.add_assoc,Nat.add_comm 1 j]using this) (fun j hj=>by simpa using hx (j+1) (by omega));simp only[iv,jK,this];congr 1;show DV.i (e b).int=d;rw[show e b=d from h0,hx0];rfl
theorem G9{w:List Int}{b:Nat}(h:∀k,k<8->e (b+k) = .i (w.getD k 0)):(iv b 8).map (DE.af e)=cells 8 w:=by
 refine zx rfl (fun j hj=>?_) (fun j hj=>?_);rw[h j hj]
 match j,hj with
 |0,_=>rfl
 |1,_=>rfl
 |2,_=>rfl
 |3,_=>rfl
 |4,_=>rfl
 |5,_=>rfl
 |6,_=>rfl
 |7,_=>rfl
 match j,hj with
 |0,_=>exact⟨_,rfl⟩
 |1,_=>exact⟨_,rfl⟩
 |2,_=>exact⟨_,rfl⟩
 |3,_=>exact⟨_,rfl⟩
 |4,_=>exact⟨_,rfl⟩
 |5,_=>exact⟨_,rfl⟩
 |6,_=>exact⟨_,rfl⟩
 |7,_=>exact⟨_,rfl⟩
theorem aaI(b m n:Nat):iv b (m+n)=iv b m++iv (b+m) n:=by
 induction m generalizing b with
 |zero=>simp[iv]
 | succ m ih=>
   rw[show m+1+n=(m+n)+1 by omega];simp only[iv,qt,ih,show b+1+m=b+(m+1)by omega]
theorem MY(H:Pos u v S){q:Bool}{i:Nat}{ln ld fn fd:Int}(hu:∀k,k<8->e (0+k) = .i (u.getD k 0))(hv:∀k,k<8->e (8+k) = .i (v.getD k 0))(Qd:e 25 = .i ln)(Fg:e 26 = .i ld)(Np:e 27 = .i fn)(IG:e 28 = .i fd)(hi:i=S.length)
   (hI:qk u v S i ln ld fn fd) (gD:1<=fd->1<=ld->¬ ln*fd<fn*ld) {F:Nat->List DV->Prop}:XP.par E71 (We u v S) [] e F:=by
 subst hi;have KI:¬ Bad u v S:=by
   rintro(⟨s,hs,n,d,p⟩|⟨s,hs,s',ir,n,d,n',d',p,p',cJ⟩);obtain⟨j,hj,rfl⟩:=mem_row hs;exact hI.cw j hj _ _ p;have f1:=H _ hs _ _ _ p (.inl rfl);have f2:=H _ ir _ _ _ p' (.inr rfl);obtain⟨j,hj,rfl⟩:=mem_row hs;obtain⟨k,hk,rfl⟩:=mem_row ir;rcases hI.fst with⟨_,a⟩|⟨fa,_,a⟩;exact a j hj _ _ p;rcases hI.Wf with⟨_,b⟩|⟨fb,_,b⟩;exact b k hk _ _ p';have h1:=a j hj _ _ p;have h2:=b k hk _ _ p';have h3:=gD fa.2.2.1 fb.2.2.1;have t1:=rl (a:=n) (b:=d) (c:=fn) (d:=fd) (e:=ln) (f:=ld) (by omega) (by omega) (by omega) h1 (by omega);have t2:=rl (a:=n) (b:=d) (c:=ln) (d:=ld) (e:=n') (f:=d') (by omega) (by omega) (by omega) t1 h2;omega
 have afs:¬ 0<fd->MW u v S (cells 8 u):=fun h=>by
   refine .inl ⟨fun s hs n d p=>?_,rfl⟩;obtain⟨j,hj,rfl⟩:=mem_row hs;rcases hI.fst with⟨_,a⟩|⟨fa,_⟩;exact a j hj _ _ p;omega
 have aft:¬ 0<ld->MX u v S (cells 8 v):=fun h=>by
   refine .inl ⟨fun s hs n d p=>?_,rfl⟩;obtain⟨j,hj,rfl⟩:=mem_row hs;rcases hI.Wf with⟨_,a⟩|⟨fa,_⟩;exact a j hj _ _ p;omega
 have afu:0<fd->∀p x,Gf 111 (cells 8 u++cells 8 v++[.i fn,.i fd]) (p++[x])->MW u v S p:=fun h p x g=>by
   rcases hI.fst with⟨z,_⟩|⟨fa,⟨j,hj,b⟩,c⟩;omega;refine .inr ⟨_,iF hj,fn,fd,x,fa,b,fun s hs n d p=>?_,g⟩;obtain⟨k,hk,rfl⟩:=mem_row hs;exact c k hk _ _ p
 have afv:0<ld->∀p x,Gf 111 (cells 8 u++cells 8 v++[.i ln,.i ld]) (p++[x])->MX u v S p:=fun h p x g=>by
   rcases hI.Wf with⟨z,_⟩|⟨fa,⟨j,hj,b⟩,c⟩;omega;refine .inr ⟨_,iF hj,ln,ld,x,fa,b,fun s hs n d p=>?_,g⟩;obtain⟨k,hk,rfl⟩:=mem_row hs;exact c k hk _ _ p
 have cu:=G9 hu;have cv:=G9 hv;have c16:(iv 0 16).map (DE.af e)=cells 8 u++cells 8 v:=by rw[show(16:Nat)=8+8 from rfl,aaI,ml,cu,cv]
 have l8:∀w:List Int,(cells 8 w).length=8:=fun w=>by simp[cells]
 refine ri (fun hf=>?_) (fun hf=>?_);have hf:0<fd:=by have hf:0<(e 28).int:=hf;rw[IG]at hf;exact hf
 refine cM fun r1 g1=>?_;rw[ml,c16]at g1;have g1:Gf 111 (cells 8 u++cells 8 v++[.i (e 27).int,.i (e 28).int]) r1:=bC bX (cD (by simp)) g1;rw[Np,IG]at g1;obtain⟨p,x,rfl,hp,hx⟩:=eight g1;obtain⟨e1,lH,o1,w1⟩:=A7 e 1566 (p++[x]);have cp:(iv 1566 8).map (DE.af e1)=p:=zx hp (fun j hj=>by rw[w1 j (by simp;omega)];simp only[cq,mJ (show j<p.length by omega)]) hx;rw[<- lH];refine ri (fun hl=>?_) (fun hl=>?_);have hl:0<ld:=by have hl:0<(e1 26).int:=hl;rw[o1 26 (by omega),Fg]at hl;exact hl
 refine cM fun r2 g2=>?_;have ani:(iv 0 16).map (DE.af e1)=cells 8 u++cells 8 v:=by
   rw[<- c16];refine rm fun d hd=>DE.tS (p:=fun k=>Nat.ble k 15) (fun k hk=>o1 k (by have:=Nat.le_of_ble_eq_true hk;omega)) (jE.1 (show(iv 0 16).all (DE.all fun k=>Nat.ble k 15)=true by kernel_rfl) d hd)
 rw[ml,ani]at g2;have g2:Gf 111 (cells 8 u++cells 8 v++[.i (e1 25).int,.i (e1 26).int]) r2:=bC bX (cD (by simp)) g2;rw[o1 25 (by omega),o1 26 (by omega),Qd,Fg]at g2;obtain⟨p2,x2,rfl,TJ,Nx⟩:=eight g2;obtain⟨e2,pz,o2,w2⟩:=A7 e1 1575 (p2++[x2]);have cp2:(iv 1575 8).map (DE.af e2)=p2:=zx TJ (fun j hj=>by rw[w2 j (by simp;omega)];simp only[cq,mJ (show j<p2.length by omega)]) Nx;have cp':(iv 1566 8).map (DE.af e2)=p:=by
   rw[<- cp];refine rm fun d hd=>DE.tS (p:=fun k=>Nat.ble k 1573) (fun k hk=>o2 k (by have:=Nat.le_of_ble_eq_true hk;omega)) (jE.1 (show(iv 1566 8).all (DE.all fun k=>Nat.ble k 1573)=true by kernel_rfl) d hd)
 rw[<- pz];refine A6 (rs:=p++p2++[.b true]) ?_ (.inr ⟨KI,p,p2,rfl,hp,TJ,afu hf _ _ g1,afv hl _ _ g2⟩);rw[ml,ml,cp',cp2];rfl;have hl:¬ 0<ld:=by have hl:(e1 26).int<=0:=hl;rw[o1 26 (by omega),Fg]at hl;have hl:ld<=0:=hl;omega
 have cv':(iv 8 8).map (DE.af e1)=cells 8 v:=by
   rw[<- cv];refine rm fun d hd=>DE.tS (p:=fun k=>Nat.ble k 15) (fun k hk=>o1 k (by have:=Nat.le_of_ble_eq_true hk;omega)) (jE.1 (show(iv 8 8).all (DE.all fun k=>Nat.ble k 15)=true by kernel_rfl) d hd)
 refine A6 (rs:=p++cells 8 v++[.b true]) ?_ (.inr ⟨KI,p,cells 8 v,rfl,hp,l8 v,afu hf _ _ g1,aft hl⟩);rw[ml,ml,cp,cv'];rfl;have hf:¬ 0<fd:=by have hf:(e 28).int<=0:=hf;rw[IG]at hf;have hf:fd<=0:=hf;omega
 refine ri (fun hl=>?_) (fun hl=>?_);have hl:0<ld:=by have hl:0<(e 26).int:=hl;rw[Fg]at hl;exact hl
 refine cM fun r2 g2=>?_;rw[ml,c16]at g2;have g2:Gf 111 (cells 8 u++cells 8 v++[.i (e 25).int,.i (e 26).int]) r2:=bC bX (cD (by simp)) g2;rw[Qd,Fg]at g2;obtain⟨p2,x2,rfl,TJ,Nx⟩:=eight g2;obtain⟨e2,pz,o2,w2⟩:=A7 e 1566 (p2++[x2]);have cp2:(iv 1566 8).map (DE.af e2)=p2:=zx TJ (fun j hj=>by rw[w2 j (by simp;omega)];simp only[cq,mJ (show j<p2.length by omega)]) Nx;have cu':(iv 0 8).map (DE.af e2)=cells 8 u:=by
   rw[<- cu];refine rm fun d hd=>DE.tS (p:=fun k=>Nat.ble k 15) (fun k hk=>o2 k (by have:=Nat.le_of_ble_eq_true hk;omega)) (jE.1 (show(iv 0 8).all (DE.all fun k=>Nat.ble k 15)=true by kernel_rfl) d hd)
 rw[<- pz];refine A6 (rs:=cells 8 u++p2++[.b true]) ?_ (.inr ⟨KI,cells 8 u,p2,rfl,l8 u,TJ,afs hf,afv hl _ _ g2⟩);rw[ml,ml,cu',cp2];rfl;have hl:¬ 0<ld:=by have hl:(e 26).int<=0:=hl;rw[Fg]at hl;have hl:ld<=0:=hl;omega
 refine A6 (rs:=cells 8 u++cells 8 v++[.b true]) ?_ (.inr ⟨KI,cells 8 u,cells 8 v,rfl,l8 u,l8 v,afs hf,aft hl⟩);rw[ml,c16];rfl
theorem Q0(H:Pos u v S){rs:List DV}(hg:Gf 71 (cells 8 u++cells 8 v++[.l S]) rs):We u v S rs:=by
 refine cX (R:=We u v S) T71 ?_ hg;obtain⟨e,he⟩:∃e,e=aR.av 0 (cells 8 u++cells 8 v++[DV.l S]):=⟨_,rfl⟩;have hu:∀k,k<8->e (0+k) = .i (u.getD k 0):=fun k hk=>by
   rw[he,fC]
   match k,hk with
   |0,_=>rfl
   |1,_=>rfl
   |2,_=>rfl
   |3,_=>rfl
   |4,_=>rfl
   |5,_=>rfl
   |6,_=>rfl
   |7,_=>rfl
 have hv:∀k,k<8->e (8+k) = .i (v.getD k 0):=fun k hk=>by
   rw[he]
   match k,hk with
   |0,_=>rfl
   |1,_=>rfl
   |2,_=>rfl
   |3,_=>rfl
   |4,_=>rfl
   |5,_=>rfl
   |6,_=>rfl
   |7,_=>rfl
 have Xw:e 16 = .l S:=by rw[he];rfl
 rw[<- he];refine xG (I71 u v S) ⟨false,0,0,0,0,0,rfl,by omega,⟨fun j hj=>by omega,.inl ⟨rfl,fun j hj=>by omega⟩,.inl ⟨rfl,fun j hj=>by omega⟩⟩,fun h=>by omega⟩ ?_;rintro _ ⟨c,i,ln,ld,fn,fd,rfl,hi,hI,gD⟩;obtain⟨e1,lH,o1,w1⟩:=A7 e 23 [.b c,.i i,.i ln,.i ld,.i fn,.i fd];have v23:e1 23 = .b c:=w1 0 (by simp);have v24:e1 24 = .i i:=w1 1 (by simp);have v25:e1 25 = .i ln:=w1 2 (by simp);have v26:e1 26 = .i ld:=w1 3 (by simp);have v27:e1 27 = .i fn:=w1 4 (by simp);have v28:e1 28 = .i fd:=w1 5 (by simp);rw[<- lH];refine ri (fun cJ=>?_) (fun mF=>?_);have cJ:(e1 24).int<(e1 16).list.length:=cJ;rw[v24,o1 16 (by omega),Xw]at cJ;have cJ:(i:Int)<S.length:=cJ;exact I6 H (fun k hk=>by rw[o1 k (by omega)];have:=hu k hk;rwa[fC]at this) (fun k hk=>by rw[o1 _ (by omega)];exact hv k hk) (by rw[o1 16 (by omega)];exact Xw) v23 v24 v25 v26 v27 v28 (by omega) hI gD;have mF:((e1 16).list.length:Int)<=(e1 24).int:=mF;rw[v24,o1 16 (by omega),Xw]at mF;have mF:(S.length:Int)<=i:=mF;exact MY H (q:=c) (fun k hk=>by rw[o1 _ (by omega)];exact hu k hk) (fun k hk=>by rw[o1 _ (by omega)];exact hv k hk) v25 v26 v27 v28 (by omega) hI gD
end
end
section
open Go.Sx Go
variable {u v:List Int}{S T:List (List Int)}
theorem Bad.of(h:∀s,s∈S->s∈T)(hb:Bad u v S):Bad u v T:=by
 rcases hb with⟨s,hs,n,d,p⟩|⟨s,hs,s',ir,n,d,n',d',p,p',cJ⟩;exact .inl ⟨s,h s hs,n,d,p⟩;exact .inr ⟨s,h s hs,s',h s' ir,n,d,n',d',p,p',cJ⟩
theorem KJ{p q:List DV}{x y:DV}(h:p++[x]=q++[y]):p=q:=(List.append_inj' h rfl).1
theorem MW.same(h:∀s,s∈S↔s∈T){p q:List DV}(hp:MW u v S p)(hq:MW u v T q):p=q:=by
 rcases hp with⟨a,rfl⟩|⟨s,hs,n,d,e,f,pt,mx,g⟩<;>rcases hq with⟨b,rfl⟩|⟨s',ir,n',d',e',f',pt',mx',g'⟩;rfl;exact absurd pt' (a s' ((h s').2 ir) _ _);exact absurd pt (b s ((h s).1 hs) _ _);have h1:=mx s' ((h s').2 ir) _ _ pt';have h2:=mx' s ((h s).1 hs) _ _ pt;exact KJ (G3 f.1 f.2.1 f.2.2.1 f.2.2.2 f'.1 f'.2.1 f'.2.2.1 f'.2.2.2 (Int.le_antisymm h2 h1) g g')
theorem MX.same(h:∀s,s∈S↔s∈T){p q:List DV}(hp:MX u v S p)(hq:MX u v T q):p=q:=by
 rcases hp with⟨a,rfl⟩|⟨s,hs,n,d,e,f,pt,mx,g⟩<;>rcases hq with⟨b,rfl⟩|⟨s',ir,n',d',e',f',pt',mx',g'⟩;rfl;exact absurd pt' (a s' ((h s').2 ir) _ _);exact absurd pt (b s ((h s).1 hs) _ _);have h1:=mx s' ((h s').2 ir) _ _ pt';have h2:=mx' s ((h s).1 hs) _ _ pt;exact KJ (G3 f.1 f.2.1 f.2.2.1 f.2.2.2 f'.1 f'.2.1 f'.2.2.1 f'.2.2.2 (Int.le_antisymm h1 h2) g g')
theorem MZ(h:∀s,s∈S↔s∈T)(H:Pos u v S){r r':List DV}(hg:Gf 71 (cells 8 u++cells 8 v++[.l S]) r)(zh:Gf 71 (cells 8 u++cells 8 v++[.l T]) r'):r=r':=by
 have H':Pos u v T:=fun s hs=>H s ((h s).2 hs);rcases Q0 H hg with⟨b,rfl⟩|⟨nb,p,q,rfl,lp,lq,bp,eq⟩<;>rcases Q0 H' zh with⟨b',rfl⟩|⟨nb',p',q',rfl,lp',lq',bp',eq'⟩;rfl;exact absurd (b.of fun s=>(h s).1) nb';exact absurd (b'.of fun s=>(h s).2) nb;rw[bp.same h bp',eq.same h eq']
theorem aaJ(hS:∀s∈S,rj s)(hu:mB u)(hv:mB v):Pos u v S:=fun s hs k n d p hk=>by
 obtain⟨k',n',d',e,h⟩:=aaq (hS s hs) hu hv p;injection e with e1 e;injection e with e2 e;injection e with e3 _;injection e1 with e1;injection e2 with e2;injection e3 with e3;subst e1 e2 e3;rcases h with h|h|⟨_,h⟩;omega;omega;exact h
end
section
open Go.Sx Go
def I7:au:=.ite (.lt (.v 6) (.len 0)) (.ev (.aG (.le (.c 0) (.v 6))) (.ev (.call 66 (.eq (.get 0 (.v 6) 0) (.c 3)) [.i (.get 0 (.v 6) 0),.i (.get 0 (.v 6) 1),.i (.get 0 (.v 6) 2),.i (.get 0 (.v 6) 3),.i (.get 0 (.v 6) 4)] [oB] 8)
 (.ite (.or (.not (.eq (.get 0 (.v 6) 0) (.c 3))) (.not (.v 8))) (.ret [.nil,.i (.c 1)]) (.ev (.bW 9 (.lit [[.inl (.get 0 (.v 6) 0),.inl (.get 0 (.v 6) 1),.inl (.get 0 (.v 6) 2),.inl (.get 0 (.v 6) 3),.inl (.get 0 (.v 6) 4)]])) (.ev (.aG (.le (.add (.len 5) (.len 9)) (.c 3518437208883))) (.ev (.bW 10 (.app 5 9)) (.ev (.aG (r6 (.add (.v 6) (.c 1)))) (.again 43010 [.i (.v 4),.l 10,.i (.add (.v 6) (.c 1))])))))))) (.ret [.l 5,.i (.c 0)])
def t43:au:=.ite (.lt (.c 6) (.len 0)) (.ret [.nil,.i (.c 1)]) (.ev (.aG (r6 (.add (.c 3) (.len 0)))) (.ev (.aG (.le (.c 3) (.add (.c 3) (.len 0)))) (.ev (.aG (.le (.add (.c 3) (.len 0)) (.c 3518437208883))) (.ev (.bW 1 (.rep (.c 3) [0,0,0,0,0])) (
 .loop 43005 [.l 1,.i (.c 0)] [.s 44 [i6,i6,i6,i6,i6],.c i6] 2 (.ite (.lt (.v 3) (.c 3)) (.ev (.aG (.le (.c 0) (.v 3))) (.ev (.aG (.lt (.v 3) (.len 2))) (.ev (.bW 4 (.set 2 (.v 3) 0 (.inl (.v 3)))) (.ev (.aG (r6 (.add (.v 3) (.c 1)))) (.again 43005 [.l 4,.i (.add (.v 3) (.c 1))]))))) (
 .loop 43010 [.i (.c 0),.l 2,.i (.c 0)] [.c i6,.s 44 [i6,i6,i6,i6,i6],.c i6] 4 I7)))))))
theorem T43:TT Tryz.prog 43=some ⟨43,t43,(rowOf 43).sub⟩:=by kernel_rfl
def tq(j:Nat):IE:=.kZ (.v 96) 0 (.v (17+j)) (.kZ (.v 96) 1 (.v (22+j)) (.kZ (.v 96) 2 (.v (27+j)) (.kZ (.v 96) 3 (.v (32+j)) (.kZ (.v 96) 4 (.v (37+j)) (.v (42+j))))))
def afw:BE:=.or (.and (.eq (.v 96) (.c 0)) (.v 47)) (.and (.not (.eq (.v 96) (.c 0))) (.or (.and (.eq (.v 96) (.c 1)) (.v 48)) (.and (.not (.eq (.v 96) (.c 1))) (.or (.and (.eq (.v 96) (.c 2)) (.v 49)) (.and (.not (.eq (.v 96) (.c 2))) (.or (.and (.eq (.v 96) (.c 3)) (.v 50)) (.and (.not (.eq (.v 96) (.c 3))) (.or (.and (.eq (.v 96) (.c 4)) (.v 51)) (.and (.not (.eq (.v 96) (.c 4))) (.v 52))))))))))
def t29:au:=.loop 29003 [.nil,.i (.c 0)] [.s 44 [i6,i6,i6,i6,i6],.c i6] 95 (.ite (.lt (.v 96) (.c 6)) (.ev (.aG (.le (.c 0) (.v 96))) (.ite afw (.ev (.bW 97 (.lit [[.inl (tq 0),.inl (tq 1),.inl (tq 2),.inl (tq 3),.inl (tq 4)]])) (.ev (.aG (.le (.add (.len 95) (.len 97)) (.c 3518437208883))) (.ev (.bW 98 (.app 95 97)) (.ev (.aG (r6 (.add (.v 96) (.c 1)))) (.again 29003 [.l 98,.i (.add (.v 96) (.c 1))])))))
 (.ev (.aG (r6 (.add (.v 96) (.c 1)))) (.again 29003 [.l 95,.i (.add (.v 96) (.c 1))])))) (.ev (.call 43 (.c true) [.l 95] [.one (.s 44 [i6,i6,i6,i6,i6]),oI] 97) (.ret [.l 97])))
theorem T29:TT Tryz.prog 29=some ⟨29,t29,(rowOf 29).sub⟩:=by kernel_rfl
theorem p43:jC (rowOf 43).sub=true:=by kernel_rfl
theorem p29:jC (rowOf 29).sub=true:=by kernel_rfl
def five(r:List Int):List Int:=[r.getD 0 0,r.getD 1 0,r.getD 2 0,r.getD 3 0,r.getD 4 0]
def tt:List (List Int):=[[0,0,0,0,0],[1,0,0,0,0],[2,0,0,0,0]]
def OkS(r:List Int):Prop:=r.getD 0 0=3/\Gf 66 [.i (r.getD 0 0),.i (r.getD 1 0),.i (r.getD 2 0),.i (r.getD 3 0),.i (r.getD 4 0)] [.b true]
def R43(U:List (List Int))(rs:List DV):Prop:=∃e,(rs=[.l [],.i e]/\(6<U.length\/∃r∈U,¬ OkS r))\/(rs=[.l (tt++U.map five),.i e]/\U.length<=6/\∀r∈U,OkS r)
theorem aaK:kI 66=some ⟨(kI 66).get!.args,[oB],0⟩:=by kernel_rfl
theorem Q1{U:List (List Int)}{rs:List DV}(hg:Gf 43 [.l U] rs):R43 U rs:=by
 refine cX (R:=R43 U) T43 ?_ hg;obtain⟨e,he⟩:∃e,e=aR.av 0 [DV.l U]:=⟨_,rfl⟩;have h0:e 0 = .l U:=by rw[he];rfl
 rw[<- he];refine ri (fun hl=>fe ⟨1,.inl ⟨rfl,.inl ?_⟩⟩) (fun hl=>?_);have hl:(6:Int)<(e 0).list.length:=hl;rw[h0]at hl;have hl:(6:Int)<U.length:=hl;omega;have hl:((e 0).list.length:Int)<=6:=hl;rw[h0]at hl;have hl:(U.length:Int)<=6:=hl;refine gn fun _=>gn fun _=>gn fun _=>AS ?_;obtain⟨e1,lH,o1,v1⟩:=ME e 1 (.l (cU.af e (.rep (.c 3) [0,0,0,0,0])));have v1:e1 1 = .l [[0,0,0,0,0],[0,0,0,0,0],[0,0,0,0,0]]:=v1;rw[<- lH];refine xG (fun vs=>vs=[.l [[0,0,0,0,0],[0,0,0,0,0],[0,0,0,0,0]],.i 0]\/vs=[.l [[0,0,0,0,0],[0,0,0,0,0],[0,0,0,0,0]],.i 1]\/vs=[.l [[0,0,0,0,0],[1,0,0,0,0],[0,0,0,0,0]],.i 2]\/vs=[.l tt,.i 3]) (.inl ?_) ?_;simp only[jK,nN,DE.af,IE.af,v1,dl];intro ds rF;have step:∀(L L':List (List Int)) (n:Int),ds=[.l L,.i n]->n<3->setAt L n 0 n=L'->([DV.l L',.i (n+1)]=[.l [[0,0,0,0,0],[0,0,0,0,0],[0,0,0,0,0]],.i 0]\/[DV.l L',.i (n+1)]=[.l [[0,0,0,0,0],[0,0,0,0,0],[0,0,0,0,0]],.i 1]\/[DV.l L',.i (n+1)]=[.l [[0,0,0,0,0],[1,0,0,0,0],[0,0,0,0,0]],.i 2]\/[DV.l L',.i (n+1)]=[.l tt,.i 3])->
     (au.ite (.lt (.v 3) (.c 3)) (.ev (.aG (.le (.c 0) (.v 3))) (.ev (.aG (.lt (.v 3) (.len 2))) (.ev (.bW 4 (.set 2 (.v 3) 0 (.inl (.v 3)))) (.ev (.aG (r6 (.add (.v 3) (.c 1)))) (.again 43005 [.l 4,.i (.add (.v 3) (.c 1))]))))) (.loop 43010 [.i (.c 0),.l 2,.i (.c 0)] [.c i6,.s 44 [i6,i6,i6,i6,i6],.c i6] 4 I7)).par (fun g=>cK (TT Tryz.prog) XF ((⟨43,t43,(rowOf 43).sub⟩:iG).key g)) (R43 U) [] (e1.av 2 ds) (lN (fun _ _=>True) 43005 (fun vs=>vs=[.l [[0,0,0,0,0],[0,0,0,0,0],[0,0,0,0,0]],.i 0]\/vs=[.l [[0,0,0,0,0],[0,0,0,0,0],[0,0,0,0,0]],.i 1]\/vs=[.l [[0,0,0,0,0],[1,0,0,0,0],[0,0,0,0,0]],.i 2]\/vs=[.l tt,.i 3])):=by
   intro L L' n hd hn hs hG;subst hd;obtain⟨e2,pz,o2,w2⟩:=A7 e1 2 [.l L,.i n];have v2:e2 2 = .l L:=w2 0 (by simp);have v3:e2 3 = .i n:=w2 1 (by simp);rw[<- pz];refine Qf (by show decide ((e2 3).int<3)=true;rw[v3];exact gQ hn) (gn fun _=>gn fun _=>AS (gn fun _=>re ?_));obtain⟨e3,yG,o3,v4⟩:=ME e2 4 (.l (cU.af e2 (.set 2 (.v 3) 0 (.inl (.v 3)))));rw[<- yG];have v4:e3 4 = .l L':=by rw[v4];show DV.l (setAt (e2 2).list (e2 3).int 0 (e2 3).int)=_;rw[v2,v3];exact congrArg DV.l hs
   simp only[jK,nN,DE.af,IE.af,v4,o3 3 (by omega),v3,dl,di];exact hG
 rcases rF with h|h|h|h;exact step _ [[0,0,0,0,0],[0,0,0,0,0],[0,0,0,0,0]] 0 h (by omega) rfl (.inr (.inl rfl));exact step _ [[0,0,0,0,0],[1,0,0,0,0],[0,0,0,0,0]] 1 h (by omega) rfl (.inr (.inr (.inl rfl)));exact step _ tt 2 h (by omega) rfl (.inr (.inr (.inr rfl)));subst h;obtain⟨e2,pz,o2,w2⟩:=A7 e1 2 [.l tt,.i 3];have v2:e2 2 = .l tt:=w2 0 (by simp);have v3:e2 3 = .i 3:=w2 1 (by simp);rw[<- pz];refine IH (by show decide ((e2 3).int<3)=false;rw[v3];rfl) (xG (fun vs=>∃(c:Int) (i:Nat),vs=[.i c,.l (tt++(U.take i).map five),.i i]/\i<=U.length/\∀j,j<i->OkS (U.getD j [])) ⟨0,0,?_,by omega,fun j hj=>by omega⟩ ?_);simp only[jK,nN,DE.af,IE.af,v2,dl,List.take_zero,yS];rfl;rintro _ ⟨c,i,rfl,hi,gD⟩;obtain⟨e3,yG,o3,w3⟩:=A7 e2 4 [.i c,.l (tt++(U.take i).map five),.i i];have v4:e3 4 = .i c:=w3 0 (by simp);have v5:e3 5 = .l (tt++(U.take i).map five):=w3 1 (by simp);have v6:e3 6 = .i i:=w3 2 (by simp);have u0:e3 0 = .l U:=by rw[o3 0 (by omega),o2 0 (by omega),o1 0 (by omega),h0]
 rw[<- yG];have cl:∀e':az,(∀k,k<8->e' k=e3 k)->∀j,IE.af e' (.get 0 (.v 6) j)=(U.getD i []).getD j 0:=fun e' o j=>by
   show cellAt (e' 0).list (e' 6).int j=_;rw[o 0 (by omega),o 6 (by omega),u0,v6];unfold cellAt;simp only[dl,di,qm]
 unfold I7;refine ri (fun cJ=>gn fun _=>?_) (fun mF=>?_);have cJ:(e3 6).int<(e3 0).list.length:=cJ;rw[v6,u0]at cJ;have cJ:(i:Int)<U.length:=cJ;have DO:i<U.length:=by omega
 have rest:∀e':az,(∀k,k<8->e' k=e3 k)->(((U.getD i []).getD 0 0=3/\(e' 8).bool=true)↔OkS (U.getD i []))->(au.ite (.or (.not (.eq (.get 0 (.v 6) 0) (.c 3))) (.not (.v 8))) (.ret [.nil,.i (.c 1)]) (.ev (.bW 9 (.lit [[.inl (.get 0 (.v 6) 0),.inl (.get 0 (.v 6) 1),.inl (.get 0 (.v 6) 2),.inl (.get 0 (.v 6) 3),.inl (.get 0 (.v 6) 4)]])) (.ev (.aG (.le (.add (.len 5) (.len 9)) (.c 3518437208883))) (.ev (.bW 10 (.app 5 9)) (.ev (.aG (r6 (.add (.v 6) (.c 1)))) (.again 43010 [.i (.v 4),.l 10,.i (.add (.v 6) (.c 1))])))))).par (fun g=>cK (TT Tryz.prog) XF ((⟨43,t43,(rowOf 43).sub⟩:iG).key g)) (R43 U) [] e' (lN (lN (fun _ _=>True) 43005 (fun vs=>vs=[.l [[0,0,0,0,0],[0,0,0,0,0],[0,0,0,0,0]],.i 0]\/vs=[.l [[0,0,0,0,0],[0,0,0,0,0],[0,0,0,0,0]],.i 1]\/vs=[.l [[0,0,0,0,0],[1,0,0,0,0],[0,0,0,0,0]],.i 2]\/vs=[.l tt,.i 3])) 43010 (fun vs=>∃(c:Int) (i:Nat),vs=[.i c,.l (tt++(U.take i).map five),.i i]/\i<=U.length/\∀j,j<i->OkS (U.getD j []))):=by
   intro e' o afx;have QY:BE.af e' (.or (.not (.eq (.get 0 (.v 6) 0) (.c 3))) (.not (.v 8)))=((!(decide ((U.getD i []).getD 0 0=3)))||(!(e' 8).bool)):=by
     show((!(decide (IE.af e' (.get 0 (.v 6) 0)=3)))||(!(e' 8).bool))=_;rw[cl e' o 0]
   refine iC (fun hc=>fe ⟨1,.inl ⟨rfl,.inr ⟨_,iF DO,fun hk=>?_⟩⟩⟩) (fun hc=>?_);rw[QY]at hc;have:=afx.2 hk;rw[gQ this.1,this.2]at hc;cases hc;rw[QY,uL,Bool.not_eq_false',Bool.not_eq_false']at hc;have hk:=afx.1 ⟨mC hc.1,hc.2⟩;refine AS ?_;obtain⟨e4,he4,o4,v9⟩:=ME e' 9 (.l (cU.af e' (.lit [[.inl (.get 0 (.v 6) 0),.inl (.get 0 (.v 6) 1),.inl (.get 0 (.v 6) 2),.inl (.get 0 (.v 6) 3),.inl (.get 0 (.v 6) 4)]])));have v9:e4 9 = .l [five (U.getD i [])]:=by
     rw[v9];show DV.l [[IE.af e' (.get 0 (.v 6) 0),IE.af e' (.get 0 (.v 6) 1),IE.af e' (.get 0 (.v 6) 2),IE.af e' (.get 0 (.v 6) 3),IE.af e' (.get 0 (.v 6) 4)]]=_;rw[cl e' o,cl e' o,cl e' o,cl e' o,cl e' o];rfl
   rw[<- he4];refine gn fun _=>AS ?_;obtain⟨e5,he5,o5,v10⟩:=ME e4 10 (.l (cU.af e4 (.app 5 9)));have v10:e5 10 = .l (tt++(U.take (i+1)).map five):=by
     rw[v10];show DV.l ((e4 5).list++(e4 9).list)=_;rw[v9,o4 5 (by omega),o 5 (by omega),v5,List.take_add_one,ml];show DV.l ((tt++(U.take i).map five)++[five (U.getD i [])])=_;rw[List.append_assoc,cq,dG DO];rfl
   rw[<- he5];refine gn fun _=>re ⟨c,i+1,?_,by omega,fun j hj=>?_⟩;simp only[jK,nN,DE.af,IE.af,v10,o5 4 (by omega),o5 6 (by omega),o4 4 (by omega),o4 6 (by omega),o 4 (by omega),o 6 (by omega),v4,v6,dl,di];rfl;by_cases ej:j=i;subst ej;exact hk;exact gD j (by omega)
 refine wx (fun hg r g=>?_) (fun hg=>?_);have hg:decide (IE.af e3 (.get 0 (.v 6) 0)=3)=true:=hg;rw[cl e3 (fun _ _=>rfl),aC]at hg;have g:Gf 66 [.i (IE.af e3 (.get 0 (.v 6) 0)),.i (IE.af e3 (.get 0 (.v 6) 1)),.i (IE.af e3 (.get 0 (.v 6) 2)),.i (IE.af e3 (.get 0 (.v 6) 3)),.i (IE.af e3 (.get 0 (.v 6) 4))] r:=bC bX p43 g;rw[cl e3 (fun _ _=>rfl),cl e3 (fun _ _=>rfl),cl e3 (fun _ _=>rfl),cl e3 (fun _ _=>rfl),cl e3 (fun _ _=>rfl)]at g;obtain⟨b,rfl⟩:=Qz aaK rfl g;obtain⟨e',As,o,w⟩:=A7 e3 8 [.b b];have w:e' 8 = .b b:=w 0 (by simp);rw[<- As];refine rest e' o ⟨fun h=>⟨hg,?_⟩,fun h=>⟨hg,?_⟩⟩;have:=h.2;rw[w]at this;have this:b=true:=this;rw[<- this];exact g;have:=g.uf h.2;injection this with this;rw[w,this];rfl;have hg:decide (IE.af e3 (.get 0 (.v 6) 0)=3)=false:=hg;rw[cl e3 (fun _ _=>rfl),tZ]at hg;obtain⟨e',As,o,w⟩:=A7 e3 8 (defs (bI [oB]));rw[<- As];exact rest e' o ⟨fun h=>absurd h.1 hg,fun h=>absurd h.1 hg⟩;have mF:((e3 0).list.length:Int)<=(e3 6).int:=mF;rw[v6,u0]at mF;have mF:(U.length:Int)<=i:=mF;obtain rfl:i=U.length:=by omega
 refine A6 (rs:=[.l (tt++U.map five),.i 0]) ?_ ⟨0,.inr ⟨rfl,by omega,fun r hr=>?_⟩⟩;simp only[jK,nN,DE.af,IE.af,v5,dl,List.take_length];obtain⟨j,hj,rfl⟩:=mem_row hr;exact gD j hj
def E8(a:az)(i:Nat):List Int:=[(a (17+5*i)).int,(a (18+5*i)).int,(a (19+5*i)).int,(a (20+5*i)).int,(a (21+5*i)).int]
def us(a:az):Nat->List (List Int)
 |0=>[]
 |i+1=>us a i++(if(a (47+i)).bool then [E8 a i]else [])
theorem aaL:kI 43=some ⟨(kI 43).get!.args,[.one (.s 44 [i6,i6,i6,i6,i6]),oI],0⟩:=by kernel_rfl
theorem Ha{a e:az}(o:∀k,k<95->e k=a k){i:Nat}(h:e 96 = .i i)(hi:i<6)(j:Nat)(hj:j<5):(tq j).af e=(a (17+j+5*i)).int:=by
 have q:∀n:Nat,(IE.v 96).af e=(n:Int)↔i=n:=fun n=>by show(e 96).int=(n:Int)↔_;rw[h];show(i:Int)=n↔_;omega
 unfold tq;simp only[IE.af]at q ⊢;simp only[q];obtain rfl|rfl|rfl|rfl|rfl|rfl:i=0\/i=1\/i=2\/i=3\/i=4\/i=5:=by omega
 rw[if_pos rfl,o _ (by omega)];rfl;rw[if_neg (by omega),if_pos rfl,o _ (by omega),show 22+j=17+j+5*1 by omega];rw[if_neg (by omega),if_neg (by omega),if_pos rfl,o _ (by omega),show 27+j=17+j+5*2 by omega];rw[if_neg (by omega),if_neg (by omega),if_neg (by omega),if_pos rfl,o _ (by omega),show 32+j=17+j+5*3 by omega];rw[if_neg (by omega),if_neg (by omega),if_neg (by omega),if_neg (by omega),if_pos rfl,o _ (by omega),show 37+j=17+j+5*4 by omega];rw[if_neg (by omega),if_neg (by omega),if_neg (by omega),if_neg (by omega),if_neg (by omega),o _ (by omega),show 42+j=17+j+5*5 by omega]
theorem afy{a e:az}(o:∀k,k<95->e k=a k){i:Nat}(h:e 96 = .i i)(hi:i<6):afw.af e=(a (47+i)).bool:=by
 show((decide ((e 96).int=0)&&(e 47).bool)||((!(decide ((e 96).int=0)))&&((decide ((e 96).int=1)&&(e 48).bool)||((!(decide ((e 96).int=1)))&&((decide ((e 96).int=2)&&(e 49).bool)||((!(decide ((e 96).int=2)))&&((decide ((e 96).int=3)&&(e 50).bool)||((!(decide ((e 96).int=3)))&&((decide ((e 96).int=4)&&(e 51).bool)||((!(decide ((e 96).int=4)))&&(e 52).bool))))))))))=_;rw[h,o 47 (by omega),o 48 (by omega),o 49 (by omega),o 50 (by omega),o 51 (by omega),o 52 (by omega)];simp only[di];obtain rfl|rfl|rfl|rfl|rfl|rfl:i=0\/i=1\/i=2\/i=3\/i=4\/i=5:=by omega
 all_goals simp
theorem KK{ds rs:List DV}(hl:ds.length=94)(hg:Gf 29 ds rs):∃S e,rs=[.l S]/\Gf 43 [.l (us (aR.av 0 ds) 6)] [.l S,.i e]:=by
 refine cX (R:=fun rs=>∃S e,rs=[DV.l S]/\Gf 43 [.l (us (aR.av 0 ds) 6)] [.l S,.i e]) T29 ?_ hg;obtain⟨a,ha⟩:∃a,a=aR.av 0 ds:=⟨_,rfl⟩;rw[<- ha];refine xG (fun vs=>∃i:Nat,vs=[.l (us a i),.i i]/\i<=6) ⟨0,rfl,by omega⟩ ?_;rintro _ ⟨i,rfl,hi⟩;obtain⟨e1,lH,o1,w1⟩:=A7 a 95 [.l (us a i),.i i];have v95:e1 95 = .l (us a i):=w1 0 (by simp);have QR:e1 96 = .i i:=w1 1 (by simp);rw[<- lH];refine ri (fun cJ=>gn fun _=>?_) (fun mF=>?_);have cJ:(e1 96).int<6:=cJ;rw[QR]at cJ;have cJ:(i:Int)<6:=cJ;have hi6:i<6:=by omega
 have ho:=afy (a:=a) o1 QR hi6;refine iC (fun hc=>AS ?_) (fun hc=>?_);rw[ho]at hc;obtain⟨e2,pz,o2,v97⟩:=ME e1 97 (.l (cU.af e1 (.lit [[.inl (tq 0),.inl (tq 1),.inl (tq 2),.inl (tq 3),.inl (tq 4)]])));have v97:e2 97 = .l [E8 a i]:=by
   rw[v97];show DV.l [[(tq 0).af e1,(tq 1).af e1,(tq 2).af e1,(tq 3).af e1,(tq 4).af e1]]=_;rw[Ha o1 QR hi6 0 (by omega),Ha o1 QR hi6 1 (by omega),Ha o1 QR hi6 2 (by omega),Ha o1 QR hi6 3 (by omega),Ha o1 QR hi6 4 (by omega)];rfl
 rw[<- pz];refine gn fun _=>AS ?_;obtain⟨e3,yG,o3,v98⟩:=ME e2 98 (.l (cU.af e2 (.app 95 97)));have v98:e3 98 = .l (us a (i+1)):=by
   rw[v98];show DV.l ((e2 95).list++(e2 97).list)=_;rw[v97,o2 95 (by omega),v95];show DV.l (us a i++[E8 a i])=DV.l (us a i++(if(a (47+i)).bool then [E8 a i]else []));rw[hc];rfl
 rw[<- yG];refine gn fun _=>re ⟨i+1,?_,by omega⟩;simp only[jK,nN,DE.af,IE.af,v98,o3 96 (by omega),o2 96 (by omega),QR,dl,di];rfl;rw[ho]at hc;refine gn fun _=>re ⟨i+1,?_,by omega⟩;simp only[jK,nN,DE.af,IE.af,v95,QR,dl,di];show [DV.l (us a i),.i ((i:Int)+1)]=[.l (us a i++(if(a (47+i)).bool then [E8 a i]else [])),_];rw[hc];simp;have mF:(6:Int)<=(e1 96).int:=mF;rw[QR]at mF;have mF:(6:Int)<=i:=mF;obtain rfl:i=6:=by omega
 refine cM fun r g=>?_;have g:Gf 43 [.l (e1 95).list] r:=bC bX p29 g;rw[v95]at g;have:=bX.kd 43 _ _ _ aaL g;obtain⟨S,r0,rfl,k0⟩:=Iy this;obtain⟨x,r1,rfl,k1⟩:=dj k0;obtain rfl:=iT k1;exact fe ⟨S,x,rfl,g⟩
end
section
open Go.Sx Go
structure Alike(D D':l7):Prop where
 e:D'.E=D.E
 a:∀k,k<17\/52<k->D'.a k=D.a k
 bx:D'.bx=D.bx
 s:∀s,s∈D.dO↔s∈D'.dO
 ok:∀s∈D.dO,rj s
 M0:∀g ds rs,D.E g ds rs->Gf g ds rs
theorem om{p q p' q':List DV}(h:p++q=p'++q')(hl:p.length=p'.length):p=p'/\q=q':=List.append_inj h hl
theorem gu{u:List Int}:(cells 8 u).length=8:=by simp[cells]
section
variable {D D':l7}(A:Alike D D')
theorem Alike.port{D:l7}{D':l7}(A:Alike D D'):D'.port=D.port:=by unfold l7.port;rw[A.a 10 (by omega),A.a 11 (by omega),A.a 12 (by omega),A.a 13 (by omega)]
theorem Alike.look{D:l7}{D':l7}(A:Alike D D'):D'.look=D.look:=by
 unfold l7.look;rw[A.a 62 (by omega),A.a 63 (by omega),A.a 64 (by omega),A.a 65 (by omega),A.a 66 (by omega),A.a 67 (by omega),A.a 68 (by omega),A.a 69 (by omega),A.a 70 (by omega),A.a 71 (by omega),A.a 72 (by omega),A.a 73 (by omega),A.a 74 (by omega),A.a 75 (by omega),A.a 76 (by omega)]
theorem Alike.dash{D:l7}{D':l7}(A:Alike D D'):D'.dash=D.dash:=by unfold l7.dash;rw[A.a 65 (by omega),A.a 66 (by omega),A.a 67 (by omega)]
theorem Alike.l9{D:l7}{D':l7}(A:Alike D D')(r:List Int):D'.l9 r=D.l9 r:=by unfold l7.l9;rw[A.a 60 (by omega),A.a 77 (by omega)]
theorem Alike.uf{D:l7}{D':l7}(A:Alike D D'){g:Nat}{ds rs eo:List DV}(h:D.E g ds rs)(h':D'.E g ds eo):rs=eo:=by
 rw[A.e]at h';exact(A.M0 _ _ _ h).uf (A.M0 _ _ _ h')
theorem Alike.place{D:l7}{D':l7}(A:Alike D D'){v v':List Int}(hv:cells 8 v=cells 8 v'){p p':List DV}{e e':Int}(h:D.place v p e)(h':D'.place v' p' e'):p=p'/\e=e':=by
 obtain⟨l,g⟩:=h;obtain⟨l',g'⟩:=h';rw[A.port,<- hv]at g';obtain⟨h1,h2⟩:=om (A.uf g g') (by omega);injection h2 with h2;injection h2 with h2;exact⟨h1,h2⟩
theorem Alike.kT{D:l7}{D':l7}(A:Alike D D'){v s:List Int}{x:Int}(hs:s∈D.dO)(g:D.E 67 (cells 5 s++cells 8 v) [.i x])(hx:x<0)(h:∀s∈D'.dO,∃x,D'.E 67 (cells 5 s++cells 8 v) [.i x]/\0<=x):False:=by
 obtain⟨y,g',hy⟩:=h s ((A.s s).1 hs);have:=A.uf g g';injection this with this;injection this with this;omega
theorem Alike.y7{D:l7}{D':l7}(A:Alike D D'){v s:List Int}{x:Int}(hs:s∈D'.dO)(g:D'.E 67 (cells 5 s++cells 8 v) [.i x])(hx:x<0)(h:∀s∈D.dO,∃x,D.E 67 (cells 5 s++cells 8 v) [.i x]/\0<=x):False:=by
 obtain⟨y,g',hy⟩:=h s ((A.s s).2 hs);have:=A.uf g' g;injection this with this;injection this with this;omega
theorem Alike.trim{D:l7}{D':l7}(A:Alike D D'){u v:List Int}(hu:mB u)(hv:mB v){r r':List DV}(g:D.E 71 (cells 8 u++cells 8 v++[.l D.dO]) r)(g':D'.E 71 (cells 8 u++cells 8 v++[.l D'.dO]) r'):r=r':=by
 rw[A.e]at g';exact MZ A.s (aaJ A.ok hu hv) (A.M0 _ _ _ g) (A.M0 _ _ _ g')
theorem Alike.one{D:l7}{D':l7}(A:Alike D D'){vs es:List (List Int)}{d:List DV}{out:List (List Int)}{w:Bool}{d1 d2:List DV}{o1 o2:List (List Int)}{w1 w2:Bool}(hl:vs.length=1\/vs.length=2)(hv:∀v∈vs,mB v)
   (h1:Step D vs es d out w d1 o1 w1) (h2:Step D' vs es d out w d2 o2 w2):d1=d2/\o1=o2/\w1=w2:=by
 have nf:vs.length≠1->vs.length≠2->False:=fun a b=>by omega
 cases h1 with
 | hidden e hs g hx=>
   cases h2 with
   |hidden=>exact⟨rfl,rfl,rfl⟩
   |oN e' h=>rw[e]at e';cases e';exact(A.kT hs g hx h).elim
   |point e' h=>rw[e]at e';cases e';exact(A.kT hs g hx h).elim
   |lineNo e'=>rw[e]at e';cases e'
   |nu e'=>rw[e]at e';cases e'
   |line e'=>rw[e]at e';cases e'
   |th a b=>exact(nf a b).elim
   |oO a b=>exact(nf a b).elim
   |Gy a b=>exact(nf a b).elim
 | oN e h pl ne=>
   cases h2 with
   |hidden e' hs g hx=>rw[e]at e';cases e';exact(A.y7 hs g hx h).elim
   |oN e' h' Nr ne'=>exact⟨rfl,rfl,rfl⟩
   |point e' h' Nr g=>rw[e]at e';cases e';exact absurd (A.place rfl pl Nr).2 ne
   |lineNo e'=>rw[e]at e';cases e'
   |nu e'=>rw[e]at e';cases e'
   |line e'=>rw[e]at e';cases e'
   |th a b=>exact(nf a b).elim
   |oO a b=>exact(nf a b).elim
   |Gy a b=>exact(nf a b).elim
 | point e h pl g=>
   cases h2 with
   |hidden e' hs g hx=>rw[e]at e';cases e';exact(A.y7 hs g hx h).elim
   |oN e' h' Nr ne'=>rw[e]at e';cases e';exact absurd (A.place rfl pl Nr).2.symm ne'
   | point e' h' Nr g'=>
     rw[e]at e';cases e';obtain⟨rfl,_⟩:=A.place rfl pl Nr;rw[A.a 68 (by omega),A.a 69 (by omega),A.bx]at g';have:=A.uf g g';injection this with this;injection this with this;subst this;exact⟨rfl,rfl,rfl⟩
   |lineNo e'=>rw[e]at e';cases e'
   |nu e'=>rw[e]at e';cases e'
   |line e'=>rw[e]at e';cases e'
   |th a b=>exact(nf a b).elim
   |oO a b=>exact(nf a b).elim
   |Gy a b=>exact(nf a b).elim
 | lineNo e tl g=>
   have hu:=hv _ (by rw[e];exact aK ..);have hw:=hv _ (by rw[e];exact bl _ (aK ..));cases h2 with
   |hidden e'=>rw[e]at e';cases e'
   |oN e'=>rw[e]at e';cases e'
   |point e'=>rw[e]at e';cases e'
   |lineNo e'=>exact⟨rfl,rfl,rfl⟩
   | nu e' g'=>
     rw[e]at e';cases e';have h:=(om (A.trim hu hw g g') (by simp[gu,tl])).2;cases h
   | line e' g'=>
     rw[e]at e';cases e';have h:=(om (A.trim hu hw g g') (by simp[gu,tl])).2;cases h
   |th a b=>exact(nf a b).elim
   |oO a b=>exact(nf a b).elim
   |Gy a b=>exact(nf a b).elim
 | nu e g pl pl2 ne=>
   have hu:=hv _ (by rw[e];exact aK ..);have hw:=hv _ (by rw[e];exact bl _ (aK ..));cases h2 with
   |hidden e'=>rw[e]at e';cases e'
   |oN e'=>rw[e]at e';cases e'
   |point e'=>rw[e]at e';cases e'
   | lineNo e' tl g'=>
     rw[e]at e';cases e';have h:=(om (A.trim hu hw g g') (by simp[gu,tl])).2;cases h
   |nu e'=>exact⟨rfl,rfl,rfl⟩
   | line e' g' Nr Q2 dl g3=>
     rw[e]at e';cases e';have h:=(om (A.trim hu hw g g') (by simp[gu])).1;obtain⟨k1,k2⟩:=om h (by simp[gu]);have e1:=(A.place k1 pl Nr).2;have e2:=(A.place k2 pl2 Q2).2;omega
   |th a b=>exact(nf a b).elim
   |oO a b=>exact(nf a b).elim
   |Gy a b=>exact(nf a b).elim
 | line e g pl pl2 dl g3=>
   have hu:=hv _ (by rw[e];exact aK ..);have hw:=hv _ (by rw[e];exact bl _ (aK ..));cases h2 with
   |hidden e'=>rw[e]at e';cases e'
   |oN e'=>rw[e]at e';cases e'
   |point e'=>rw[e]at e';cases e'
   | lineNo e' tl g'=>
     rw[e]at e';cases e';have h:=(om (A.trim hu hw g g') (by simp[gu,tl])).2;cases h
   | nu e' g' Nr Q2 ne=>
     rw[e]at e';cases e';have h:=(om (A.trim hu hw g g') (by simp[gu])).1;obtain⟨k1,k2⟩:=om h (by simp[gu]);have e1:=(A.place k1 pl Nr).2;have e2:=(A.place k2 pl2 Q2).2;omega
   | line e' g' Nr Q2 dl' g3'=>
     rw[e]at e';cases e';have h:=(om (A.trim hu hw g g') (by simp[gu])).1;obtain⟨k1,k2⟩:=om h (by simp[gu]);obtain⟨rfl,_⟩:=A.place k1 pl Nr;obtain⟨rfl,_⟩:=A.place k2 pl2 Q2;rw[A.look,A.bx]at g3';have:=A.uf g3 g3';injection this with t1 t2;injection t1 with t1;subst t1 t2;exact⟨rfl,rfl,rfl⟩
   |th a b=>exact(nf a b).elim
   |oO a b=>exact(nf a b).elim
   |Gy a b=>exact(nf a b).elim
 |th a b=>exact(nf a b).elim
 |oO a b=>exact(nf a b).elim
 |Gy a b=>exact(nf a b).elim
theorem Alike.all{D:l7}{D':l7}(A:Alike D D'){L:List (List Int)}(hL:∀k,k<L.length->((D.l9 (L.getD k [])).length=1\/(D.l9 (L.getD k [])).length=2)/\∀v∈D.l9 (L.getD k []),mB v):∀ {k:Nat},k<=L.length->∀ {d1 d2:List DV} {o1 o2:List (List Int)} {w1 w2:Bool},D.runs L k d1 o1 w1->D'.runs L k d2 o2 w2->d1=d2/\o1=o2/\w1=w2:=by
 intro k;induction k with
 | zero=>
   intro _ d1 d2 o1 o2 w1 w2 h1 h2;obtain⟨rfl,rfl,rfl⟩:=h1;obtain⟨rfl,rfl,rfl⟩:=h2;exact⟨A.dash.symm,rfl,rfl⟩
 | succ k ih=>
   intro hk d1 d2 o1 o2 w1 w2 h1 h2;obtain⟨x1,y1,z1,r1,s1⟩:=h1;obtain⟨x2,y2,z2,r2,s2⟩:=h2;obtain⟨rfl,rfl,rfl⟩:=ih (by omega) r1 r2;rw[A.l9,A.a 59 (by omega),A.dash]at s2;exact A.one (hL k (by omega)).1 (hL k (by omega)).2 s1 s2
end
theorem Wg{V:List (List Int)}(hV:∀r∈V,mB r)(f:Bool)(p n:Int):mB (nw V f p n):=by
 intro j hj;have:(nw V f p n).getD j 0=(V.getD n.toNat []).getD j 0:=by
   match j,hj with
   |0,_=>rfl
   |1,_=>rfl
   |2,_=>rfl
   |3,_=>rfl
 rw[this];by_cases h:n.toNat<V.length;exact hV _ (iF h) j hj;rw[show V.getD n.toNat []=[]by rw[cq,rZ (by omega)];rfl];simp
end
section
open Go.Sx Go
def DI(k i:Nat):Bool:=!(Nat.beq k 28&&(Nat.ble 17 i&&Nat.ble i 52))
theorem anj:Pq (TT Tryz.prog) DI 94 28=true:=by kernel_rfl
theorem aaM:∀x∈[(94,28)],Pq (TT Tryz.prog) DI x.1 x.2=true:=by
 intro x hx;obtain rfl:=lg.1 hx;exact anj
theorem aaN:∀x∈[(94,28)],∀i,x.1<=i->DI x.2 i=true:=by
 intro x hx i hi;obtain rfl:=lg.1 hx;have hi:94<=i:=hi;have h:Nat.ble i 52=false:=by
   cases e:Nat.ble i 52 with
   |false=>rfl
   |true=>have:=Nat.le_of_ble_eq_true e;omega
 unfold DI;rw[h,Bool.and_false,Bool.and_false];rfl
theorem aaO(k:Nat):(∀i,DI k i=true)\/∃n,(n,k)∈[(94,28)]:=by
 by_cases h:k=28;exact .inr ⟨94,by subst h;exact lg.2 rfl⟩;refine .inl fun i=>?_;unfold DI;rw[aeN h];rfl
theorem Q3{st bc rs:List DV}(hl:st.length=bc.length)(h:∀i,i<17\/52<i->st[i]?=bc[i]?)(hg:Gf 28 st rs):Gf 28 bc rs:=by
 refine Ip aaM aaN aaO ⟨hl,fun i hi=>?_⟩ hg;refine h i ?_;rcases mS i 17 with h1|h1;exact .inl h1;rcases mS 52 i with h2|h2;exact .inr h2;have hi:DI 28 i=true:=hi;unfold DI at hi;rw[Nat.ble_eq_true_of_le h1,Nat.ble_eq_true_of_le h2]at hi;cases hi
theorem Q4(a:az):∀i,(us a i).length<=i:=by
 intro i;induction i with
 |zero=>exact fu _
 | succ i ih=>
   show(us a i++(if(a (47+i)).bool then [E8 a i]else [])).length<=i+1;rw[eY];split<;>simp<;>omega
theorem aaP:∀s∈tt,rj s:=by
 intro s hs j h1 h4;simp only[tt,bD,gE,or_false]at hs;have hj:j=1\/j=2\/j=3\/j=4:=by omega
 rcases hs with rfl|rfl|rfl<;>rcases hj with rfl|rfl|rfl|rfl<;>simp
theorem I8{U U' S S':List (List Int)}{e e':Int}(hU:∀s,s∈U↔s∈U')(l:U.length<=6)(l':U'.length<=6)(hs:∀s∈U,rj s/\five s=s)(g:Gf 43 [.l U] [.l S,.i e])(g':Gf 43 [.l U'] [.l S',.i e']):(∀s,s∈S↔s∈S')/\∀s∈S,rj s:=by
 have ir:∀s∈U',rj s/\five s=s:=fun s h=>hs s ((hU s).2 h);obtain⟨x,h⟩:=Q1 g;obtain⟨x',h'⟩:=Q1 g';rcases h with⟨h1,h2⟩|⟨h1,h2,h3⟩<;>rcases h' with⟨uK,Hi⟩|⟨uK,Hi,T8⟩;injection h1 with h1;injection h1 with h1;injection uK with uK;injection uK with uK;subst h1 uK;exact⟨fun s=>Iff.rfl,fun s hs=>by cases hs⟩;rcases h2 with h2|⟨r,hr,h2⟩;omega;exact absurd (T8 r ((hU r).1 hr)) h2;rcases Hi with Hi|⟨r,hr,Hi⟩;omega;exact absurd (h3 r ((hU r).2 hr)) Hi;injection h1 with h1;injection h1 with h1;injection uK with uK;injection uK with uK;have e1:U.map five=U:=by rw[show U=U.map id from(List.map_id _).symm];rw[List.map_map];exact rm fun s h=>(hs s h).2
 have e2:U'.map five=U':=by rw[show U'=U'.map id from(List.map_id _).symm];rw[List.map_map];exact rm fun s h=>(ir s h).2
 rw[e1]at h1;rw[e2]at uK;subst h1 uK;refine⟨fun s=>by rw[lQ,lQ,hU],fun s h=>?_⟩;rcases lQ.1 h with h|h;exact aaP s h;exact(hs s h).1
theorem p18:jC (rowOf 18).sub=true:=by kernel_rfl
abbrev E18:Nat->List DV->List DV->Prop:=fun g=>cK (TT Tryz.prog) XF (IT.key g)
theorem Q5{st:List DV}(hP:fy st):∀r∈(aR.av 0 st 60).list,mB r:=by
 have hl:=hP.len;obtain⟨d,hd,ha⟩:=hP.has.at (i:=60) (a:=pA.getD 60 .t) (by kernel_rfl);have ha:A.has (.l 0 (some 256) Xm) d:=ha;have e:aR.av 0 st 60=d:=by rw[iD (by omega),cq,hd];rfl
 rw[e];cases d with
 | l xs=>
   intro r hr j hj;have h1:=AJ (ha.2.2 r hr) (j:=j) (x:=-68719476736) (y:=68719476736) (by
     match j,hj with
     |0,_=>rfl
     |1,_=>rfl
     |2,_=>rfl
     |3,_=>rfl)
   rwa[fC]at h1
 |i _=>exact ha.elim
 |b _=>exact ha.elim
theorem I9{ds lz rs eo:List DV}(hP:fy ds)(hQ:fy lz)(hd:∀j,j<17\/52<j->ds.getD j (.i 0)=lz.getD j (.i 0))(hm:(aR.av 0 ds 59).int<=3)
   (hU:∀s,s∈us (aR.av 0 ds) 6↔s∈us (aR.av 0 lz) 6) (hs:∀s∈us (aR.av 0 ds) 6,rj s/\five s=s) (h:Gz E18 ds rs) (h':Gz E18 lz eo):rs=eo:=by
 have hl:=hP.len;have uM:=hQ.len;have M0:∀g x y,E18 g x y->Gf g x y:=fun g x y hg=>bC bX p18 hg;obtain⟨bx,S,L,e,d,out,w,b4,g28,g29,afz,run,rfl⟩:=h;obtain⟨bx',S',L',e',d',uh,w',b4',afA,afB,XQ,run',rfl⟩:=h';rw[C7 hP]at g28 g29;rw[C7 hQ]at afA afB;have ea:∀j,j<94->aR.av 0 ds j=ds.getD j (.i 0):=fun j hj=>iD (by omega);have ea':∀j,j<94->aR.av 0 lz j=lz.getD j (.i 0):=fun j hj=>iD (by omega);have oo:∀k,k<17\/52<k->aR.av 0 lz k=aR.av 0 ds k:=fun k hk=>by
   by_cases h94:k<94;rw[ea k h94,ea' k h94,hd k hk];rw[az.fg (by omega),az.fg (by omega)]
 have get:∀i,i<17\/52<i->ds[i]?=lz[i]? :=fun i hi=>by
   by_cases h94:i<94;have:=hd i hi;rw[cq,cq,dG (show i<ds.length by omega),dG (show i<lz.length by omega)]at this;rw[dG (show i<ds.length by omega),dG (show i<lz.length by omega)];exact congrArg some this;rw[rZ (by omega),rZ (by omega)]
 have hbx:bx=bx':=(Q3 (by omega) get (M0 _ _ _ g28)).uf (M0 _ _ _ afA);subst hbx;rw[oo 59 (by omega),oo 61 (by omega),oo 78 (by omega)]at XQ;have hL:=(M0 _ _ _ afz).uf (M0 _ _ _ XQ);injection hL with hL _;injection hL with hL;subst hL;obtain⟨S1,e1,q1,k1⟩:=KK hl (M0 _ _ _ g29);injection q1 with q1;injection q1 with q1;subst q1;obtain⟨S2,e2,q2,k2⟩:=KK uM (M0 _ _ _ afB);injection q2 with q2;injection q2 with q2;subst q2;obtain⟨hS,hZ⟩:=I8 hU (Q4 _ 6) (Q4 _ 6) hs k1 k2;have A:Alike ⟨E18,aR.av 0 ds,bx,S⟩ ⟨E18,aR.av 0 lz,bx,S'⟩:=⟨rfl,oo,rfl,hS,hZ,M0⟩;have ZY:((aR.av 0 ds 61).list.length:Int)<=256:=uC (oa (ae:=aR) (base:=0) (A5 hP).1 _ (Be (b:=0) QF));obtain⟨rs0,g0,L0,e0,q0,_,_,PX⟩:=g30 (X:=XF) _ ⟨(aR.av 0 ds 59).int,(aR.av 0 ds 61).list,(aR.av 0 ds 78).bool,rfl,by omega⟩;have hq:=(M0 _ _ _ afz).uf g0;rw[q0]at hq;injection hq with hq _;injection hq with hq;subst hq;have hv:=Q5 hP;obtain⟨_,h2,h3⟩:=A.all (L:=L) (fun k hk=>by
   obtain⟨V,E',p,hr,v1,_,_,_,_,_,_,_,_,v3⟩:=PX _ _ _ rfl _ (iF hk);have hlen:((l7.mk E18 (aR.av 0 ds) bx S).l9 (L.getD k [])).length=V.length:=by
     unfold l7.l9;rw[ot,hr,Db]
   have:=v3 hm;refine⟨by omega,fun v hvm=>?_⟩;unfold l7.l9 at hvm;obtain⟨n,_,rfl⟩:=jb.1 hvm;exact Wg hv _ _ _) (fu _) run run'
 rw[h2,h3]
end
section
open Go.Sx Go
def setAll{α:Type}(l:List α)(L:List (Nat×α)):List α:=L.foldl (fun l x=>l.set x.1 x.2) l
def fR{α:Type}(x y:Nat->α)(z:Bool->α)(on:Nat->Bool):List (Nat×α):=((List.range 6).flatMap fun i=>(List.range 4).map fun k=>(18+5*i+k,if Nat.beq (i%2) 0 then x k else y k))++(List.range 6).map fun i=>(47+i,z (on i))
def onP(i:Nat):Bool:=Nat.blt i 2
def onQ(i:Nat):Bool:=!(Nat.beq i 3)
def sA(k:Nat):DE:=.i (.v (1+k))
def sB(k:Nat):DE:=.i (.v (5+k))
def zB(b:Bool):DE:=.b (.c b)
def I':List DE:=setAll (Py 10) (fR sA sB zB onP)
def Ja:List DE:=setAll (Py 10) (fR sB sA zB onQ)
def rE7:List VT:=[.one (.s 74 fo),oB]
def t7:au:=
.ev (.call 17 (.c true) [.l 0] [.agg od,oB] 10) (.ite (.or (.not (.v 104)) (.lt (.c 3) (.v 69))) (.ev (.call 10 (.c true) [] [oB] 106) (.ret [.b (.v 106)])) (
.ev (.aG (r6 (.v 1))) (.ev (.aG (r6 (.v 5))) (.ev (.aG (r6 (.v 2))) (.ev (.aG (r6 (.v 6))) (.ev (.aG (r6 (.v 3))) (.ev (.aG (r6 (.v 7))) (.ev (.aG (r6 (.v 4))) (.ev (.aG (r6 (.v 8))) (
.ev (.call 18 (.c true) I' rE7 107) (.ev (.call 18 (.c true) Ja rE7 109) (.ev (.call 10 (.c true) [] [oB] 111) (
.ev (.call 20 (.and (.v 111) (.iff (.v 108) (.v 110))) [.l 107,.l 109] [oB] 112) (.ret [.b (.and (.and (.v 111) (.iff (.v 108) (.v 110))) (.v 112))]))))))))))))))
theorem T7:TT Tryz.prog 7=some ⟨7,t7,(rowOf 7).sub⟩:=by kernel_rfl
def t20:au:=.ev (.call 34 (.c true) [.l 0,.l 1] [oB] 2) (.ret [.b (.v 2)])
theorem T20:TT Tryz.prog 20=some ⟨20,t20,(rowOf 20).sub⟩:=by kernel_rfl
def afC:BE:=.and (.eq (.get 0 (.v 3) 0) (.get 1 (.v 3) 0)) (.and (.eq (.get 0 (.v 3) 1) (.get 1 (.v 3) 1)) (.and (.eq (.get 0 (.v 3) 2) (.get 1 (.v 3) 2)) (.and (.eq (.get 0 (.v 3) 3) (.get 1 (.v 3) 3)) (.and (.eq (.get 0 (.v 3) 4) (.get 1 (.v 3) 4)) (.and (.eq (.get 0 (.v 3) 5) (.get 1 (.v 3) 5)) (.and (.eq (.get 0 (.v 3) 6) (.get 1 (.v 3) 6)) (.eq (.get 0 (.v 3) 7) (.get 1 (.v 3) 7))))))))
def t34:au:=.ite (.not (.eq (.len 0) (.len 1))) (.ret [.b (.c false)]) (.loop 34004 [.b (.c false),.i (.c 0)] [.c (.b),.c i6] 2 (.ite (.lt (.v 3) (.len 0)) (.ev (.aG (.le (.c 0) (.v 3))) (.ev (.aG (.lt (.v 3) (.len 1))) (.ite (.not afC) (.ret [.b (.c false)]) (.ev (.aG (r6 (.add (.v 3) (.c 1)))) (.again 34004 [.b (.v 2),.i (.add (.v 3) (.c 1))]))))) (.ret [.b (.c true)])))
theorem T34:TT Tryz.prog 34=some ⟨34,t34,(rowOf 34).sub⟩:=by kernel_rfl
theorem p20:jC (rowOf 20).sub=true:=by kernel_rfl
theorem M1{O:List (List Int)}{rs:List DV}(hg:Gf 34 [.l O,.l O] rs):rs=[.b true]:=by
 refine cX (R:=fun rs=>rs=[DV.b true]) T34 ?_ hg;obtain⟨e,he⟩:∃e,e=aR.av 0 [DV.l O,.l O]:=⟨_,rfl⟩;have v0:e 0 = .l O:=by rw[he];rfl
 have v1:e 1 = .l O:=by rw[he];rfl
 rw[<- he];refine IH (by show(!(decide (((e 0).list.length:Int)=(e 1).list.length)))=false;rw[v0,v1];simp) (xG (fun vs=>∃(b:Bool) (i:Int),vs=[.b b,.i i]) ⟨false,0,rfl⟩ ?_);rintro _ ⟨b,i,rfl⟩;obtain⟨e1,lH,o1,w1⟩:=A7 e 2 [.b b,.i i];rw[<- lH];refine iC (fun _=>gn fun _=>gn fun _=>IH ?_ (gn fun _=>re ⟨_,_,rfl⟩)) (fun _=>fe rfl);simp only[afC,BE.af,IE.af,o1 0 (by omega),o1 1 (by omega),v0,v1];simp
theorem Hb{O:List (List Int)}{rs:List DV}(hg:Gf 20 [.l O,.l O] rs):rs=[.b true]:=by
 refine cX (R:=fun rs=>rs=[DV.b true]) T20 ?_ hg;refine cM fun r g=>?_;have g:Gf 34 [.l O,.l O] r:=bC bX p20 g;obtain rfl:=M1 g;exact fe rfl
theorem Q6:(kc 20).args=[.l 0 (some 1099511627776) [cI,cI,cI,cI,cI,cI,cI,cI],.l 0 (some 1099511627776) [cI,cI,cI,cI,cI,cI,cI,cI]]:=by kernel_rfl
theorem Wh:(kc 20).pre=[]:=by kernel_rfl
theorem Q7{O:List (List Int)}(h:A.has (.l 0 (some 512000000000) mG) (.l O)):Gf 20 [.l O,.l O] [.b true]:=by
 have w:A.has (.l 0 (some 1099511627776) [cI,cI,cI,cI,cI,cI,cI,cI]) (.l O):=⟨h.1,fun y hy=>by cases hy;have:=h.2.1 _ rfl;omega,h.2.2⟩;obtain⟨rs,g,_⟩:=IF 20 (by decide) [.l O,.l O] ⟨by rw[Q6];exact⟨w,w,trivial⟩,by rw[Wh];intro p hp;cases hp⟩;have:=Hb g;rw[this]at g;exact g
theorem vv{α:Type}:∀ {L:List (Nat×α)} {l:List α},(setAll l L).length=l.length:=by
 intro L;induction L with
 |nil=>intro l;rfl
 |cons x L ih=>intro l;show(setAll (l.set x.1 x.2) L).length=_;rw[ih,List.length_set]
theorem M3{j:Nat}:∀ {L:List (Nat×DV)} {l:List DV},(∀z∈L,z.1≠j)->(setAll l L).getD j (.i 0)=l.getD j (.i 0):=by
 intro L;induction L with
 |nil=>intro l _;rfl
 | cons x L ih=>
   intro l h;show(setAll (l.set x.1 x.2) L).getD j (.i 0)=_;rw[ih fun z hz=>h z (bl _ hz),pZ (Ne.symm (h x (aK ..)))]
theorem Bp{j:Nat}{d:DV}:∀ {L:List (Nat×DV)} {l:List DV},(∀z∈L,z.1=j->z.2=d)->(∃z∈L,z.1=j)\/l.getD j (.i 0)=d->j<l.length->(setAll l L).getD j (.i 0)=d:=by
 intro L;induction L with
 |nil=>intro l _ h _;rcases h with⟨z,hz,_⟩|h;cases hz;exact h
 | cons x L ih=>
   intro l hv h hj;refine ih (l:=l.set x.1 x.2) (fun z hz=>hv z (bl _ hz)) ?_ (by rw[List.length_set];exact hj);by_cases e:x.1=j;right;rw[e,Cb hj];exact hv x (aK ..) e;rcases h with⟨z,hz,ez⟩|h;rcases bD.1 hz with rfl|hz;exact absurd ez e;exact .inl ⟨z,hz,ez⟩;right;rw[pZ (Ne.symm e)];exact h
theorem Jb:∀ {L:List (Nat×DV)} {l:List DV},kO pA l->(∀x∈L,∃a,pA[x.1]?=some a/\a.has x.2)->kO pA (setAll l L):=by
 intro L;induction L with
 |nil=>intro l h _;exact h
 | cons x L ih=>
   intro l h hx;obtain⟨a,ha,hh⟩:=hx x (aK ..);exact ih (UQ h ha hh) fun y hy=>hx y (bl _ hy)
theorem Bq{e:az}:∀ {L:List (Nat×DE)} {l:List DE},(setAll l L).map (DE.af e)=setAll (l.map (DE.af e)) (L.map fun x=>(x.1,x.2.af e)):=by
 intro L;induction L with
 |nil=>intro l;rfl
 |cons x L ih=>intro l;show(setAll (l.set x.1 x.2) L).map (DE.af e)=_;rw[ih,List.map_set];rfl
attribute [local irreducible] setAll
def isI:Option A->Bool
 |some (.i x y)=>decide (x=mn)&&decide (y=mx)
 |_=>false
def isB:Option A->Bool
 |some .b=>true
 |_=>false
theorem aaQ{a:Option A}(h:isI a=true):a=some (.i mn mx):=by
 match a,h with
 | some (.i x y),h=>
   have h:(decide (x=mn)&&decide (y=mx))=true:=h;rw[ao,aC,aC]at h;rw[h.1,h.2]
theorem aaR{a:Option A}(h:isB a=true):a=some .b:=by
 match a,h with
 |some .b,_=>rfl
theorem ank:((List.range 6).all fun i=>(List.range 4).all fun k=>isI pA[18+5*i+k]?)=true:=by kernel_rfl
theorem anl:((List.range 6).all fun i=>isB pA[47+i]?)=true:=by kernel_rfl
theorem Dm{α β:Type}(f:α->β){x y:Nat->α}{z:Bool->α}{on:Nat->Bool}:(fR x y z on).map (fun p=>(p.1,f p.2))=fR (fun k=>f (x k)) (fun k=>f (y k)) (fun b=>f (z b)) on:=by
 unfold fR;rw[ml,List.map_flatMap,List.map_map];refine congr (congrArg _ ?_) rfl;congr 1;funext i;rw[List.map_map];refine rm fun k _=>?_;show(18+5*i+k,f (if Nat.beq (i%2) 0 then x k else y k))=(18+5*i+k,if Nat.beq (i%2) 0 then f (x k)else f (y k));split<;>rfl
theorem yL{α:Type}{x y x' y':Nat->α}{z:Bool->α}{on:Nat->Bool}(hx:∀k,k<4->x k=x' k)(hy:∀k,k<4->y k=y' k):fR x y z on=fR x' y' z on:=by
 unfold fR;congr 2;funext i;refine rm fun k hk=>?_;have:=lx.1 hk;rw[hx k this,hy k this]
section
variable {st:List DV}{x y:Nat->DV}{on:Nat->Bool}
theorem afD(hx:∀k,k<4->∃n,x k = .i n/\-32768<=n/\n<=32767)(hy:∀k,k<4->∃n,y k = .i n/\-32768<=n/\n<=32767):∀z∈fR x y DV.b on,(18<=z.1/\z.1<=52)/\∃a,pA[z.1]?=some a/\a.has z.2:=by
 intro z hz;rcases lQ.1 hz with hz|hz;obtain⟨i,hi,hz⟩:=List.mem_flatMap.1 hz;obtain⟨k,hk,rfl⟩:=jb.1 hz;have hi:=lx.1 hi;have hk:=lx.1 hk;have hq:pA[18+5*i+k]?=some (.i mn mx):=aaQ (jE.1 (jE.1 ank i (lx.2 hi)) k (lx.2 hk));refine⟨by simp only;omega,_,hq,?_⟩;obtain⟨n,e1,n1⟩:=hx k hk;obtain⟨m,e2,m1⟩:=hy k hk;show A.has (.i mn mx) (if Nat.beq (i%2) 0 then x k else y k);split;rw[e1];show mn<=n/\n<=mx;unfold mn mx;omega;rw[e2];show mn<=m/\m<=mx;unfold mn mx;omega;obtain⟨i,hi,rfl⟩:=jb.1 hz;have hi:=lx.1 hi;exact⟨by simp only;omega,.b,aaR (jE.1 anl i (lx.2 hi)),trivial⟩
theorem aaS{z:Nat×DV}(hz:z∈fR x y DV.b on):(∃i k,i<6/\k<4/\z.1=18+5*i+k/\z.2=if Nat.beq (i%2) 0 then x k else y k)\/∃i,i<6/\z.1=47+i/\z.2 = .b (on i):=by
 rcases lQ.1 hz with hz|hz;obtain⟨i,hi,hz⟩:=List.mem_flatMap.1 hz;obtain⟨k,hk,rfl⟩:=jb.1 hz;exact .inl ⟨i,k,lx.1 hi,lx.1 hk,rfl,rfl⟩;obtain⟨i,hi,rfl⟩:=jb.1 hz;exact .inr ⟨i,lx.1 hi,rfl,rfl⟩
theorem zf{j:Nat}(h:j<18\/52<j\/∃i,i<6/\j=17+5*i):(setAll st (fR x y DV.b on)).getD j (.i 0)=st.getD j (.i 0):=by
 refine M3 fun z hz=>?_;rcases aaS hz with⟨i,k,hi,hk,e,_⟩|⟨i,hi,e,_⟩;rw[e];rcases h with h|h|⟨i',DO,rfl⟩<;>omega;rw[e];rcases h with h|h|⟨i',DO,rfl⟩<;>omega
theorem at7(hl:st.length=94){i k:Nat}(hi:i<6)(hk:k<4):(setAll st (fR x y DV.b on)).getD (18+5*i+k) (.i 0)=if Nat.beq (i%2) 0 then x k else y k:=by
 refine Bp (fun z hz e=>?_) (.inl ⟨(18+5*i+k,_),yV _ (List.mem_flatMap.2 ⟨i,lx.2 hi,jb.2 ⟨k,lx.2 hk,rfl⟩⟩),rfl⟩) (by omega);rcases aaS hz with⟨i',k',DO,cY,e',v⟩|⟨i',DO,e',_⟩;obtain rfl:i'=i:=by omega
 obtain rfl:k'=k:=by omega
 exact v;omega
theorem afE(hl:st.length=94){i:Nat}(hi:i<6):(setAll st (fR x y DV.b on)).getD (47+i) (.i 0) = .b (on i):=by
 refine Bp (fun z hz e=>?_) (.inl ⟨(47+i,.b (on i)),BJ _ (jb.2 ⟨i,lx.2 hi,rfl⟩),rfl⟩) (by omega);rcases aaS hz with⟨i',k',DO,cY,e',v⟩|⟨i',DO,e',v⟩;omega;obtain rfl:i'=i:=by omega
 exact v
theorem anm(hP:fy st)(hx:∀k,k<4->∃n,x k = .i n/\-32768<=n/\n<=32767)(hy:∀k,k<4->∃n,y k = .i n/\-32768<=n/\n<=32767):kO pA (setAll st (fR x y DV.b on)):=by
 have h2:∀z∈fR x y DV.b on,∃a,pA[z.1]?=some a/\a.has z.2:=fun z hz=>(afD (x:=x) (y:=y) (on:=on) hx hy z hz).2;have h0:=hP.has;generalize fR x y DV.b on=L at *;exact Jb (L:=L) (l:=st) h0 h2
theorem ok7(hP:fy st)(hx:∀k,k<4->∃n,x k = .i n/\-32768<=n/\n<=32767)(hy:∀k,k<4->∃n,y k = .i n/\-32768<=n/\n<=32767):fy (setAll st (fR x y DV.b on)):=by
 have h1:=anm (on:=on) hP hx hy;constructor;exact h1;unfold uD uj;rw[zf (j:=3) (by omega),zf (j:=1) (by omega),zf (j:=2) (by omega)];exact hP.c3;unfold uD uj;rw[zf (j:=4) (by omega),zf (j:=1) (by omega),zf (j:=2) (by omega)];exact hP.c4;unfold uD;rw[zf (j:=60) (by omega),zf (j:=61) (by omega)];exact hP.c60
theorem ann(hl:st.length=94)(k3:∀i,i<6->st.getD (17+5*i) (.i 0) = .i 3){i:Nat}(hi:i<6):E8 (aR.av 0 (setAll st (fR x y DV.b on))) i=if Nat.beq (i%2) 0 then [3,(x 0).int,(x 1).int,(x 2).int,(x 3).int]else [3,(y 0).int,(y 1).int,(y 2).int,(y 3).int]:=by
 have ea:∀j,j<94->aR.av 0 (setAll st (fR x y DV.b on)) j=(setAll st (fR x y DV.b on)).getD j (.i 0):=fun j hj=>iD (by rw[vv];omega);unfold E8;rw[ea _ (by omega),ea _ (by omega),ea _ (by omega),ea _ (by omega),ea _ (by omega),zf (.inr (.inr ⟨i,hi,rfl⟩)),k3 i hi,show 18+5*i=18+5*i+0 from rfl,show 19+5*i=18+5*i+1 by omega,show 20+5*i=18+5*i+2 by omega,show 21+5*i=18+5*i+3 by omega,at7 hl hi (by omega),at7 hl hi (by omega),at7 hl hi (by omega),at7 hl hi (by omega)];split<;>rfl
theorem us7(hl:st.length=94)(k3:∀i,i<6->st.getD (17+5*i) (.i 0) = .i 3):us (aR.av 0 (setAll st (fR x y DV.b on))) 6=(List.range 6).flatMap fun i=>if on i then [if Nat.beq (i%2) 0 then [3,(x 0).int,(x 1).int,(x 2).int,(x 3).int]else [3,(y 0).int,(y 1).int,(y 2).int,(y 3).int]]else []:=by
 have step:∀n,n<=6->us (aR.av 0 (setAll st (fR x y DV.b on))) n=(List.range n).flatMap fun i=>if on i then [if Nat.beq (i%2) 0 then [3,(x 0).int,(x 1).int,(x 2).int,(x 3).int]else [3,(y 0).int,(y 1).int,(y 2).int,(y 3).int]]else []:=by
   intro n;induction n with
   |zero=>intro _;rfl
   | succ n ih=>
     intro hn;rw[List.range_succ,List.flatMap_append,<- ih (by omega)];show us _ n++(if(aR.av 0 (setAll st (fR x y DV.b on)) (47+n)).bool then [E8 (aR.av 0 (setAll st (fR x y DV.b on))) n]else [])=_;rw[iD (by rw[vv];omega),afE hl (by omega),ann hl k3 (by omega)];simp[DV.bool]
 exact step 6 (fu _)
end
def aaT(ds:List DV):Prop:=∃(l:List (List Int)) (s:Nat->Int),ds=[.l l,.i (s 0),.i (s 1),.i (s 2),.i (s 3),.i (s 4),.i (s 5),.i (s 6),.i (s 7)]/\Kj [.l l]/\∀k,k<8->-32768<=s k/\s k<=32767
theorem g7(k3:∀st,fy st->∀i,i<6->st.getD (17+5*i) (.i 0) = .i 3):mb (TT Tryz.prog) XF 7 aaT (fun _ rs=>rs=[.b true]):=by
 refine lB T7 fun ds hp=>?_;obtain⟨l,s,rfl,hp,hs⟩:=hp;obtain⟨Wi,ano,hlen,b,hb,hG⟩:=g17 adD [.l l] hp;unfold t7;refine iy (pre:=fun ds=>ds=[DV.l l]) (rel:=fun _ eo=>eo=Wi) (fun ds h=>by subst h;exact⟨Wi,ano,rfl⟩) rfl ?_;intro eo _ vz;rw[vz];clear vz;obtain⟨e1,lH,o1,g1⟩:=A7 (aR.av 0 [.l l,.i (s 0),.i (s 1),.i (s 2),.i (s 3),.i (s 4),.i (s 5),.i (s 6),.i (s 7)]) 10 Wi;have sv:∀k,k<8->e1 (1+k) = .i (s k):=fun k hk=>by
   rw[o1 _ (by omega)]
   match k,hk with
   |0,_=>rfl
   |1,_=>rfl
   |2,_=>rfl
   |3,_=>rfl
   |4,_=>rfl
   |5,_=>rfl
   |6,_=>rfl
   |7,_=>rfl
 rw[<- lH];have anp:(e1 104).bool=b:=by rw[show e1 104=e1 (10+94)from rfl,g1 94 (by omega),hb];rfl
 refine lY (fun h=>?_) (fun h=>?_);refine iy (pre:=fun ds=>ds=[]) (rel:=fun _ eo=>eo=[DV.b true]) (fun ds h=>by subst h;exact⟨_,Aw.Gs,rfl⟩) rfl ?_;rintro _ _ rfl;exact OO rfl;have h:(!((e1 104).bool)||decide (3<(e1 69).int))=false:=h;rw[anp,uL,Bool.not_eq_false',tZ]at h;obtain⟨rfl,anA⟩:=h;obtain⟨hP,_,_,_,_⟩:=hG l rfl rfl;obtain⟨st,dV⟩:∃st,Wi.take 94=st:=⟨_,rfl⟩;rw[dV]at hP;have vx:=hP.len;have TH:∀j,j<94->e1 (10+j)=st.getD j (.i 0):=fun j hj=>by
   rw[g1 j (by omega),<- dV];simp only[cq];rw[List.getElem?_take_of_lt hj]
 have rk:∀ {t:au} {R:List DV->Prop} {E:Nat->List DV->List DV->Prop} {Ps F} (k:Nat),k<8->t.gC E R Ps e1 F->(au.ev (.aG (r6 (.v (1+k)))) t).gC E R Ps e1 F:=fun k hk ht=>zc (by
   have:=hs k hk;simp only[IE.af,sv k hk,di];omega) ht
 refine rk 0 (by omega) (rk 4 (by omega) (rk 1 (by omega) (rk 5 (by omega) (rk 2 (by omega) (rk 6 (by omega) (rk 3 (by omega) (rk 7 (by omega) ?_)))))));have pv:∀e':az,(∀k,k<107->e' k=e1 k)->(Py 10).map (DE.af e')=st:=fun e' o=>lF (b:=10) hP.has (fun j hj=>by rw[o _ (by omega)];exact TH j (by omega)) (by kernel_rfl);obtain⟨x,xe⟩:∃x:Nat->DV,x=fun k=>.i (s k):=⟨_,rfl⟩;obtain⟨y,ye⟩:∃y:Nat->DV,y=fun k=>.i (s (4+k)):=⟨_,rfl⟩;have xk:∀k,x k = .i (s k):=fun k=>by rw[xe]
 have yk:∀k,y k = .i (s (4+k)):=fun k=>by rw[ye]
 have hx:∀k,k<4->∃n,x k = .i n/\-32768<=n/\n<=32767:=fun k hk=>⟨_,xk k,hs k (by omega)⟩;have hy:∀k,k<4->∃n,y k = .i n/\-32768<=n/\n<=32767:=fun k hk=>⟨_,yk k,hs (4+k) (by omega)⟩;have dA:∀e':az,(∀k,k<107->e' k=e1 k)->∀k,k<4->(sA k).af e'=x k:=fun e' o k hk=>by
   show DV.i (e' (1+k)).int=_;rw[o _ (by omega),sv k (by omega),xk];rfl
 have dB:∀e':az,(∀k,k<107->e' k=e1 k)->∀k,k<4->(sB k).af e'=y k:=fun e' o k hk=>by
   show DV.i (e' (5+k)).int=_;rw[show 5+k=1+(4+k)by omega,o _ (by omega),sv (4+k) (by omega),yk];rfl
 have aP:∀e':az,(∀k,k<107->e' k=e1 k)->I'.map (DE.af e')=setAll st (fR x y DV.b onP):=fun e' o=>by
   unfold I';rw[Bq,pv e' o,Dm];exact congrArg (setAll st) (yL (dA e' o) (dB e' o))
 have aQ:∀e':az,(∀k,k<107->e' k=e1 k)->Ja.map (DE.af e')=setAll st (fR y x DV.b onQ):=fun e' o=>by
   unfold Ja;rw[Bq,pv e' o,Dm];exact congrArg (setAll st) (yL (dB e' o) (dA e' o))
 have hP1:=ok7 (on:=onP) hP hx hy;have hP2:=ok7 (on:=onQ) hP hy hx;obtain⟨r1,q1,afF,em1⟩:=g18 bX Qb _ (A5 hP1);obtain⟨r2,q2,anB,em2⟩:=g18 bX Qb _ (A5 hP2);have QV:=k3 st hP;have u1:=us7 (x:=x) (y:=y) (on:=onP) vx QV;have u2:=us7 (x:=y) (y:=x) (on:=onQ) vx QV;have u1:us (aR.av 0 (setAll st (fR x y DV.b onP))) 6=[[3,s 0,s 1,s 2,s 3],[3,s 4,s 5,s 6,s 7]]:=by rw[u1];simp only[xk,yk];rfl
 have u2:us (aR.av 0 (setAll st (fR y x DV.b onQ))) 6=[[3,s 4,s 5,s 6,s 7],[3,s 0,s 1,s 2,s 3],[3,s 4,s 5,s 6,s 7],[3,s 4,s 5,s 6,s 7],[3,s 0,s 1,s 2,s 3]]:=by rw[u2];simp only[xk,yk];rfl
 have heq:r1=r2:=by
   refine I9 hP1 hP2 (fun j hj=>?_) ?_ (fun t=>?_) (fun t ht=>?_) em1 em2;rw[zf (by omega),zf (by omega)];rw[iD (by rw[vv];omega),zf (by omega),<- TH 59 (by omega)];show(e1 69).int<=3;omega;rw[u1,u2];simp;grind;rw[u1]at ht;simp only[bD,gE,or_false]at ht;have h0:=hs 0 (by omega);have h1:=hs 1 (by omega);have h2:=hs 2 (by omega);have h3:=hs 3 (by omega);have h4:=hs 4 (by omega);have h5:=hs 5 (by omega);have h6:=hs 6 (by omega);have h7:=hs 7 (by omega)
   rcases ht with rfl|rfl;refine⟨fun j j1 j4=>?_,rfl⟩;have hj:j=1\/j=2\/j=3\/j=4:=by omega
   rcases hj with rfl|rfl|rfl|rfl<;>simp<;>omega;refine⟨fun j j1 j4=>?_,rfl⟩;have hj:j=1\/j=2\/j=3\/j=4:=by omega
   rcases hj with rfl|rfl|rfl|rfl<;>simp<;>omega
 subst heq;obtain⟨out,w,rfl⟩:∃out w,r1=[.l out,.b w]:=by
   obtain⟨_,_,_,_,_,out,w,_,_,_,_,_,rfl⟩:=em1;exact⟨out,w,rfl⟩
 have ve:A.has (.l 0 (some 512000000000) mG) (.l out):=by have:=afF.1;rw[adE]at this;exact this.1
 obtain⟨P,hPe⟩:∃P,setAll st (fR x y DV.b onP)=P:=⟨_,rfl⟩;obtain⟨Q,hQe⟩:∃Q,setAll st (fR y x DV.b onQ)=Q:=⟨_,rfl⟩;rw[hPe]at q1 aP;rw[hQe]at q2 aQ;refine iy (pre:=fun ds=>ds=P) (rel:=fun _ eo=>eo=[.l out,.b w]) (fun ds h=>by subst h;exact⟨_,q1,rfl⟩) (aP e1 fun _ _=>rfl) ?_;rintro _ _ rfl;obtain⟨e2,pz,o2,v2⟩:=A7 e1 107 [.l out,.b w];rw[<- pz];refine iy (pre:=fun ds=>ds=Q) (rel:=fun _ eo=>eo=[.l out,.b w]) (fun ds h=>by subst h;exact⟨_,q2,rfl⟩) (aQ e2 fun k hk=>o2 k hk) ?_;rintro _ _ rfl;obtain⟨e3,yG,o3,v3⟩:=A7 e2 109 [.l out,.b w];rw[<- yG];refine iy (pre:=fun ds=>ds=[]) (rel:=fun _ eo=>eo=[DV.b true]) (fun ds h=>by subst h;exact⟨_,Aw.Gs,rfl⟩) rfl ?_;rintro _ _ rfl;obtain⟨e4,he4,o4,v4⟩:=A7 e3 111 [.b true];rw[<- he4];have anq:e4 107 = .l out:=by rw[o4 _ (by omega),o3 _ (by omega)];exact v2 0 (by simp)
 have afG:e4 108 = .b w:=by rw[o4 _ (by omega),o3 _ (by omega)];exact v2 1 (by simp)
 have anr:e4 109 = .l out:=by rw[o4 _ (by omega)];exact v3 0 (by simp)
 have afH:e4 110 = .b w:=by rw[o4 _ (by omega)];exact v3 1 (by simp)
 have afI:e4 111 = .b true:=v4 0 (by simp);refine JJ (pre:=fun ds=>ds=[.l out,.l out]) (rel:=fun _ eo=>eo=[DV.b true]) (fun ds h=>by subst h;exact⟨_,Q7 ve,rfl⟩) ?_ ?_ ?_;show((e4 111).bool&&((e4 108).bool==(e4 110).bool))=true;rw[afI,afG,afH];simp[DV.bool];simp only[jK,nN,DE.af,anq,anr,dl];rintro _ _ rfl;obtain⟨e5,he5,o5,v5⟩:=A7 e4 112 [.b true];have ans:e5 112 = .b true:=v5 0 (by simp);rw[<- he5];refine OO ?_;show [DV.b (((e5 111).bool&&((e5 108).bool==(e5 110).bool))&&(e5 112).bool)]=_;rw[o5 111 (by omega),o5 108 (by omega),o5 110 (by omega),afI,afG,afH,ans];simp[DV.bool]
end
section
open Go.Sx Go
theorem Wj:pA[17]?=some (.i 3 3):=by kernel_rfl
theorem Wk:pA[22]?=some (.i 3 3):=by kernel_rfl
theorem Wl:pA[27]?=some (.i 3 3):=by kernel_rfl
theorem Wm:pA[32]?=some (.i 3 3):=by kernel_rfl
theorem Wn:pA[37]?=some (.i 3 3):=by kernel_rfl
theorem Wo:pA[42]?=some (.i 3 3):=by kernel_rfl
theorem aaU(st:List DV)(hP:fy st)(i:Nat)(hi:i<6):st.getD (17+5*i) (.i 0) = .i 3:=by
 have ch:∀i,i<6->pA[17+5*i]?=some (.i 3 3):=by
   intro i hi
   match i,hi with
   |0,_=>exact Wj
   |1,_=>exact Wk
   |2,_=>exact Wl
   |3,_=>exact Wm
   |4,_=>exact Wn
   |5,_=>exact Wo
 obtain⟨d,hd,ha⟩:=hP.has.at (ch i hi);rw[cq,hd];cases d with
 | i n=>
   obtain⟨h1,h2⟩:(3:Int)<=n/\n<=3:=ha;obtain rfl:n=3:=by omega
   rfl
 |_=>exact ha.elim
theorem i16_in{d:DV}(h:Up (.c (.i .i16)) d):∃n,d = .i n/\-32768<=n/\n<=32767:=by
 cases d with
 |i n=>exact⟨n,rfl,h.1,h.2⟩
 |_=>exact h.elim
theorem KL:∀(m:Nat) {ds:List DV},CV (rp m (.c (.i .i16))) ds->∃s:Nat->Int,ds=(List.range m).map (fun k=>.i (s k))/\∀k,k<m->-32768<=s k/\s k<=32767
 | 0,ds,h=>by
   cases ds with
   |nil=>exact⟨fun _=>0,rfl,fun k hk=>by omega⟩
   |cons _ _=>exact h.elim
 | m+1,ds,h=>by
   cases ds with
   |nil=>exact h.elim
   | cons d ds=>
     obtain⟨n,rfl,hn⟩:=i16_in h.1;obtain⟨s,rfl,hs⟩:=KL m h.2;refine⟨fun k=>match k with|0=>n|k+1=>s k,?_,fun k hk=>?_⟩;rw[List.range_succ_eq_map,jK,List.map_map];rfl;cases k with
     |zero=>exact hn
     |succ k=>exact hs k (by omega)
theorem Wb{Ff:List DV}(h:CV (.n 85 nkR::rp 8 (.c (.i .i16))) Ff):aaT Ff:=by
 match Ff,h with
 | d::ds,h=>
   obtain⟨l,rfl,hl⟩:=Wa h.1;obtain⟨s,rfl,hs⟩:=KL 8 h.2;exact⟨l,s,rfl,hl,hs⟩
theorem g7w:mb (TT Tryz.prog) XF 7 aaT (fun _ rs=>rs=[.b true]):=g7 aaU
end
end Go.Proofs.YtohebioanhliiaaGreatDoor.aF

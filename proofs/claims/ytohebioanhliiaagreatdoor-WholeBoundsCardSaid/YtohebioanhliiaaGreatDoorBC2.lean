/- Functions shown by hand: Run, opened, Prims, Right. -/
import Derived.Test.YtohebioanhliiaaGreatDoorBC1
import Derived.Test.YtohebioanhliiaaGreatDoorBB2
set_option maxRecDepth 100000
set_option linter.unusedVariables false
set_option linter.unusedSimpArgs false
namespace Go.Proofs.YtohebioanhliiaaGreatDoor.aw
section
open Go.Sx
def pA:List A:=(kc 24).res
theorem X':pA.length=94:=by kernel_rfl
def Tp(st:List DV)(j:Nat):Int:=(st.getD j (.i 0)).int
def IK(st:List DV)(j:Nat):List (List Int):=(st.getD j (.i 0)).list
structure Ot(st:List DV):Prop where
 has:nL pA st
 c3:((IK st 3).length:Int)=Tp st 1*Tp st 2
 c4:((IK st 4).length:Int)=Tp st 1*Tp st 2
 c60:(IK st 60).length=(IK st 61).length
theorem Ot.len{st:List DV}(h:Ot st):st.length=94:=by rw[<- h.has.len,X']
theorem G0{ds:List DV}{b j:Nat}{e:aA}(h:j<ds.length):e.ay b ds (b+j)=ds.getD j (.i 0):=by
 have:=aA.dr (U:=e) (k:=b) (ds:=ds) (i:=j) (fV h);rw[this];simp[List.getD,h]
theorem Dc{ds:List DV}{j:Nat}(h:j<ds.length):bB.ay 0 ds j=ds.getD j (.i 0):=by
 have:=G0 (e:=bB) (b:=0) h;rwa[fP]at this
def IL(E:Nat->List DV->List DV->Prop)(l:List (List Int)):Nat->List DV->Prop
 |0,st=>E 23 [] st
 |i+1,aW=>∃st,IL E l i st/\E 24 (st++[.i (ai9 (l.getD i [])),.l (Ya (l.getD i []))]) aW
theorem IL.congr{E E':Nat->List DV->List DV->Prop}(h23:∀ds rs,E 23 ds rs->E' 23 ds rs)(h24:∀ds rs,E 24 ds rs->E' 24 ds rs){l:List (List Int)}:∀ {i:Nat} {st:List DV},IL E l i st->IL E' l i st:=by
 intro i;induction i with
 |zero=>intro st h;exact h23 _ _ h
 |succ i ih=>intro st h;obtain⟨jB,h1,h2⟩:=h;exact⟨jB,ih h1,h24 _ _ h2⟩
variable {X:bD}
end
section
open Go.Sx
def t47:ar:=
.ite (.lt (.len 0) (.c 3)) (
.ret [.nil]) (
.ev (.aG (.le (.c 0) (.len 0))) (
.ev (.aG (.le (.len 0) (.c 140737488355328))) (
.ev (.cu 3 (.rep (.len 0) [0])) (
.loop 47005 [.l 3,.i (.c 0)] [.s 4 [.b],.c i6] 4 (
.ite (.lt (.v 5) (.len 0)) (
.ev (.aG (.le (.c 0) (.v 5))) (
.ev (.aG (.or (.not (.v 2)) (.le (.c 0) (.get 0 (.v 5) 0)))) (
.ev (.aG (.or (.not (.v 2)) (.lt (.get 0 (.v 5) 0) (.len 1)))) (
.ev (.aG (.lt (.v 5) (.len 4))) (
.ev (.cu 6 (.set 4 (.v 5) 0 (.inr (.or (.not (.v 2)) (.qu (.get 1 (.get 0 (.v 5) 0) 0)))))) (
.ev (.aG (r6 (.add (.v 5) (.c 1)))) (
.again 47005 [.l 6,.i (.add (.v 5) (.c 1))]))))))) (
.ret [.l 4]))))))
theorem T47:TT Tryz.prog 47=some ⟨47,t47,(rowOf 47).sub⟩:=by kernel_rfl
def t44:ar:=
.ite (.lt (.len 0) (.c 3)) (
.ret [.nil]) (
.ev (.aG (.le (.c 0) (.len 0))) (
.ev (.aG (.le (.len 0) (.c 17592186044416))) (
.ev (.cu 1 (.rep (.len 0) [0])) (
.loop 44005 [.i (.c 0),.l 1] [.c i6,.s 3 [i6]] 2 (
.ite (.lt (.v 2) (.len 1)) (
.ev (.aG (.le (.c 0) (.v 2))) (
.ev (.aG (.lt (.v 2) (.len 3))) (
.ev (.cu 4 (.set 3 (.v 2) 0 (.inl (.v 2)))) (
.ev (.aG (r6 (.add (.v 2) (.c 1)))) (
.again 44005 [.i (.add (.v 2) (.c 1)),.l 4]))))) (
.ev (.call 47 (.c true) [.l 3,.l 0,.b (.c true)] [.one (.s 4 [.b])] 4) (
.ev (.cu 5 (.yc [[.s 3,.s 4,.c (.inl (.c 0))]])) (
.ret [.l 5]))))))))
theorem T44:TT Tryz.prog 44=some ⟨44,t44,(rowOf 44).sub⟩:=by kernel_rfl
variable {X:bD}
def Hf(l:List Int):Prop:=∀x∈l,x=0\/x=1
def zG(ds:List DV):Prop:=∃(V:List Int) (F:List (List Int)) (b:Bool),ds=[.l (eL V),.l F,.b b]/\V.length<=256/\(b=true->∀x∈V,0<=x/\x<F.length)
def zH(ds rs:List DV):Prop:=∃E:List Int,rs=[.l (eL E)]/\Hf E/\∀V F b,ds=[.l (eL V),.l F,.b b]->(V.length<3->E=[])/\(3<=V.length->E.length=V.length)
theorem Fb{a b:List Int}(h:eL a=eL b):a=b:=by
 have:=congrArg (List.map fun r:List Int=>r.getD 0 0) h;simpa[eL,List.map_map,Function.comp_def]using this
theorem o47{E:Nat->List DV->List DV->Prop}{ds:List DV}(hp:zG ds):t47.jm E (zH ds) [] (bB.ay 0 ds) (fun _ _=>False):=by
 obtain⟨V,F,b,rfl,hV,hb⟩:=hp;unfold t47;refine nj (fun h=>?_) (fun h=>?_);simp[IE.ae,DV.list,aA.ay,aA.set,dK]at h;refine gV (rs:=[.l (eL [])]) (by simp[DE.ae,eL]) ⟨[],rfl,(fun x hx=>by cases hx),?_⟩;intro V' F' b' e;simp only[List.cons.injEq,DV.l.injEq]at e;have:=Fb e.1;subst this;exact⟨fun _=>rfl,fun h'=>by omega⟩;simp[IE.ae,DV.list,aA.ay,aA.set,dK]at h;refine tM (by simp[IE.ae,DV.list,aA.ay,aA.set,dK]) ?_;refine tM (by simp[IE.ae,DV.list,aA.ay,aA.set,dK];omega) ?_;refine mv (M:=eL (List.replicate V.length 0)) (by simp[cT.ae,IE.ae,DV.list,aA.ay,aA.set,dK,zI]) ?_;refine vL (fun ds=>∃(E:List Int) (i:Int),ds=[.l (eL E),.i i]/\E.length=V.length/\Hf E/\0<=i/\i<=V.length) (fun| [_,.i i]=>((V.length:Int)-i).toNat|_=>0)
   ⟨List.replicate V.length 0,0,by simp[DE.ae,IE.ae,DV.list,aA.ay,aA.set],by simp,fun x hx=>.inl (List.eq_of_mem_replicate hx),by omega,by omega⟩ ?_
 rintro _ ⟨E,i,rfl,hE,h01,te,hi⟩;refine nj (fun h1=>?_) (fun h1=>?_);simp[IE.ae,DV.int,DV.list,aA.ay,aA.set,dK]at h1;refine tM (by simp[IE.ae,DV.int,aA.ay,aA.set];omega) ?_;have hm:=Fc (l:=V) te h1;have hx:V.getD i.toNat 0∈V:=Fe (by omega);refine pM ?_ (pM ?_ ?_);cases b with
 |false=>simp[BE.ae,DV.bool,aA.ay,aA.set]
 |true=>simp[BE.ae,IE.ae,DV.int,DV.list,DV.bool,aA.ay,aA.set,hm];have:=hb rfl _ hx;simpa using this.1
 cases b with
 |false=>simp[BE.ae,DV.bool,aA.ay,aA.set]
 |true=>simp[BE.ae,IE.ae,DV.int,DV.list,DV.bool,aA.ay,aA.set,hm];have:=hb rfl _ hx;simpa using this.2
 refine acP (by simp[IE.ae,DV.int,DV.list,aA.ay,aA.set,dK,hE];omega) ?_;refine mv (M:=eL (E.set i.toNat (if(!b||decide (cellAt F (V.getD i.toNat 0) 0≠0))=true then 1 else 0))) (by simp[cT.ae,bV,BE.ae,IE.ae,DV.int,DV.list,DV.bool,aA.ay,aA.set,hm,uV]) ?_;refine KE (by simp[IE.ae,DV.int,aA.ay,aA.set];omega) (uG ⟨⟨E.set i.toNat (if(!b||decide (cellAt F (V.getD i.toNat 0) 0≠0))=true then 1 else 0),i+1,by simp[DE.ae,IE.ae,DV.int,DV.list,aA.ay,aA.set],by simp[hE],?_,by omega,by omega⟩,?_⟩);intro x hx;rcases List.mem_or_eq_of_mem_set hx with hx|rfl;exact h01 x hx;split;exact .inr rfl;exact .inl rfl;simp[DE.ae,IE.ae,DV.int,aA.ay,aA.set];omega;simp[IE.ae,DV.int,DV.list,aA.ay,aA.set,dK]at h1;refine gV (rs:=[.l (eL E)]) (by simp[DE.ae,aA.ay,aA.set,DV.list]) ⟨E,rfl,h01,?_⟩;intro V' F' b' e;simp only[List.cons.injEq,DV.l.injEq]at e;have:=Fb e.1;subst this;exact⟨fun h'=>by omega,fun _=>hE⟩
def zJ(V E:List Int)(p:Int):List Int:=(V.length:Int)::(E.length:Int)::p::(V++E)
def zK(m:Int)(n:Nat)(r:List Int):Prop:=∃(V E:List Int) (p:Int),r=zJ V E p/\1<=V.length/\V.length<=256/\(∀x∈V,0<=x/\x<n)/\0<=p/\p<n/\Hf E/\(V.length<3->E=[])/\(3<=V.length->E.length=V.length)/\(4<=m->3<=V.length)/\(m<=3->V.length<=2)
def U3(ds:List DV):Prop:=∃(m:Int) (F:List (List Int)) (b:Bool),ds=[.i m,.l F,.b b]/\F.length<=256
def IM(ds rs:List DV):Prop:=∃(L:List (List Int)) (e:Int),rs=[.l L,.i e]/\L.length<=256/\(0<=e/\e<=12)/\∀m F b,ds=[.i m,.l F,.b b]->∀r∈L,zK m F.length r
def Ou(ds:List DV):Prop:=∃F:List (List Int),ds=[.l F]/\F.length<=256
def Ov(ds rs:List DV):Prop:=∃L:List (List Int),rs=[.l L]/\L.length<=1/\∀F,ds=[.l F]->∀r∈L,zK 9 F.length r
theorem Ff{l:List Int}:(eL l).map (fun r=>r.getD 0 0)=l:=by simp[eL,List.map_map,Function.comp_def]
theorem o44{E:Nat->List DV->List DV->Prop}(AS:∀ds,zG ds->∃rs,E 47 ds rs/\zH ds rs){ds:List DV}(hp:Ou ds):t44.jm E (Ov ds) [] (bB.ay 0 ds) (fun _ _=>False):=by
 obtain⟨F,rfl,hF⟩:=hp;unfold t44;refine nj (fun h=>?_) (fun h=>?_);exact gV (rs:=[.l []]) (by simp[DE.ae]) ⟨[],rfl,by simp,fun _ _ r hr=>by cases hr⟩;simp[IE.ae,DV.list,aA.ay,aA.set]at h;refine tM (by simp[IE.ae,DV.list,aA.ay,aA.set]) ?_;refine tM (by simp[IE.ae,DV.list,aA.ay,aA.set];omega) ?_;refine mv (M:=eL (List.replicate F.length 0)) (by simp[cT.ae,IE.ae,DV.list,aA.ay,aA.set,zI]) ?_;refine vL (fun ds=>∃(V:List Int) (i:Int),ds=[.i i,.l (eL V)]/\V.length=F.length/\(∀x∈V,0<=x/\x<F.length)/\0<=i/\i<=F.length) (fun| [.i i,_]=>((F.length:Int)-i).toNat|_=>0)
   ⟨List.replicate F.length 0,0,by simp[DE.ae,IE.ae,DV.list,aA.ay,aA.set],by simp,fun x hx=>by rw[List.eq_of_mem_replicate hx];omega,by omega,by omega⟩ ?_
 rintro _ ⟨V,i,rfl,hV,hx,te,hi⟩;refine nj (fun h1=>?_) (fun h1=>?_);simp[IE.ae,DV.int,DV.list,aA.ay,aA.set,dK]at h1;refine tM (by simp[IE.ae,DV.int,aA.ay,aA.set];omega) ?_;refine acP (by simp[IE.ae,DV.int,DV.list,aA.ay,aA.set,dK];omega) ?_;refine mv (M:=eL (V.set i.toNat i)) (by simp[cT.ae,bV,IE.ae,DV.int,DV.list,aA.ay,aA.set,uV]) ?_;refine KE (by simp[IE.ae,DV.int,aA.ay,aA.set];omega) (uG ⟨⟨V.set i.toNat i,i+1,by simp[DE.ae,IE.ae,DV.int,DV.list,aA.ay,aA.set],by simp[hV],?_,by omega,by omega⟩,?_⟩);intro x hm;rcases List.mem_or_eq_of_mem_set hm with hm|rfl;exact hx x hm;omega;simp[DE.ae,IE.ae,DV.int,aA.ay,aA.set];omega;refine vK AS ⟨V,F,true,by simp[DE.ae,BE.ae,DV.list,aA.ay,aA.set],by omega,fun _=>hx⟩ ?_;rintro _ _ ⟨E',rfl,h01,hE⟩;have hE:=hE V F true (by simp[DE.ae,BE.ae,DV.list,aA.ay,aA.set]);refine mv (M:=[zJ V E' 0]) (by simp[cT.ae,bI.head,bI.tail,bV,IE.ae,DV.int,DV.list,aA.ay,aA.set,dK,zJ,<- List.getD_eq_getElem?_getD,Ff]) ?_;refine gV (rs:=[.l [zJ V E' 0]]) (by simp[DE.ae,DV.list,aA.ay,aA.set]) ⟨_,rfl,by simp,?_⟩;intro F' e r hr;cases e;rw[lU]at hr;exact⟨V,E',0,hr,by omega,by omega,hx,by omega,by omega,h01,hE.1,hE.2,fun _=>by omega,fun h=>by omega⟩
def KP:List (List Int):=[[0],[0,1],[0,1],[0,1],[0,1,2],[0,1,2],[1,0,2],[0,1,2],[0,1,2,3],[0,1,3,2]]
def Yb(l:List Int):cT:=.lit (l.map fun n=>[.inl (.c n)])
def IN(b:Nat):List (List Int)->ar->ar
 | [],t=>t
 |l::ls,t=>.ev (.cu b (Yb l)) (IN (b+1) ls t)
theorem Tq{U:aA}{l:List Int}:(Yb l).ae U=eL l:=by
 simp[Yb,cT.ae,eL,bV,IE.ae,Function.comp_def]
def BL(U:aA)(b:Nat):List (List Int)->aA
 | []=>U
 |l::ls=>BL (U.set b (.l (eL l))) (b+1) ls
section
variable {E:Nat->List DV->List DV->Prop}{R:List DV->Prop}{Ps:List (Int->Prop)}{F:Nat->List DV->Prop}{t t':ar}
theorem Hg:∀ {ls:List (List Int)} {b:Nat} {U:aA},t.jm E R Ps (BL U b ls) F->(IN b ls t).jm E R Ps U F
 | [],_,_,h=>h
 |l::ls,b,U,h=>mv Tq (Hg (ls:=ls) h)
end
def Ru(s:Int):IE:=if s=1 then .v 18 else .mul (.c s) (.v 18)
def zL(k:Nat)(s:Int):ar:=IN 3 KP (.ite (.lt (.v 1) (.len k)) (.ret [.i (.c 0)])
 (ns [r6 (.sub (.v 1) (.len k)),r6 (.tdiv (.sub (.v 1) (.len k)) (.c s)),r6 (.add (.tdiv (.sub (.v 1) (.len k)) (.c s)) (.c 1))] (.ret [.i (.add (.tdiv (.sub (.v 1) (.len k)) (.c s)) (.c 1))])))
def chain(b:ar):List (Int×ar)->ar
 | []=>b
 |(m,t)::r=>.ite (.eq (.v 0) (.c m)) t (chain b r)
def t46:ar:=.ite (.or (.or (.or (.lt (.v 0) (.c 0)) (.lt (.c 9) (.v 0))) (.lt (.v 1) (.c 1))) (.lt (.c 256) (.v 1))) (.ret [.i (.c 0)])
 (.ite (.eq (.v 0) (.c 9)) (.ev (.aG (r6 (.tdiv (.v 1) (.c 3)))) (.ret [.i (.min (.tdiv (.v 1) (.c 3)) (.c 1))]))
 (.ite (.eq (.v 0) (.c 3)) (.ite (.eq (.v 1) (.c 1)) (.ret [.i (.c 0)]) (.ret [.i (.v 1)]))
 (chain (.stuck "") [(0,zL 3 1),(1,zL 4 2),(2,zL 5 1),(3,zL 6 1),(4,zL 7 3),(5,zL 8 1),(6,zL 10 1),(7,zL 11 4),(8,zL 12 2)])))
def tO(m:Int):Int×Int:=if m=0 then(1,1)else if m=1 then(2,2)else if m=2 then(1,2)else if m=3 then(1,1)else if m=4 then(3,3)else if m=5 then(1,3)else if m=6 then(1,3)else if m=7 then(4,4)else if m=8 then(2,4)else(3,3)
def IP(ds:List DV):Prop:=∃m n:Int,ds=[.i m,.i n]/\0<=m/\m<=9/\0<=n/\n<=256
def Fg(ds rs:List DV):Prop:=∃c:Int,rs=[.i c]/\0<=c/\c<=256/\∀m n,ds=[.i m,.i n]->0<c->(tO m).1*(c-1)+(tO m).2<=n
theorem o46{E:Nat->List DV->List DV->Prop}{ds:List DV}(hp:IP ds):t46.jm E (Fg ds) [] (bB.ay 0 ds) (fun _ _=>False):=by
 obtain⟨m,n,rfl,h0,h9,gY,hn⟩:=hp;have br:∀(k:Nat) (s:Int) (L:Nat),1<=s->(tO m)=(s,(L:Int))->(((BL (bB.ay 0 [.i m,.i n]) 3 KP) k).list.length=L)->1<=L->(zL k s).jm E (Fg [.i m,.i n]) [] (bB.ay 0 [.i m,.i n]) (fun _ _=>False):=by
   intro k s L hs hp hk hL;unfold zL;have e1:((BL (bB.ay 0 [.i m,.i n]) 3 KP) 1).int=n:=rfl;refine Hg (nj (fun h=>?_) (fun h=>?_));exact gV (rs:=[.i 0]) rfl ⟨0,rfl,by omega,by omega,fun _ _ _ h=>by omega⟩;simp only[IE.ae,e1,hk]at h;have Ab:0<=(n-(L:Int)).tdiv s:=Int.tdiv_nonneg (by omega) (by omega);have xD:(n-(L:Int)).tdiv s*s<=n-L:=by rw[D8 (by omega)];exact Int.ediv_mul_le _ (by omega)
   have hd2:(n-(L:Int)).tdiv s<=n-L:=by rw[D8 (by omega)];exact Int.ediv_le_self _ (by omega)
   refine Hh ?_ (gV (rs:=[.i ((n-(L:Int)).tdiv s+1)]) (by simp only[List.map,DE.ae,IE.ae,e1,hk]) ⟨_,rfl,by omega,by omega,?_⟩);intro p hp;simp only[bh,gh,or_false]at hp;rcases hp with rfl|rfl|rfl<;>refine nQ ?_<;>simp only[IE.ae,e1,hk]<;>omega;intro m' n' e _;cases e;rw[hp];show s*_+(L:Int)<=_;have:s*((n-(L:Int)).tdiv s+1-1)=(n-(L:Int)).tdiv s*s:=by rw[Int.add_sub_cancel,mc]
   omega
 unfold t46;refine rk (fun h=>?_) (fun h=>?_);exact gV (rs:=[.i 0]) rfl ⟨0,rfl,by omega,by omega,fun _ _ _ h=>by omega⟩;have eX:1<=n:=by
   simp[BE.ae,IE.ae,DV.int,aA.ay,aA.set]at h;omega
 refine dd (fun h9'=>?_) (fun h9'=>?_);simp[IE.ae,DV.int,aA.ay,aA.set]at h9';subst h9';have Ab:0<=n.tdiv 3:=Int.tdiv_nonneg (by omega) (by omega);have xD:n.tdiv 3*3<=n:=by rw[D8 (by omega)];exact Int.ediv_mul_le _ (by omega)
 refine KE (by simp[IE.ae,DV.int,aA.ay,aA.set];omega) (gV (rs:=[.i (min (n.tdiv 3) 1)]) (by simp[DE.ae,IE.ae,DV.int,aA.ay,aA.set]) ⟨_,rfl,by omega,by omega,?_⟩);intro m' n' e hc;cases e;show 3*_+3<=n;omega;refine dd (fun h3=>?_) (fun h3=>?_);simp[IE.ae,DV.int,aA.ay,aA.set]at h3;subst h3;refine dd (fun h1=>?_) (fun h1=>?_);exact gV (rs:=[.i 0]) rfl ⟨0,rfl,by omega,by omega,fun _ _ _ h=>by omega⟩;refine gV (rs:=[.i n]) (by simp[DE.ae,IE.ae,DV.int,aA.ay,aA.set]) ⟨_,rfl,by omega,by omega,?_⟩;intro m' n' e hc;cases e;show 1*_+1<=n;omega;simp[IE.ae,DV.int,aA.ay,aA.set]at h9' h3;refine dd (fun e=>?_) (fun e0=>?_);have e:m=0:=e;subst e;exact br 3 1 1 (by omega) rfl rfl (by omega);refine dd (fun e=>?_) (fun e1=>?_);have e:m=1:=e;subst e;exact br 4 2 2 (by omega) rfl rfl (by omega);refine dd (fun e=>?_) (fun e2=>?_);have e:m=2:=e;subst e;exact br 5 1 2 (by omega) rfl rfl (by omega);refine dd (fun e=>absurd (show m=3 from e) h3) (fun _=>?_);refine dd (fun e=>?_) (fun e4=>?_);have e:m=4:=e;subst e;exact br 7 3 3 (by omega) rfl rfl (by omega);refine dd (fun e=>?_) (fun e5=>?_);have e:m=5:=e;subst e;exact br 8 1 3 (by omega) rfl rfl (by omega);refine dd (fun e=>?_) (fun e6=>?_);have e:m=6:=e;subst e;exact br 10 1 3 (by omega) rfl rfl (by omega);refine dd (fun e=>?_) (fun e7=>?_);have e:m=7:=e;subst e;exact br 11 4 4 (by omega) rfl rfl (by omega);refine dd (fun e=>?_) (fun e8=>?_);have e:m=8:=e;subst e;exact br 12 2 4 (by omega) rfl rfl (by omega);have e0:m≠0:=e0;have e1:m≠1:=e1;have e2:m≠2:=e2;have e4:m≠4:=e4;have e5:m≠5:=e5;have e6:m≠6:=e6;have e7:m≠7:=e7;have e8:m≠8:=e8;omega
theorem T46:TT Tryz.prog 46=some ⟨46,t46,(rowOf 46).sub⟩:=by kernel_rfl
end
section
open Go.Sx
def Tr(k:Nat)(s:IE)(tail:ar):ar:=
 .ev (.aG (.le (.c 0) (.len k))) (.ev (.aG (.le (.len k) (.c 17592186044416))) (.ev (.cu 19 (.rep (.len k) [0])) (.loop 30017 [.i (.c 0),.l 19] [.c i6,.s 3 [i6]] 20 (.ite (.lt (.v 20) (.len k))
   (ns [.le (.c 0) (.v 20),r6 s,r6 (.add s (.get k (.v 20) 0)),.qu (.max (.len 1) (.c 1)),.lt (.v 20) (.len 21)]
     (.ev (.cu 22 (.set 21 (.v 20) 0 (.inl (.tmod (.add s (.get k (.v 20) 0)) (.max (.len 1) (.c 1)))))) (.ev (.aG (r6 (.add (.v 20) (.c 1)))) (.again 30017 [.i (.add (.v 20) (.c 1)),.l 22]))))
   tail))))
def IQ(v e q:Nat)(x:IE):ar:=.ev (.cu q (.yc [[.s v,.s e,.c (.inl x)]])) (.ev (.aG (.le (.add (.len 17) (.len q)) (.c 2513169434916))) (.ev (.cu (q+1) (.app 17 q)) (.ev (.aG (r6 (.add (.v 18) (.c 1)))) (.again 30010 [.l (q+1),.i (.add (.v 18) (.c 1))]))))
def IS(v e q:Nat)(fl:Bool)(l0 l1:List BE)(first last:IE):ar:=
 ns l0 (.ev (.call 47 (.c true) [.l v,.l 1,.b (.c fl)] [.one (.s 4 [.b])] e) (.ite (.v 2) (ns l1 (IQ v e q first)) (IQ v e q last)))
def x30(s:Int)(d:Int):IE:=if d=0 then Ru s else .add (Ru s) (.c d)
def Ow(k:Nat)(s d:Int)(fl:Bool):ar:=Tr k (Ru s) (IS 21 2582 8727 fl ((if d=0 then [r6 (Ru s)]else [r6 (Ru s),r6 (x30 s d)])++[.qu (.len 1)]) [r6 (Ru s)] (Ru s) (.tmod (x30 s d) (.len 1)))
def Yc:ar:=Tr 11 (.v 18) (ns [.lt (.c 0) (.len 21)] (.ev (.cu 22 (.set 21 (.c 0) 0 (.inl (.c 0)))) (IS 22 2583 8728 false [r6 (.v 18),r6 (.add (.v 18) (.c 2)),.qu (.len 1)] [r6 (.v 18),r6 (.add (.v 18) (.c 1))] (.add (.v 18) (.c 1)) (.tmod (.add (.v 18) (.c 2)) (.len 1)))))
def KO(m:Int)(b:ar):Int×ar:=(m,IN 4 KP (.ev (.call 46 (.c true) [.i (.c m),.i (.len 1)] [oI] 16) (.loop 30010 [.nil,.i (.c 0)] [.n 104 [.s 3 i6,.s 4 .b,.c i6],.c i6] 17 (.ite (.lt (.v 18) (.v 16)) b (.ret [.l 17,.i (.c 0)])))))
def t30:ar:=.ite (.or (.lt (.v 0) (.c 0)) (.lt (.c 9) (.v 0))) (.ret [.nil,.i (.c 1)])
 (.ite (.lt (.c 256) (.len 1)) (.ret [.nil,.i (.c 8)])
 (.ite (.eq (.v 0) (.c 9)) (.ev (.call 44 (.c true) [.l 1] [.one (.n 104 [.s 3 i6,.s 4 .b,.c i6])] 3) (.ret [.l 3,.i (.c 0)]))
 (chain (.stuck "") [KO 0 (Ow 4 1 0 false),KO 1 (Ow 5 2 1 false),KO 2 (Ow 6 1 1 false),KO 3 (Ow 7 1 1 false),KO 4 (Ow 8 3 2 true),
   KO 5 (ns [.or (.not (.eq (.tmod (.v 18) (.c 2)) (.c 1))) (.lt (.c 0) (.len 10))] (.ite (.eq (.tmod (.v 18) (.c 2)) (.c 1)) (Ow 10 1 2 false) (Ow 9 1 2 false))),
   KO 6 Yc,KO 7 (Ow 12 4 3 true),KO 8 (Ow 13 2 3 false)])))
theorem T30:TT Tryz.prog 30=some ⟨30,t30,(rowOf 30).sub⟩:=by kernel_rfl
end
section
open Go.Sx
section
variable {E:Nat->List DV->List DV->Prop}{R:List DV->Prop}{Ps:List (Int->Prop)}{F:Nat->List DV->Prop}{G:List DV->Prop}
theorem Ox{k:Nat}{s:IE}{tail:ar}{U:aA}{K:List Int}{S:Int}{n:Nat}(hk:(U k).list=eL K)(ai':k<19)(hK:∀x∈K,0<=x/\x<=3)(hKl:K.length<=4)(hn:(U 1).list.length=n)(gY:1<=n)
   (hs:∀e':aA,(∀m,m<19->e' m=U m)->s.ae e'=S) (hS0:0<=S) (hS:S<=2000)
   (ht:∀(e':aA) (V:List Int) (G':List DV->Prop),(∀m,m<19->e' m=U m)->e' 21 = .l (eL V)->V.length=K.length->(∀x∈V,0<=x/\x<n)->tail.jm E R Ps e' (oN F 30017 G')) :
   (Tr k s tail).jm E R Ps U F:=by
 unfold Tr;refine tM (by simp[IE.ae,hk,dK]) (tM (by simp[IE.ae,hk,dK];omega) (mv (M:=eL (List.replicate K.length 0)) (by simp[cT.ae,IE.ae,hk,dK,zI]) ?_));refine vL (fun ds=>∃(V:List Int) (i:Int),ds=[.i i,.l (eL V)]/\V.length=K.length/\(∀x∈V,0<=x/\x<n)/\0<=i/\i<=K.length) (fun| [.i i,_]=>((K.length:Int)-i).toNat|_=>0)
   ⟨List.replicate K.length 0,0,by simp[DE.ae,IE.ae,DV.list,aA.set],by simp,fun x hx=>by rw[List.eq_of_mem_replicate hx];omega,by omega,by omega⟩ ?_
 rintro _ ⟨V,i,rfl,hV,hx,te,hi⟩;obtain⟨e1,zw⟩:∃e1:aA,e1=(U.set 19 (.l (eL (List.replicate K.length 0)))).ay 20 [.i i,.l (eL V)]:=⟨_,rfl⟩;have bq:∀m,m<19->e1 m=U m:=fun m hm=>by
   subst zw;simp only[aA.ay,aA.set];rw[if_neg (by omega),if_neg (by omega),if_neg (by omega)]
 have Lt:e1 20 = .i i:=by subst zw;rfl
 have h21:e1 21 = .l (eL V):=by subst zw;rfl
 rw[<- zw];have h1:(e1 1).list.length=n:=by rw[bq 1 (by omega),hn]
 have cK:(e1 k).list=eL K:=by rw[bq k ai',hk]
 refine nj (fun cF=>?_) (fun _=>ht _ V _ bq h21 hV hx);simp only[IE.ae,Lt,di,cK,dK]at cF;have hg:cellAt (eL K) i 0=K.getD i.toNat 0:=Fc te cF;have hc:=hK _ (Fe (l:=K) (i:=i.toNat) (by omega));have hd:∀e':aA,(∀m,m<22->e' m=e1 m)->s.ae e'=S:=fun e' h=>hs e' fun m hm=>by rw[h m (by omega),bq m hm]
 have Q8:max (n:Int) 1=n:=by omega
 refine Hh ?_ (mv (M:=eL (V.set i.toNat ((S+K.getD i.toNat 0).tmod n))) ?_ (KE ?_ (uG ⟨⟨_,i+1,by simp[DE.ae,IE.ae,di,dl,aA.set,Lt];rfl,by simp[hV],?_,by omega,by omega⟩,?_⟩)));intro p hp;simp only[bh,gh,or_false]at hp;rcases hp with rfl|rfl|rfl|rfl|rfl;exact mM (by simp only[IE.ae,Lt,di];omega);exact nQ (by rw[hd e1 fun _ _=>rfl];omega);exact nQ (by simp only[IE.ae,Lt,di,cK,hg,hd e1 fun _ _=>rfl];omega);exact mM (by simp only[IE.ae,h1,Q8];omega);exact mM (by simp only[IE.ae,Lt,h21,di,dl,dK];omega);simp only[cT.ae,bV,IE.ae,Lt,h21,di,dl,cK,hg,hd e1 fun _ _=>rfl,h1,Q8,uV];simp only[IE.ae,aA.set,Lt,di];simp[Lt,di];omega;intro x hm;rcases List.mem_or_eq_of_mem_set hm with hm|rfl;exact hx x hm;have a0:0<=S+K.getD i.toNat 0:=by omega
 have a1:=Int.tmod_nonneg (n:Int) a0;have a2:=Int.tmod_lt_of_pos (S+K.getD i.toNat 0) (show(0:Int)<n by omega);exact⟨a1,a2⟩;simp[DE.ae,IE.ae,aA.set,Lt,di];omega
theorem IT(AS:∀ds,zG ds->∃rs,E 47 ds rs/\zH ds rs){v e q:Nat}{fl:Bool}{l0 l1:List BE}{first last:IE}{U:aA}{V:List Int}{Fl out:List (List Int)}{m i a b:Int}{G G':List DV->Prop}
   (hve:v<e) (he:23<=e) (hq:e<q) (hv:U v = .l (eL V)) (h1:U 1 = .l Fl) (hV1:1<=V.length) (hV4:V.length<=4) (hV:∀x∈V,0<=x/\x<Fl.length)
   (hl0:∀p∈l0,p.ae U=true) (Fz:∀e':aA,(∀k,k<22->e' k=U k)->∀p∈l1,p.ae e'=true)
   (hf:∀e':aA,(∀k,k<22->e' k=U k)->first.ae e'=a) (ha:0<=a/\a<Fl.length) (mE:∀e':aA,(∀k,k<22->e' k=U k)->last.ae e'=b) (hb:0<=b/\b<Fl.length)
   (yF:U 17 = .l out) (hol:(out.length:Int)<=i) (hi:U 18 = .i i) (te:0<=i) (HE:i<=255) (hm4:4<=m->3<=V.length) (hm3:m<=3->V.length<=2)
   (hG:∀r,zK m Fl.length r->G [.l (out++[r]),.i (i+1)]):(IS v e q fl l0 l1 first last).jm E R Ps U (oN (oN F 30010 G) 30017 G'):=by
 unfold IS;refine Hh hl0 (vK AS ⟨V,Fl,fl,by simp only[List.map,DE.ae,BE.ae,hv,h1,dl],by omega,fun _=>hV⟩ ?_);rintro _ _ ⟨E',rfl,h01,hE⟩;have hE:=hE V Fl fl (by simp only[List.map,DE.ae,BE.ae,hv,h1,dl]);obtain⟨e1,zw⟩:∃e1:aA,e1=U.ay e [.l (eL E')]:=⟨_,rfl⟩;rw[<- zw];have bq:∀k,k<e->e1 k=U k:=fun k hk=>by
   subst zw;simp only[aA.ay,aA.set];rw[if_neg (by omega)]
 have h1e:e1 e = .l (eL E'):=by subst zw;simp[aA.ay,aA.set]
 have iM:∀k,k<22->e1 k=U k:=fun k hk=>bq k (by omega);have one:∀(x:IE) (c:Int),(∀e':aA,(∀k,k<22->e' k=U k)->x.ae e'=c)->0<=c->c<Fl.length->(IQ v e q x).jm E R Ps e1 (oN (oN F 30010 G) 30017 G'):=by
   intro x c hx u6 rV;unfold IQ;refine mv (M:=[zJ V E' c]) (by simp only[cT.ae,List.map,bI.head,bI.tail,bV,bq v hve,h1e,hv,dl,hx e1 iM,dK,zJ,List.flatMap_cons,List.flatMap_nil,Ff,xk,nU,kG]) ?_;have g17:(e1.set q (.l [zJ V E' c])) 17 = .l out:=by simp only[aA.set];rw[if_neg (by omega),iM 17 (by omega),yF]
   have gq:(e1.set q (.l [zJ V E' c])) q = .l [zJ V E' c]:=by simp[aA.set]
   refine tM (by simp only[IE.ae,g17,gq,dl];simp;omega) (mv (M:=out++[zJ V E' c]) (by simp only[cT.ae,g17,gq,dl]) ?_);have Ts:∀M M',((e1.set q (.l M)).set (q+1) (.l M')) 18 = .i i:=fun M M'=>by simp only[aA.set];rw[if_neg (by omega),if_neg (by omega),iM 18 (by omega),hi]
   refine KE (by simp only[IE.ae,Ts,di];omega) (Oy rfl ?_);have:=hG _ ⟨V,E',c,rfl,hV1,by omega,hV,u6,rV,h01,hE.1,hE.2,hm4,hm3⟩;simp only[List.map,DE.ae,IE.ae,Ts,di];simpa[aA.set,dl]using this
 refine rk (fun _=>Hh (Fz e1 iM) (one _ _ hf ha.1 ha.2)) (fun _=>one _ _ mE hb.1 hb.2)
end
theorem sw{e:aA}{s i:Int}(h:e 18 = .i i):(Ru s).ae e=s*i:=by
 unfold Ru;split;rename_i h1;subst h1;simp only[IE.ae,h,di];omega;simp only[IE.ae,h,di]
theorem IU{e:aA}{s d i:Int}(h:e 18 = .i i):(x30 s d).ae e=s*i+d:=by
 unfold x30;split;rename_i h1;subst h1;rw[sw h];omega;simp only[IE.ae,sw h]
structure Yd(m0:Int)(F:List (List Int))(b:Bool)(e:aA)(out:List (List Int))(i c:Int)(G:List DV->Prop):Prop where
 R5:∀k,k<16->e k=(BL (bB.ay 0 [.i m0,.l F,.b b]) 4 KP) k
 e17:e 17 = .l out
 ZW:e 18 = .i i
 len:(out.length:Int)<=i
 i0:0<=i
 ic:i<c
 NT:c<=256
 acQ:(tO m0).1*(c-1)+(tO m0).2<=F.length
 more:∀r,zK m0 F.length r->G [.l (out++[r]),.i (i+1)]
section
variable {E:Nat->List DV->List DV->Prop}{R:List DV->Prop}{F0:Nat->List DV->Prop}
theorem uW(AS:∀ds,zG ds->∃rs,E 47 ds rs/\zH ds rs){k:Nat}{s d m0 i c:Int}{fl b:Bool}{K:List Int}{F out:List (List Int)}{e:aA}{G:List DV->Prop}(h:Yd m0 F b e out i c G)(hk:(BL (bB.ay 0 [.i m0,.l F,.b b]) 4 KP) k = .l (eL K))(aja:k<16)
   (hK:∀x∈K,0<=x/\x<=3) (hK1:1<=K.length) (hK4:K.length<=4) (hs:(tO m0).1=s) (AY:1<=s) (hs4:s<=4) (hL:1<=(tO m0).2) (Ab:0<=d) (hd:d<=3) (h4:4<=m0->3<=K.length) (h3:m0<=3->K.length<=2) :
   (Ow k s d fl).jm E R [] e (oN F0 30010 G):=by
 have h1:e 1 = .l F:=h.R5 1 (by omega);have hp:=h.acQ;rw[hs]at hp;have te:=h.i0;have hic:=h.ic;have hc:=h.NT;have e1:s*i<=s*(c-1):=nG (by omega) (by omega);have e0:0<=s*i:=qR (by omega) te;have e2:s*i<=4*255:=xo hs4 (by omega) te (by omega);have hn:s*i<F.length:=by omega
 unfold Ow;refine Ox (K:=K) (S:=s*i) (n:=F.length) (by rw[h.R5 k aja,hk];rfl) (by omega) hK hK4 (by rw[h1];rfl) (by omega) (fun e' he=>sw (by rw[he 18 (by omega)];exact h.ZW)) e0 (by omega) ?_;intro e' V G' bq hv hVl hV;have g18:e' 18 = .i i:=by rw[bq 18 (by omega)];exact h.ZW
 have g1:e' 1 = .l F:=by rw[bq 1 (by omega)];exact h1
 have t0:=Int.tmod_nonneg (F.length:Int) (show 0<=s*i+d by omega);have t1:=Int.tmod_lt_of_pos (s*i+d) (show(0:Int)<F.length by omega);refine IT (m:=m0) (i:=i) (a:=s*i) (b:=(s*i+d).tmod F.length) AS (by omega) (by omega) (by omega) hv g1 (by omega) (by omega) hV ?_ ?_ ?_ ⟨e0,hn⟩ ?_ ⟨t0,t1⟩ (by rw[bq 17 (by omega)];exact h.e17) h.len g18 te (by omega) (fun q=>by have:=h4 q;omega) (fun q=>by have:=h3 q;omega) h.more;intro p hp;have n0:(BE.qu (.len 1)).ae e'=true:=mM (by simp only[IE.ae,g1,dl];omega);have r0:(r6 (Ru s)).ae e'=true:=nQ (by rw[sw g18];omega);have r1:(r6 (x30 s d)).ae e'=true:=nQ (by rw[IU g18];omega);split at hp<;>simp at hp<;>rcases hp with rfl|rfl|rfl<;>assumption;intro e2 lH p hp;simp only[lU]at hp;subst hp;exact nQ (by rw[sw (by rw[lH 18 (by omega)];exact g18)];omega);intro e2 lH;exact sw (by rw[lH 18 (by omega)];exact g18);intro e2 lH;simp only[IE.ae,IU (show e2 18 = .i i by rw[lH 18 (by omega)];exact g18),lH 1 (by omega),g1,dl]
theorem Ye(AS:∀ds,zG ds->∃rs,E 47 ds rs/\zH ds rs){i c:Int}{b:Bool}{F out:List (List Int)}{e:aA}{G:List DV->Prop}(h:Yd 6 F b e out i c G):Yc.jm E R [] e (oN F0 30010 G):=by
 have h1:e 1 = .l F:=h.R5 1 (by omega);have hp:1*(c-1)+3<=(F.length:Int):=h.acQ;have te:=h.i0;have hic:=h.ic;have hc:=h.NT;unfold Yc;refine Ox (K:=[0,1,2]) (S:=i) (n:=F.length) (by rw[h.R5 11 (by omega)];rfl) (by omega) (by decide) (by decide) (by rw[h1];rfl) (by omega) (fun e' he=>by simp only[IE.ae,he 18 (by omega),h.ZW,di]) te (by omega) ?_;intro e' V G' bq hv hVl hV;have hVl:V.length=3:=hVl;have g18:e' 18 = .i i:=by rw[bq 18 (by omega)];exact h.ZW
 have g1:e' 1 = .l F:=by rw[bq 1 (by omega)];exact h1
 refine Hh (fun p hp=>?_) (mv (M:=eL (V.set 0 0)) ?_ ?_);simp only[lU]at hp;subst hp;exact mM (by simp only[IE.ae,hv,dl,dK];omega);simp only[cT.ae,bV,IE.ae,hv,dl];exact uV;have s1:∀k,k<22->(e'.set 22 (.l (eL (V.set 0 0)))) k=e' k:=fun k hk=>by simp only[aA.set];rw[if_neg (by omega)]
 have Ts:(e'.set 22 (.l (eL (V.set 0 0)))) 18 = .i i:=by rw[s1 18 (by omega)];exact g18
 have k1:(e'.set 22 (.l (eL (V.set 0 0)))) 1 = .l F:=by rw[s1 1 (by omega)];exact g1
 have t0:=Int.tmod_nonneg (F.length:Int) (show 0<=i+2 by omega);have t1:=Int.tmod_lt_of_pos (i+2) (show(0:Int)<F.length by omega);refine IT (V:=V.set 0 0) (m:=6) (i:=i) (a:=i+1) (b:=(i+2).tmod F.length) AS (by omega) (by omega) (by omega) (by simp[aA.set]) k1 (by simp;omega) (by simp;omega) ?_ ?_ ?_ ?_ ⟨by omega,by omega⟩ ?_ ⟨t0,t1⟩ (by rw[s1 17 (by omega),bq 17 (by omega)];exact h.e17) h.len Ts te (by omega) (fun _=>by simp;omega) (fun q=>by omega) h.more;intro x hx;rcases List.mem_or_eq_of_mem_set hx with hx|rfl;exact hV x hx;omega;intro p hp;simp only[bh,gh,or_false]at hp;rcases hp with rfl|rfl|rfl;exact nQ (by simp only[IE.ae,Ts,di];omega);exact nQ (by simp only[IE.ae,Ts,di];omega);exact mM (by simp only[IE.ae,k1,dl];omega);intro e2 lH p hp;have z18:e2 18 = .i i:=by rw[lH 18 (by omega)];exact Ts
 simp only[bh,gh,or_false]at hp;rcases hp with rfl|rfl<;>exact nQ (by simp only[IE.ae,z18,di];omega);intro e2 lH;simp only[IE.ae,lH 18 (by omega),Ts,di];intro e2 lH;simp only[IE.ae,lH 18 (by omega),lH 1 (by omega),Ts,k1,di,dl]
theorem uX(IJ:∀ds,IP ds->∃rs,E 46 ds rs/\Fg ds rs){m0:Int}{F:List (List Int)}{b:Bool}{B:ar}(h0:0<=m0)(h9:m0<=9)(hF:F.length<=256)
   (hB:∀(e:aA) (out:List (List Int)) (i c:Int) (G:List DV->Prop),Yd m0 F b e out i c G->B.jm E (IM [.i m0,.l F,.b b]) [] e (oN F0 30010 G)) :
   (KO m0 B).2.jm E (IM [.i m0,.l F,.b b]) [] (bB.ay 0 [.i m0,.l F,.b b]) F0:=by
 unfold KO;refine Hg (vK IJ ⟨m0,F.length,rfl,h0,h9,by omega,by omega⟩ ?_);rintro _ _ ⟨c,rfl,u6,hc,hpl⟩;have hpl:=hpl m0 F.length rfl;refine vL (fun ds=>∃(out:List (List Int)) (i:Int),ds=[.l out,.i i]/\(out.length:Int)<=i/\0<=i/\i<=c/\∀r∈out,zK m0 F.length r) (fun| [_,.i i]=>(c-i).toNat|_=>0)
   ⟨[],0,rfl,by simp,by omega,by omega,fun r hr=>by cases hr⟩ ?_
 rintro _ ⟨out,i,rfl,hol,te,hic,iQ⟩;refine nj (fun cF=>?_) (fun z8=>?_);have cF:i<c:=cF;refine hB _ out i c _ ⟨?_,rfl,rfl,hol,te,cF,hc,hpl (by omega),?_⟩;intro k hk;simp only[aA.ay,aA.set];rw[if_neg (by omega),if_neg (by omega),if_neg (by omega)];intro r hr;refine⟨⟨out++[r],i+1,rfl,by simp;omega,by omega,by omega,fun r' cq=>?_⟩,?_⟩;rcases oQ.1 cq with cq|cq;exact iQ r' cq;rw[lU]at cq;subst cq;exact hr;show(c-(i+1)).toNat<(c-i).toNat;omega;exact gV (rs:=[.l out,.i 0]) rfl ⟨out,0,rfl,by omega,by omega,fun m' F' b' e r hr=>by cases e;exact iQ r hr⟩
theorem o30(h44:∀ds,Ou ds->∃rs,E 44 ds rs/\Ov ds rs)(IJ:∀ds,IP ds->∃rs,E 46 ds rs/\Fg ds rs)(AS:∀ds,zG ds->∃rs,E 47 ds rs/\zH ds rs){ds:List DV}(hp:U3 ds):t30.jm E (IM ds) [] (bB.ay 0 ds) F0:=by
 obtain⟨m,F,b,rfl,hF⟩:=hp;unfold t30;refine rk (fun h=>?_) (fun h=>?_);exact gV (rs:=[.l [],.i 1]) rfl ⟨[],1,rfl,by simp,by omega,fun _ _ _ _ r hr=>by cases hr⟩;have hm:0<=m/\m<=9:=by
   simp[BE.ae,IE.ae,DV.int,aA.ay,aA.set]at h;omega
 refine nj (fun _=>?_) (fun _=>?_);exact gV (rs:=[.l [],.i 8]) rfl ⟨[],8,rfl,by simp,by omega,fun _ _ _ _ r hr=>by cases hr⟩;refine dd (fun e=>?_) (fun e9=>?_);have e:m=9:=e;subst e;refine vK h44 ⟨F,rfl,hF⟩ ?_;rintro _ _ ⟨L,rfl,hL,iQ⟩;exact gV (rs:=[.l L,.i 0]) rfl ⟨L,0,rfl,by omega,by omega,fun m' F' b' e r hr=>by cases e;exact iQ F rfl r hr⟩;refine dd (fun e=>?_) (fun e0=>?_);have e:m=0:=e;subst e;exact uX IJ (by omega) (by omega) hF fun e out i c G h=>uW AS (K:=[0]) h rfl (by omega) (by decide) (by decide) (by decide) rfl (by omega) (by omega) (by decide) (by omega) (by omega) (by omega) (by decide);refine dd (fun e=>?_) (fun e1=>?_);have e:m=1:=e;subst e;exact uX IJ (by omega) (by omega) hF fun e out i c G h=>uW AS (K:=[0,1]) h rfl (by omega) (by decide) (by decide) (by decide) rfl (by omega) (by omega) (by decide) (by omega) (by omega) (by omega) (by decide);refine dd (fun e=>?_) (fun e2=>?_);have e:m=2:=e;subst e;exact uX IJ (by omega) (by omega) hF fun e out i c G h=>uW AS (K:=[0,1]) h rfl (by omega) (by decide) (by decide) (by decide) rfl (by omega) (by omega) (by decide) (by omega) (by omega) (by omega) (by decide);refine dd (fun e=>?_) (fun e3=>?_);have e:m=3:=e;subst e;exact uX IJ (by omega) (by omega) hF fun e out i c G h=>uW AS (K:=[0,1]) h rfl (by omega) (by decide) (by decide) (by decide) rfl (by omega) (by omega) (by decide) (by omega) (by omega) (by omega) (by decide);refine dd (fun e=>?_) (fun e4=>?_);have e:m=4:=e;subst e;exact uX IJ (by omega) (by omega) hF fun e out i c G h=>uW AS (K:=[0,1,2]) h rfl (by omega) (by decide) (by decide) (by decide) rfl (by omega) (by omega) (by decide) (by omega) (by omega) (by decide) (by omega);refine dd (fun e=>?_) (fun e5=>?_);have e:m=5:=e;subst e;refine uX IJ (by omega) (by omega) hF fun e out i c G h=>Hh (fun p hp=>?_) (rk (fun _=>?_) (fun _=>?_));simp only[lU]at hp;subst hp;have:e 10 = .l (eL [1,0,2]):=h.R5 10 (by omega);simp[BE.ae,IE.ae,this,dl,eL];exact uW AS (K:=[1,0,2]) h rfl (by omega) (by decide) (by decide) (by decide) rfl (by omega) (by omega) (by decide) (by omega) (by omega) (by decide) (by omega);exact uW AS (K:=[0,1,2]) h rfl (by omega) (by decide) (by decide) (by decide) rfl (by omega) (by omega) (by decide) (by omega) (by omega) (by decide) (by omega);refine dd (fun e=>?_) (fun e6=>?_);have e:m=6:=e;subst e;exact uX IJ (by omega) (by omega) hF fun e out i c G h=>Ye AS h;refine dd (fun e=>?_) (fun e7=>?_);have e:m=7:=e;subst e;exact uX IJ (by omega) (by omega) hF fun e out i c G h=>uW AS (K:=[0,1,2,3]) h rfl (by omega) (by decide) (by decide) (by decide) rfl (by omega) (by omega) (by decide) (by omega) (by omega) (by decide) (by omega);refine dd (fun e=>?_) (fun e8=>?_);have e:m=8:=e;subst e;exact uX IJ (by omega) (by omega) hF fun e out i c G h=>uW AS (K:=[0,1,3,2]) h rfl (by omega) (by decide) (by decide) (by decide) rfl (by omega) (by omega) (by decide) (by omega) (by omega) (by decide) (by omega);have e0:m≠0:=e0;have e1:m≠1:=e1;have e2:m≠2:=e2;have e3:m≠3:=e3;have e4:m≠4:=e4;have e5:m≠5:=e5;have e6:m≠6:=e6;have e7:m≠7:=e7;have e8:m≠8:=e8;have e9:m≠9:=e9;omega
end
variable {X:bD}
theorem g47:qn (TT Tryz.prog) X 47 zG zH:=vJ T47 fun ds hp=>o47 hp
theorem g44:qn (TT Tryz.prog) X 44 Ou Ov:=vJ T44 fun ds hp=>o44 g47 hp
theorem g46:qn (TT Tryz.prog) X 46 IP Fg:=vJ T46 fun ds hp=>o46 hp
theorem g30:qn (TT Tryz.prog) X 30 U3 IM:=vJ T30 fun ds hp=>o30 g44 g46 g47 hp
end
section
open Go.Sx Go
variable {X:bD}
end
section
open Go.Sx Go
variable {X:bD}
def UB:List (List Int):=[[0,255],[0,255],[0,255],[0,255]]
end
section
open Go.Sx Go
abbrev ByH(P:Program)(X:bD)(i k:Nat):Prop:=nO (TT P) X kc (ord.take i)->qn (TT P) X k (kc k).fQ (kc k).iA
theorem OM{k:Nat}(h:(kc k).pre.any (fun p=>p.beq (.c false))=true):∀ds,¬ (kc k).fQ ds:=fun ds hp=>by
 rw[kI]at h;obtain⟨p,h1,h2⟩:=h;have e:=hp.2 _ h1;cases p<;>simp[BE.beq]at h2;subst h2;simp[BE.ae]at e
variable {X:bD}
theorem ahC:ByH Tryz.prog X 19 47:=fun _ ds hp=>absurd hp (OM (by kernel_rfl) ds)
theorem ahD:ByH Tryz.prog X 20 44:=fun _ ds hp=>absurd hp (OM (by kernel_rfl) ds)
theorem ajw:kc 30=⟨[.i mn mx,.l 0 (some 256) [],.b],[],[.l 0 (some 256) [(1,256),(0,256),(0,255)],.i mn mx],[]⟩:=by kernel_rfl
theorem ahE:ByH Tryz.prog X 22 30:=fun _=>by
 rw[ajw];refine qn.weaken g30 (fun ds hp=>?_) (fun ds rs hp h=>?_);obtain⟨hp,_⟩:=hp
 match ds,hp with
 | [.i m,.l F,.b b],⟨_,⟨_,h2,_⟩,_⟩=>exact⟨m,F,b,rfl,by have:=h2 _ rfl;omega⟩
 obtain⟨hp,_⟩:=hp
 match ds,hp with
 | [.i m,.l F,.b b],⟨_,⟨_,h2,_⟩,_⟩=>
   have hF:=h2 _ rfl;obtain⟨L,e,rfl,hL,he,b6⟩:=h;refine⟨⟨⟨by omega,fun y hy=>?_,fun r hr=>?_⟩,⟨?_,?_⟩,trivial⟩,fun p hp=>by cases hp⟩;cases hy;omega;obtain⟨V,E,p,rfl,v1,v2,_,p1,p2,_,e1,e2,_⟩:=b6 m F b rfl r hr;have hE:(E.length:Int)<=256:=by
     rcases pf V.length 3 with h|h;rw[e1 h];decide;rw[e2 h];omega
   have hF':(F.length:Int)<=256:=hF;refine⟨⟨?_,?_⟩,⟨?_,?_⟩,⟨?_,?_⟩,trivial⟩<;>simp only[zJ,List.getD_cons_zero,List.getD_cons_succ]<;>omega;show mn<=e;unfold mn;omega;show e<=mx;unfold mx;omega
end
section
open Go.Sx Go
theorem acU:kc 241=⟨[.i 0 18446744073709551615,.i 0 18446744073709551615,.i 0 18446744073709551615],[.lt (.v 0) (.v 2)],[.i 0 18446744073709551615,.i 0 18446744073709551615],[]⟩:=by kernel_rfl
theorem acq{X:bD}(hX:X 283=vU):ByH Tryz.prog X 48 241:=fun _=>by
 rw[acU];intro ds hp;obtain⟨ha,hq⟩:=hp
 match ds,ha,hq with
 | [.i hi,.i lo,.i y],⟨⟨a0,a1⟩,⟨b0,b1⟩,⟨c0,c1⟩,_⟩,hq=>
   have cF:hi<y:=qt (hq _ (aM ..));obtain⟨rs,g,h⟩:=ahq hX [.i hi,.i lo,.i y] ⟨hi,lo,y,rfl,a0,cF,by omega,b0,by omega⟩;have h:=h hi lo y rfl;refine⟨rs,g,?_⟩;rw[show rs=_ from h];have n0:0<=hi*18446744073709551616+lo:=by omega
   have q0:=vy n0 (show 0<=y by omega);have q1:(hi*18446744073709551616+lo)/y<18446744073709551616:=D' (by omega) (by omega);have r0:=FC (hi*18446744073709551616+lo) (show y≠0 by omega);have r1:=D9 (hi*18446744073709551616+lo) (show 0<y by omega);exact⟨⟨⟨q0,by omega⟩,⟨r0,by omega⟩,trivial⟩,fun p hp=>by cases hp⟩
end
end Go.Proofs.YtohebioanhliiaaGreatDoor.aw

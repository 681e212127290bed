/- Emit: what it gives. -/
import Derived.Test.YtohebioanhliiaaGreatDoorJE1
import Derived.Test.YtohebioanhliiaaGreatDoorJC2
set_option maxRecDepth 100000
set_option linter.unusedVariables false
set_option linter.unusedSimpArgs false
namespace Go.Proofs.YtohebioanhliiaaGreatDoor.aF
section
open Go.Sx
theorem dj{k:IntKind}{ks:List CT}{rs:List DV}(h:kinds (.c (.i k)::ks) rs=true):∃x eo,rs = .i x::eo/\kinds ks eo=true:=by
 match rs,h with
 |.i x::rs,h=>exact⟨x,rs,rfl,(Bool.and_eq_true_iff.1 h).2⟩
theorem adn{ks:List CT}{rs:List DV}(h:kinds (.c .b::ks) rs=true):∃x eo,rs = .b x::eo/\kinds ks eo=true:=by
 match rs,h with
 |.b x::rs,h=>exact⟨x,rs,rfl,(Bool.and_eq_true_iff.1 h).2⟩
theorem Iy{e:TypeId}{cs:List CK}{ks:List CT}{rs:List DV}(h:kinds (.s e cs::ks) rs=true):∃x eo,rs = .l x::eo/\kinds ks eo=true:=by
 match rs,h with
 |.l x::rs,h=>exact⟨x,rs,rfl,(Bool.and_eq_true_iff.1 h).2⟩
theorem ajm{e:TypeId}{cs:List NK}{ks:List CT}{rs:List DV}(h:kinds (.n e cs::ks) rs=true):∃x eo,rs = .l x::eo/\kinds ks eo=true:=by
 match rs,h with
 |.l x::rs,h=>exact⟨x,rs,rfl,(Bool.and_eq_true_iff.1 h).2⟩
theorem iT{rs:List DV}(h:kinds [] rs=true):rs=[]:=by
 match rs,h with
 | [],_=>rfl
def xJ(E:Nat->List DV->List DV->Prop):Prop:=∀k s ds rs,kI k=some s->E k ds rs->kinds (bI s.res) rs=true
theorem ajn{ws:List (List Int)}{k:Nat}{row:List Int}(h:∀r∈ws,r.length=7)(hr:row.length=7):∀r∈ws.modify k (fun _=>row),r.length=7:=by
 intro r hm;obtain⟨i,hi⟩:=List.mem_iff_getElem?.1 hm;rw[List.getElem?_modify]at hi;cases hw:ws[i]? with
 |none=>rw[hw]at hi;cases hi
 | some x=>
   rw[hw]at hi;have hx:=h x (List.mem_iff_getElem?.2 ⟨i,hw⟩);have hi:some (if k=i then row else x)=some r:=hi;injection hi with hi;by_cases e:k=i;rw[if_pos e]at hi;rw[<- hi];exact hr;rw[if_neg e]at hi;rw[<- hi];exact hx
def cells(n:Nat)(r:List Int):List DV:=(List.range n).map fun j=>.i (r.getD j 0)
structure l7 where
 E:Nat->List DV->List DV->Prop
 a:az
 bx:List DV
 dO:List (List Int)
def l7.port(D:l7):List DV:=[.i (D.a 10).int,.i (D.a 11).int,.i (D.a 12).int,.i (D.a 13).int]
def l7.look(D:l7):List DV:=[.i (D.a 62).int,.b (D.a 63).bool,.b (D.a 64).bool,.i (D.a 65).int,.i (D.a 66).int,.i (D.a 67).int,.i (D.a 68).int,.i (D.a 69).int,.i (D.a 70).int,.i (D.a 71).int,.b (D.a 72).bool,.i (D.a 73).int,.b (D.a 74).bool,.i (D.a 75).int,.i (D.a 76).int]
def l7.dash(D:l7):List DV:=[.i (D.a 65).int,.i (D.a 66).int,.i (D.a 67).int]
def l7.place(D:l7)(v:List Int)(p:List DV)(e:Int):Prop:=p.length=7/\D.E 108 (cells 8 v++D.port) (p++[.i e])
inductive Step (D:l7) (vs es:List (List Int)) (d:List DV) (out:List (List Int)) (w:Bool):List DV->List (List Int)->Bool->Prop
 |hidden {v s:List Int} {x:Int}:vs=[v]->s∈D.dO->D.E 67 (cells 5 s++cells 8 v) [.i x]->x<0->Step D vs es d out w d out w
 |oN {v:List Int} {p:List DV} {e:Int}:vs=[v]->(∀s∈D.dO,∃x,D.E 67 (cells 5 s++cells 8 v) [.i x]/\0<=x)->D.place v p e->e≠0->Step D vs es d out w d out false
 |point {v:List Int} {p:List DV} {fr:List (List Int)}:vs=[v]->(∀s∈D.dO,∃x,D.E 67 (cells 5 s++cells 8 v) [.i x]/\0<=x)->D.place v p 0->D.E 69 (p++[.i (D.a 68).int,.i (D.a 69).int]++D.bx) [.l fr]->Step D vs es d out w d (out++fr) w
 |lineNo {u v:List Int} {t:List DV}:vs=[u,v]->t.length=16->D.E 71 (cells 8 u++cells 8 v++[.l D.dO]) (t++[.b false])->Step D vs es d out w d out w
 |nu {u v u' v':List Int} {p q:List DV} {e f:Int}:vs=[u,v]->D.E 71 (cells 8 u++cells 8 v++[.l D.dO]) (cells 8 u'++cells 8 v'++[.b true])->D.place u' p e->D.place v' q f->(e≠0\/f≠0)->Step D vs es d out w d out false
 |line {u v u' v':List Int} {p q d':List DV} {fr:List (List Int)}:vs=[u,v]->D.E 71 (cells 8 u++cells 8 v++[.l D.dO]) (cells 8 u'++cells 8 v'++[.b true])->D.place u' p 0->D.place v' q 0->d'.length=3->D.E 72 (p++q++D.look++d++D.bx) (.l fr::d')->Step D vs es d out w d' (out++fr) w
 |th {on:List (List Int)} {e:Int}:vs.length≠1->vs.length≠2->D.E 73 [.l vs,.l es,.l D.dO] [.l [],.l on,.i e]->Step D vs es d out w d out w
 |oO {us on:List (List Int)} {e f:Int} {k:Nat} {p:List DV}:vs.length≠1->vs.length≠2->us≠[]->D.E 73 [.l vs,.l es,.l D.dO] [.l us,.l on,.i e]->k<us.length->D.place (us.getD k []) p f->f≠0->Step D vs es d out w d out false
 |Gy {us on ws fr:List (List Int)} {e:Int}:vs.length≠1->vs.length≠2->us≠[]->D.E 73 [.l vs,.l es,.l D.dO] [.l us,.l on,.i e]->ws.length=us.length->(∀r∈ws,r.length=7)->(∀k,k<us.length->D.place (us.getD k []) (cells 7 (ws.getD k [])) 0)->D.E 74 ([.l ws,.l on]++D.look++D.bx) [.l fr]->Step D vs es d out w d (out++fr) w
def nw(V:List (List Int))(flat:Bool)(p n:Int):List Int:=
 let v:=V.getD n.toNat []
 let c:=if flat then V.getD p.toNat []else v
 [v.getD 0 0,v.getD 1 0,v.getD 2 0,v.getD 3 0,c.getD 4 0,c.getD 5 0,c.getD 6 0,c.getD 7 0]
def Nk:List NK:=[.s 3 i6,.s 4 .b,.c i6]
def l7.l9(D:l7)(r:List Int):List (List Int):=(ew Nk r 0).map (nw (D.a 60).list (D.a 77).bool (r.getD 2 0))
def flagsOf(r:List Int):List (List Int):=eK (ew Nk r 1)
def l7.runs(D:l7)(L:List (List Int)):Nat->List DV->List (List Int)->Bool->Prop
 |0,d,out,w=>d=D.dash/\out=[]/\w=true
 |k+1,d,out,w=>∃d1 ado w1,D.runs L k d1 ado w1/\Step D (D.l9 (L.getD k [])) (flagsOf (L.getD k [])) (if(D.a 59).int=1 then D.dash else d1) ado w1 d out w
def vm:List DE:=[.i (.v 0),.i (.v 1),.i (.v 2),.l 3,.l 4]++iv 5 10++[.l 15,.l 16]++iv 17 30++[.b (.v 47),.b (.v 48),.b (.v 49),.b (.v 50),.b (.v 51),.b (.v 52)]++iv 53 4++[.b (.v 57),.b (.v 58),.i (.v 59),.l 60,.l 61,.i (.v 62),.b (.v 63),.b (.v 64)]++iv 65 7++[.b (.v 72),.i (.v 73),.b (.v 74),.i (.v 75),.i (.v 76),.b (.v 77),.b (.v 78),.b (.v 79)]++iv 80 4++[.b (.v 84),.i (.v 85),.b (.v 86),.b (.v 87),.i (.v 88),.i (.v 89),.b (.v 90),.b (.v 91),.b (.v 92),.b (.v 93)]
def Gz(E:Nat->List DV->List DV->Prop)(ds rs:List DV):Prop:=∃(bx:List DV) (dO L:List (List Int)) (e:Int) (d:List DV) (out:List (List Int)) (w:Bool),
 bx.length=4/\E 28 (vm.map (DE.af (aR.av 0 ds))) bx/\E 29 (vm.map (DE.af (aR.av 0 ds))) [.l dO]/\
 E 30 [.i (aR.av 0 ds 59).int,.l (aR.av 0 ds 61).list,.b (aR.av 0 ds 78).bool] [.l L,.i e]/\l7.runs ⟨E,aR.av 0 ds,bx,dO⟩ L L.length d out w/\rs=[.l out,.b w]
def TE(j:Nat)(ds:List DV):Prop:=j=73->∃V Fl S,ds=[.l V,.l Fl,.l S]/\Fl.length<=256/\∀r∈Fl,0<=r.getD 0 0/\r.getD 0 0<=1
structure ti(D:l7)(vs es:List (List Int))(x y z:Int)(out:List (List Int))(w:Bool)(i:Int)(dn:Nat)(e:az):Prop where
 jO:∀k,k<1119->e k=D.a k
 bx:∃b0 b1 b2 b3,D.bx=[.i b0,.i b1,.i b2,.i b3]/\e 1119 = .i b0/\e 1120 = .i b1/\e 1121 = .i b2/\e 1122 = .i b3
 dO:e 2143 = .l D.dO
 i:e 5218 = .i i
 x:(e dn).int=x
 y:(e (dn+1)).int=y
 z:(e (dn+2)).int=z
 out:e 5222 = .l out
 w:e 5223 = .b w
 es:e 5225 = .l es
 vs:e 5743 = .l vs
theorem ti.move{D:l7}{vs es:List (List Int)}{x y z:Int}{out:List (List Int)}{w:Bool}{i:Int}{dn:Nat}{e e':az}(h:ti D vs es x y z out w i dn e)(hd:dn+2<5744)(hm:∀k,k<5744->e' k=e k):ti D vs es x y z out w i dn e':=by
 obtain⟨b0,b1,b2,b3,h0,h1,h2,h3,h4⟩:=h.bx;exact⟨fun k hk=>by rw[hm k (by omega),h.jO k hk],⟨b0,b1,b2,b3,h0,by rw[hm _ (by omega),h1],by rw[hm _ (by omega),h2],by rw[hm _ (by omega),h3],by rw[hm _ (by omega),h4]⟩,
   by rw[hm _ (by omega),h.dO],by rw[hm _ (by omega),h.i],by rw[hm _ (by omega),h.x],by rw[hm _ (by omega),h.y],by rw[hm _ (by omega),h.z],by rw[hm _ (by omega),h.out],by rw[hm _ (by omega),h.w],by rw[hm _ (by omega),h.es],by rw[hm _ (by omega),h.vs]⟩
theorem dw{e:az}{k j:Nat}{d:DV}(h:j<k):(e.set k d) j=e j:=by simp only[az.set];rw[if_neg (by omega)]
theorem PR{l:List (List Int)}(h:l.length=1):l=[l.getD 0 []]:=by
 match l,h with
 | [x],_=>rfl
theorem PS{l:List (List Int)}(h:l.length=2):l=[l.getD 0 [],l.getD 1 []]:=by
 match l,h with
 | [x,y],_=>rfl
variable {D:l7}{vs es:List (List Int)}{x y z:Int}{out:List (List Int)}{w:Bool}{i:Int}{dn:Nat}{e:az}{R:List DV->Prop}{F:Nat->List DV->Prop}{G:List DV->Prop}{p:Int->Prop}
theorem ajo:kI 67=some Vg:=by kernel_rfl
theorem J8:kI 108=some J9:=by kernel_rfl
theorem ajp:kI 69=some Vh:=by kernel_rfl
theorem ajq:kI 71=some Vi:=by kernel_rfl
theorem ajr:kI 72=some Vj:=by kernel_rfl
theorem ajs:kI 73=some Vk:=by kernel_rfl
theorem ajt:kI 74=some Vl:=by kernel_rfl
theorem aju:kI 28=some Vm:=by kernel_rfl
theorem ajv:kI 29=some Vn:=by kernel_rfl
theorem ajw:kI 30=some Vo:=by kernel_rfl
theorem wC{Ps:List (Int->Prop)}{F':Nat->List DV->Prop}(h:ti D vs es x y z out w i dn e){on:Nat}{o:List (List Int)}(ho:e on = .l o)(hF:∀vs,G vs->F' 18004 vs)(hG:G [.i (i+1),.i x,.i y,.i z,.l o,.b w]) :
   (au.ev (.aG (r6 (.add (.v 5218) (.c 1)))) (.again 18004 [.i (.add (.v 5218) (.c 1)),.i (.v dn),.i (.v (dn+1)),.i (.v (dn+2)),.l on,.b (.v 5223)])).mv (Sw 18) TE D.E R Ps e F':=by
 refine fc rfl fun _=>?_;refine hF _ ?_;simp only[List.map,DE.af,IE.af,BE.af,h.i,h.x,h.y,h.z,ho,h.w,di,dl,db];exact hG
theorem AZ{l:List (List Int)}{k c:Nat}:cellAt l (k:Int) c=(l.getD k []).getD c 0:=by unfold cellAt;rw[qm]
theorem xK{l:List (List Int)}{c:Nat}:cellAt l 0 c=(l.getD 0 []).getD c 0:=rfl
theorem PT{l:List (List Int)}{c:Nat}:cellAt l 1 c=(l.getD 1 []).getD c 0:=rfl
theorem GA{l:List (List Int)}{s:List Int}(h:s∈l):∃k,k<l.length/\l.getD k []=s:=by
 obtain⟨k,hk,rfl⟩:=List.getElem_of_mem h;exact⟨k,hk,by simp[List.getD,hk]⟩
theorem Da{l:List (List Int)}{k:Nat}(h:k<l.length):l.getD k []∈l:=by simp[List.getD,h]
theorem rI{j:Nat}{ds:List DV}(h:Nat.beq j 73=false):TE j ds:=fun e=>by subst e;simp at h
theorem ZS(yz:xJ D.E)(h:ti D vs es x y z out w i dn e)(hd:dn+2<5744)(hl:vs.length=1){F':Nat->List DV->Prop}(hF:∀vs,G vs->F' 18004 vs)
   (hp:Step D vs es [.i x,.i y,.i z] out w [.i x,.i y,.i z] out false->p 9) (hG:∀x' y' z' uh w',Step D vs es [.i x,.i y,.i z] out w [.i x',.i y',.i z'] uh w'->G [.i (i+1),.i x',.i y',.i z',.l uh,.b w']) :
   (ZP dn).mv (Sw 18) TE D.E R [p] e F':=by
 have hv:=PR hl;unfold ZP;refine fc rfl fun _=>?_;refine EA (fun ds=>∃j:Nat,ds=[.i j]/\j<=D.dO.length/\∀k,k<j->∃x,D.E 67 (cells 5 (D.dO.getD k [])++cells 8 (vs.getD 0 [])) [.i x]/\0<=x) ⟨0,rfl,by omega,fun k hk=>by omega⟩ ?_;rintro _ ⟨j,rfl,hj,hsh⟩;have h1:ti D vs es x y z out w i dn (e.av 5745 [.i j]):=h.move hd fun k hk=>az.bd (by omega);have Xr:∀us,G us->lN F' 49002 (fun ds=>∃j:Nat,ds=[.i j]/\j<=D.dO.length/\∀k,k<j->∃x,D.E 67 (cells 5 (D.dO.getD k [])++cells 8 (vs.getD 0 [])) [.i x]/\0<=x) 18004 us:=fun us hg=>by simpa[lN]using hF us hg
 obtain⟨e1,lH⟩:∃e1:az,e1=e.av 5745 [.i j]:=⟨_,rfl⟩;have J':e1 5745 = .i j:=by rw[lH];rfl
 rw[<- lH]at h1 ⊢;refine wv (fun cJ=>?_) (fun mF=>?_);simp only[IE.af,J',h1.dO,di,dl]at cJ;refine fc rfl fun _=>s_call (rI rfl) fun rs hE=>?_;obtain⟨u,rs,rfl,k0⟩:=dj (yz 67 _ _ _ ajo hE);obtain rfl:=iT k0;have PU:D.E 67 (cells 5 (D.dO.getD j [])++cells 8 (vs.getD 0 [])) [.i u]:=by
   have:=hE;simp only[List.map,DE.af,IE.af,J',h1.dO,h1.vs,di,dl,AZ,xK]at this;exact this
 refine wv (fun hu=>?_) (fun hu=>?_);refine C4 (wC (h1.move hd fun k hk=>az.bd (by omega)) (by rw[az.bd (by omega)];exact h1.out) Xr (hG _ _ _ _ _ (.hidden hv (Da (by omega)) PU ?_)));exact hu;refine fc rfl fun _=>zp ⟨j+1,?_,by omega,fun k hk=>?_⟩;simp only[List.map,DE.af,IE.af,az.bd (show 5745<5747 by omega),J',di];rfl;rcases mS k j with X3|X3;exact hsh k X3;obtain rfl:k=j:=by omega
 exact⟨u,PU,hu⟩;simp only[IE.af,J',h1.dO,di,dl]at mF;have ch:∀s∈D.dO,∃x,D.E 67 (cells 5 s++cells 8 (vs.getD 0 [])) [.i x]/\0<=x:=fun s hs=>by
   obtain⟨k,hk,rfl⟩:=GA hs;exact hsh k (by omega)
 refine s_call (rI rfl) fun rs hE=>?_;obtain⟨x0,r0,rfl,k0⟩:=dj (yz 108 _ _ _ J8 hE);obtain⟨x1,r1,rfl,k1⟩:=dj (k0);obtain⟨x2,r2,rfl,k2⟩:=dj (k1);obtain⟨x3,r3,rfl,k3⟩:=dj (k2);obtain⟨x4,r4,rfl,k4⟩:=dj (k3);obtain⟨x5,r5,rfl,k5⟩:=dj (k4);obtain⟨x6,r6,rfl,k6⟩:=dj (k5);obtain⟨x7,r7,rfl,k7⟩:=dj (k6);obtain rfl:=iT k7;have Hg:D.place (vs.getD 0 []) [.i x0,.i x1,.i x2,.i x3,.i x4,.i x5,.i x6] x7:=⟨rfl,by
   have:=hE;simp only[List.map,DE.af,IE.af,h1.vs,h1.jO 10 (by omega),h1.jO 11 (by omega),h1.jO 12 (by omega),h1.jO 13 (by omega),dl,xK]at this;exact this⟩
 obtain⟨b0,b1,b2,b3,hb,g0,g1,g2,g3⟩:=h1.bx;have h2:ti D vs es x y z out w i dn (e1.av 7380 [.i x0,.i x1,.i x2,.i x3,.i x4,.i x5,.i x6,.i x7]):=h1.move hd fun k hk=>az.bd (by omega);obtain⟨e2,pz⟩:∃e2:az,e2=e1.av 7380 [.i x0,.i x1,.i x2,.i x3,.i x4,.i x5,.i x6,.i x7]:=⟨_,rfl⟩;have q:e2 7380 = .i x0/\e2 7381 = .i x1/\e2 7382 = .i x2/\e2 7383 = .i x3/\e2 7384 = .i x4/\e2 7385 = .i x5/\e2 7386 = .i x6/\e2 7387 = .i x7:=by rw[pz];exact⟨rfl,rfl,rfl,rfl,rfl,rfl,rfl,rfl⟩
 obtain⟨q0,q1,q2,q3,q4,q5,q6,q7⟩:=q;rw[<- pz]at h2 ⊢;refine s_call (rI rfl) fun rs hE=>?_;obtain⟨fr,rs,rfl,k0⟩:=Iy (yz 69 _ _ _ ajp hE);obtain rfl:=iT k0;obtain⟨c0,c1,c2,c3,nB,g0',g1',g2',g3'⟩:=h2.bx;have PU:D.E 69 ([.i x0,.i x1,.i x2,.i x3,.i x4,.i x5,.i x6]++[.i (D.a 68).int,.i (D.a 69).int]++D.bx) [.l fr]:=by
   rw[nB];have:=hE;simp only[List.map,ml,iv,DE.af,IE.af,q0,q1,q2,q3,q4,q5,q6,g0',g1',g2',g3',h2.jO 68 (by omega),h2.jO 69 (by omega),di]at this;exact this
 have h3:ti D vs es x y z out w i dn (e2.av 15986 [.l fr]):=h2.move hd fun k hk=>az.bd (by omega);have q7':(e2.av 15986 [.l fr]) 7387 = .i x7:=by rw[az.bd (by omega)];exact q7
 have qf:(e2.av 15986 [.l fr]) 15986 = .l fr:=rfl;obtain⟨e3,yG⟩:∃e3:az,e3=e2.av 15986 [.l fr]:=⟨_,rfl⟩;rw[<- yG]at h3 q7' qf ⊢;refine oM (fun h0=>?_) (fun h0=>?_);simp only[IE.af,q7',di]at h0;subst h0;refine fc rfl fun _=>po (M:=out++fr) (by simp only[cU.af,h3.out,qf,dl]) (C4 (wC (h3.move hd fun k hk=>dw (by omega)) (by simp[az.set]) Xr (hG _ _ _ _ _ (.point hv ch Hg PU))));simp only[IE.af,q7',di]at h0;exact EB (hp (.oN hv ch Hg h0))
theorem ZT(yz:xJ D.E)(h:ti D vs es x y z out w i dn e)(hd:dn+2<5744)(hl:vs.length=2){F':Nat->List DV->Prop}(hF:∀vs,G vs->F' 18004 vs)
   (hp:Step D vs es [.i x,.i y,.i z] out w [.i x,.i y,.i z] out false->p 9) (hG:∀x' y' z' uh w',Step D vs es [.i x,.i y,.i z] out w [.i x',.i y',.i z'] uh w'->G [.i (i+1),.i x',.i y',.i z',.l uh,.b w']) :
   (ZQ dn).mv (Sw 18) TE D.E R [p] e F':=by
 have hv:=PS hl;unfold ZQ;refine fc rfl fun _=>fc rfl fun _=>s_call (rI rfl) fun rs hE=>?_;obtain⟨u0,r0,rfl,k0⟩:=dj (yz 71 _ _ _ ajq hE);obtain⟨u1,r1,rfl,k1⟩:=dj (k0);obtain⟨u2,r2,rfl,k2⟩:=dj (k1);obtain⟨u3,r3,rfl,k3⟩:=dj (k2);obtain⟨u4,r4,rfl,k4⟩:=dj (k3);obtain⟨u5,r5,rfl,k5⟩:=dj (k4);obtain⟨u6,r6,rfl,k6⟩:=dj (k5);obtain⟨u7,r7,rfl,k7⟩:=dj (k6);obtain⟨v0,r8,rfl,k8⟩:=dj (k7);obtain⟨v1,r9,rfl,k9⟩:=dj (k8);obtain⟨v2,Y',rfl,k10⟩:=dj (k9);obtain⟨v3,Za,rfl,k11⟩:=dj (k10);obtain⟨v4,r12,rfl,k12⟩:=dj (k11);obtain⟨v5,r13,rfl,k13⟩:=dj (k12);obtain⟨v6,r14,rfl,k14⟩:=dj (k13);obtain⟨v7,r15,rfl,k15⟩:=dj (k14);obtain⟨ok,r16,rfl,k16⟩:=adn (k15);obtain rfl:=iT k16;have hE1:D.E 71 (cells 8 (vs.getD 0 [])++cells 8 (vs.getD 1 [])++[.l D.dO]) ([.i u0,.i u1,.i u2,.i u3,.i u4,.i u5,.i u6,.i u7,.i v0,.i v1,.i v2,.i v3,.i v4,.i v5,.i v6,.i v7]++[.b ok]):=by
   have:=hE;simp only[List.map,DE.af,IE.af,h.dO,h.vs,dl,xK,PT]at this;exact this
 have h1:ti D vs es x y z out w i dn (e.av 8818 [.i u0,.i u1,.i u2,.i u3,.i u4,.i u5,.i u6,.i u7,.i v0,.i v1,.i v2,.i v3,.i v4,.i v5,.i v6,.i v7,.b ok]):=h.move hd fun k hk=>az.bd (by omega);obtain⟨e1,lH⟩:∃e1:az,e1=e.av 8818 [.i u0,.i u1,.i u2,.i u3,.i u4,.i u5,.i u6,.i u7,.i v0,.i v1,.i v2,.i v3,.i v4,.i v5,.i v6,.i v7,.b ok]:=⟨_,rfl⟩;have q:e1 8818 = .i u0/\e1 8819 = .i u1/\e1 8820 = .i u2/\e1 8821 = .i u3/\e1 8822 = .i u4/\e1 8823 = .i u5/\e1 8824 = .i u6/\e1 8825 = .i u7/\e1 8826 = .i v0/\e1 8827 = .i v1/\e1 8828 = .i v2/\e1 8829 = .i v3/\e1 8830 = .i v4/\e1 8831 = .i v5/\e1 8832 = .i v6/\e1 8833 = .i v7/\e1 8834 = .b ok:=by rw[lH];exact⟨rfl,rfl,rfl,rfl,rfl,rfl,rfl,rfl,rfl,rfl,rfl,rfl,rfl,rfl,rfl,rfl,rfl⟩
 obtain⟨q0,q1,q2,q3,q4,q5,q6,q7,q8,q9,q10,q11,q12,q13,q14,q15,q16⟩:=q;rw[<- lH]at h1 ⊢;refine Gr (fun gD=>?_) (fun gD=>?_);simp only[BE.af,q16,db]at gD;subst gD;exact C4 (wC h1 h1.out hF (hG _ _ _ _ _ (.lineNo hv rfl hE1)));simp only[BE.af,q16,db]at gD;subst gD;have ZU:D.E 71 (cells 8 (vs.getD 0 [])++cells 8 (vs.getD 1 [])++[.l D.dO]) (cells 8 [u0,u1,u2,u3,u4,u5,u6,u7]++cells 8 [v0,v1,v2,v3,v4,v5,v6,v7]++[.b true]):=hE1;refine s_call (rI rfl) fun rs hEp=>?_;obtain⟨p0,r0,rfl,k0⟩:=dj (yz 108 _ _ _ J8 hEp);obtain⟨p1,r1,rfl,k1⟩:=dj (k0);obtain⟨p2,r2,rfl,k2⟩:=dj (k1);obtain⟨p3,r3,rfl,k3⟩:=dj (k2);obtain⟨p4,r4,rfl,k4⟩:=dj (k3);obtain⟨p5,r5,rfl,k5⟩:=dj (k4);obtain⟨p6,r6,rfl,k6⟩:=dj (k5);obtain⟨p7,r7,rfl,k7⟩:=dj (k6);obtain rfl:=iT k7;have Hg:D.place [u0,u1,u2,u3,u4,u5,u6,u7] [.i p0,.i p1,.i p2,.i p3,.i p4,.i p5,.i p6] p7:=⟨rfl,by
   have:=hEp;simp only[List.map,ml,iv,DE.af,IE.af,q0,q1,q2,q3,q4,q5,q6,q7,di,h1.jO 10 (by omega),h1.jO 11 (by omega),h1.jO 12 (by omega),h1.jO 13 (by omega)]at this;exact this⟩
 have h2:ti D vs es x y z out w i dn (e1.av 13013 [.i p0,.i p1,.i p2,.i p3,.i p4,.i p5,.i p6,.i p7]):=h1.move hd fun k hk=>az.bd (by omega);obtain⟨e2,pz⟩:∃e2:az,e2=e1.av 13013 [.i p0,.i p1,.i p2,.i p3,.i p4,.i p5,.i p6,.i p7]:=⟨_,rfl⟩;have o2:∀k,k<13013->e2 k=e1 k:=fun k hk=>by rw[pz];exact az.bd hk
 have s2:e2 13013 = .i p0/\e2 13014 = .i p1/\e2 13015 = .i p2/\e2 13016 = .i p3/\e2 13017 = .i p4/\e2 13018 = .i p5/\e2 13019 = .i p6/\e2 13020 = .i p7:=by rw[pz];exact⟨rfl,rfl,rfl,rfl,rfl,rfl,rfl,rfl⟩
 rw[<- pz]at h2 ⊢;refine s_call (rI rfl) fun rs hEq=>?_;obtain⟨t0,r0,rfl,k0⟩:=dj (yz 108 _ _ _ J8 hEq);obtain⟨t1,r1,rfl,k1⟩:=dj (k0);obtain⟨t2,r2,rfl,k2⟩:=dj (k1);obtain⟨t3,r3,rfl,k3⟩:=dj (k2);obtain⟨t4,r4,rfl,k4⟩:=dj (k3);obtain⟨t5,r5,rfl,k5⟩:=dj (k4);obtain⟨t6,r6,rfl,k6⟩:=dj (k5);obtain⟨t7,r7,rfl,k7⟩:=dj (k6);obtain rfl:=iT k7;have Hf:D.place [v0,v1,v2,v3,v4,v5,v6,v7] [.i t0,.i t1,.i t2,.i t3,.i t4,.i t5,.i t6] t7:=⟨rfl,by
   have:=hEq;simp only[List.map,ml,iv,DE.af,IE.af,o2 8826 (by omega),o2 8827 (by omega),o2 8828 (by omega),o2 8829 (by omega),o2 8830 (by omega),o2 8831 (by omega),o2 8832 (by omega),o2 8833 (by omega),q8,q9,q10,q11,q12,q13,q14,q15,di,h2.jO 10 (by omega),h2.jO 11 (by omega),h2.jO 12 (by omega),h2.jO 13 (by omega)]at this;exact this⟩
 have h3:ti D vs es x y z out w i dn (e2.av 14549 [.i t0,.i t1,.i t2,.i t3,.i t4,.i t5,.i t6,.i t7]):=h2.move hd fun k hk=>az.bd (by omega);obtain⟨e3,yG⟩:∃e3:az,e3=e2.av 14549 [.i t0,.i t1,.i t2,.i t3,.i t4,.i t5,.i t6,.i t7]:=⟨_,rfl⟩;have o3:∀k,k<14549->e3 k=e2 k:=fun k hk=>by rw[yG];exact az.bd hk
 have s3:e3 14549 = .i t0/\e3 14550 = .i t1/\e3 14551 = .i t2/\e3 14552 = .i t3/\e3 14553 = .i t4/\e3 14554 = .i t5/\e3 14555 = .i t6/\e3 14556 = .i t7:=by rw[yG];exact⟨rfl,rfl,rfl,rfl,rfl,rfl,rfl,rfl⟩
 rw[<- yG]at h3 ⊢;obtain⟨a0,a1,a2,a3,a4,a5,a6,a7⟩:=s2;obtain⟨b0,b1,b2,b3,b4,b5,b6,b7⟩:=s3;refine oM (fun hz=>?_) (fun hz=>?_);simp only[IE.af,b7,di]at hz;subst hz;refine oM (fun hz=>?_) (fun hz=>?_);simp only[IE.af,o3 13020 (by omega),a7,di]at hz;subst hz;refine s_call (rI rfl) fun rs hEl=>?_;obtain⟨fr,r0,rfl,k0⟩:=Iy (yz 72 _ _ _ ajr hEl);obtain⟨d0,r1,rfl,k1⟩:=dj (k0);obtain⟨d1,r2,rfl,k2⟩:=dj (k1);obtain⟨d2,r3,rfl,k3⟩:=dj (k2);obtain rfl:=iT k3;obtain⟨c0,c1,c2,c3,hb,g0,g1,g2,g3⟩:=h3.bx;have ajx:D.E 72 ([.i p0,.i p1,.i p2,.i p3,.i p4,.i p5,.i p6]++[.i t0,.i t1,.i t2,.i t3,.i t4,.i t5,.i t6]++D.look++[.i x,.i y,.i z]++D.bx) (.l fr::[.i d0,.i d1,.i d2]):=by
   rw[hb];have:=hEl;simp only[List.map,ml,iv,DE.af,IE.af,BE.af,o3 13013 (by omega),o3 13014 (by omega),o3 13015 (by omega),o3 13016 (by omega),o3 13017 (by omega),o3 13018 (by omega),o3 13019 (by omega),a0,a1,a2,a3,a4,a5,a6,b0,b1,b2,b3,b4,b5,b6,g0,g1,g2,g3,h3.x,h3.y,h3.z,di,h3.jO 62 (by omega),h3.jO 63 (by omega),h3.jO 64 (by omega),h3.jO 65 (by omega),h3.jO 66 (by omega),h3.jO 67 (by omega),h3.jO 68 (by omega),h3.jO 69 (by omega),h3.jO 70 (by omega),h3.jO 71 (by omega),h3.jO 72 (by omega),h3.jO 73 (by omega),h3.jO 74 (by omega),h3.jO 75 (by omega),h3.jO 76 (by omega)]at this;exact this
 have dV:=hG d0 d1 d2 (out++fr) w (.line hv ZU Hg Hf rfl ajx);refine fc rfl fun _=>po (M:=out++fr) (by simp only[cU.af,az.bd (show 5222<23156 by omega),h3.out,dl];rfl) (C4 (fc rfl fun _=>hF _ ?_));have hi:((e3.av 23156 [.l fr,.i d0,.i d1,.i d2]).set 25205 (.l (out++fr))) 5218 = .i i:=by rw[dw (by omega),az.bd (by omega)];exact h3.i
 have hw:((e3.av 23156 [.l fr,.i d0,.i d1,.i d2]).set 25205 (.l (out++fr))) 5223 = .b w:=by rw[dw (by omega),az.bd (by omega)];exact h3.w
 simp only[List.map,DE.af,IE.af,BE.af,hi,hw,di,db];exact dV;simp only[IE.af,o3 13020 (by omega),a7,di]at hz;exact EB (hp (.nu hv ZU Hg Hf (.inl hz)));simp only[IE.af,b7,di]at hz;exact EB (hp (.nu hv ZU Hg Hf (.inr hz)))
end
section
open Go.Sx
variable {D:l7}{vs es:List (List Int)}{x y z:Int}{out:List (List Int)}{w:Bool}{i:Int}{dn:Nat}{e:az}{R:List DV->Prop}{F:Nat->List DV->Prop}{G:List DV->Prop}{p:Int->Prop}
theorem ZV(yz:xJ D.E)(h:ti D vs es x y z out w i dn e)(hd:dn+2<5744)(Ct:vs.length≠1)(zH:vs.length≠2)(ajy:es.length<=256)(Fb:∀r∈es,0<=r.getD 0 0/\r.getD 0 0<=1){F':Nat->List DV->Prop}(hF:∀vs,G vs->F' 18004 vs)
   (hp:Step D vs es [.i x,.i y,.i z] out w [.i x,.i y,.i z] out false->p 9) (hG:∀x' y' z' uh w',Step D vs es [.i x,.i y,.i z] out w [.i x',.i y',.i z'] uh w'->G [.i (i+1),.i x',.i y',.i z',.l uh,.b w']) :
   (ZR dn).mv (Sw 18) TE D.E R [p] e F':=by
 unfold ZR;refine s_call ?_ fun rs hE=>?_;intro _;refine⟨vs,es,D.dO,?_,ajy,Fb⟩;simp only[List.map,DE.af,h.vs,h.es,h.dO,dl];obtain⟨us,rs,rfl,k0⟩:=Iy (yz 73 _ _ _ ajs hE);obtain⟨on,rs,rfl,k1⟩:=Iy k0;obtain⟨ef,rs,rfl,k2⟩:=dj k1;obtain rfl:=iT k2;have PU:D.E 73 [.l vs,.l es,.l D.dO] [.l us,.l on,.i ef]:=by
   have:=hE;simp only[List.map,DE.af,h.vs,h.es,h.dO,dl]at this;exact this
 have h1:ti D vs es x y z out w i dn (e.av 5744 [.l us,.l on,.i ef]):=h.move hd fun k hk=>az.bd hk;obtain⟨e1,lH⟩:∃e1:az,e1=e.av 5744 [.l us,.l on,.i ef]:=⟨_,rfl⟩;have q0:e1 5744 = .l us:=by rw[lH];rfl
 have q1:e1 5745 = .l on:=by rw[lH];rfl
 rw[<- lH]at h1 ⊢;refine oM (fun hz=>?_) (fun hz=>?_);simp only[IE.af,q0,dl]at hz;obtain rfl:us=[]:=List.length_eq_zero_iff.1 (by omega);exact C4 (wC h1 h1.out hF (hG _ _ _ _ _ (.th Ct zH PU)));simp only[IE.af,q0,dl]at hz;have cQ:us≠[]:=fun h=>hz (by rw[h];rfl);refine fc rfl fun _=>fc rfl fun _=>po (M:=List.replicate us.length [0,0,0,0,0,0,0]) (by simp only[cU.af,IE.af,q0,dl,qm]) ?_;refine EA (fun ds=>∃(k:Nat) (ws:List (List Int)),ds=[.i k,.l ws,.l vs]/\k<=us.length/\ws.length=us.length/\(∀r∈ws,r.length=7)/\∀m,m<k->D.place (us.getD m []) (cells 7 (ws.getD m [])) 0)
   ⟨0,List.replicate us.length [0,0,0,0,0,0,0],by simp only[List.map,DE.af,IE.af,dw (show 5743<5747 by omega),h1.vs,dl];rfl,by omega,by simp,fun r hr=>by rw[(List.mem_replicate.1 hr).2];rfl,fun m hm=>by omega⟩ ?_
 rintro _ ⟨k,ws,rfl,hk,hws,hw7,Hg⟩;have h2:ti D vs es x y z out w i dn ((e1.set 5747 (.l (List.replicate us.length [0,0,0,0,0,0,0]))).av 5748 [.i k,.l ws,.l vs]):=h1.move hd fun j hj=>by rw[az.bd (by omega),dw (by omega)]
 have Xr:∀ys,G ys->lN F' 51004 (fun ds=>∃(k:Nat) (ws:List (List Int)),ds=[.i k,.l ws,.l vs]/\k<=us.length/\ws.length=us.length/\(∀r∈ws,r.length=7)/\∀m,m<k->D.place (us.getD m []) (cells 7 (ws.getD m [])) 0) 18004 ys:=fun ys hg=>by simpa[lN]using hF ys hg
 obtain⟨e2,pz⟩:∃e2:az,e2=(e1.set 5747 (.l (List.replicate us.length [0,0,0,0,0,0,0]))).av 5748 [.i k,.l ws,.l vs]:=⟨_,rfl⟩;have r0:e2 5744 = .l us:=by rw[pz,az.bd (by omega),dw (by omega),q0]
 have r1:e2 5745 = .l on:=by rw[pz,az.bd (by omega),dw (by omega),q1]
 have r8:e2 5748 = .i k:=by rw[pz];rfl
 have r9:e2 5749 = .l ws:=by rw[pz];rfl
 have Y':e2 5750 = .l vs:=by rw[pz];rfl
 rw[<- pz]at h2 ⊢;refine wv (fun cJ=>?_) (fun mF=>?_);simp only[IE.af,r8,r0,di,dl]at cJ;refine fc rfl fun _=>s_call (rI rfl) fun rs hEp=>?_;obtain⟨p0,r0,rfl,k0⟩:=dj (yz 108 _ _ _ J8 hEp);obtain⟨p1,r1,rfl,k1⟩:=dj (k0);obtain⟨p2,r2,rfl,k2⟩:=dj (k1);obtain⟨p3,r3,rfl,k3⟩:=dj (k2);obtain⟨p4,r4,rfl,k4⟩:=dj (k3);obtain⟨p5,r5,rfl,k5⟩:=dj (k4);obtain⟨p6,r6,rfl,k6⟩:=dj (k5);obtain⟨p7,r7,rfl,k7⟩:=dj (k6);obtain rfl:=iT k7;have hpk:D.place (us.getD k []) [.i p0,.i p1,.i p2,.i p3,.i p4,.i p5,.i p6] p7:=⟨rfl,by
   have:=hEp;simp only[List.map,DE.af,IE.af,r0,r8,di,dl,AZ,h2.jO 10 (by omega),h2.jO 11 (by omega),h2.jO 12 (by omega),h2.jO 13 (by omega)]at this;exact this⟩
 obtain⟨e3,yG⟩:∃e3:az,e3=e2.av 8825 [.i p0,.i p1,.i p2,.i p3,.i p4,.i p5,.i p6,.i p7]:=⟨_,rfl⟩;have o3:∀j,j<8825->e3 j=e2 j:=fun j hj=>by rw[yG];exact az.bd hj
 have s3:e3 8825 = .i p0/\e3 8826 = .i p1/\e3 8827 = .i p2/\e3 8828 = .i p3/\e3 8829 = .i p4/\e3 8830 = .i p5/\e3 8831 = .i p6/\e3 8832 = .i p7:=by rw[yG];exact⟨rfl,rfl,rfl,rfl,rfl,rfl,rfl,rfl⟩
 obtain⟨a0,a1,a2,a3,a4,a5,a6,a7⟩:=s3;rw[<- yG];refine oM (fun h0=>?_) (fun h0=>?_);simp only[IE.af,a7,di]at h0;subst h0;refine fc rfl fun _=>fc rfl fun _=>po (M:=ws.modify k fun _=>[p0,p1,p2,p3,p4,p5,p6]) (by simp only[cU.af,IE.af,List.map,b9,o3 5749 (by omega),o3 5748 (by omega),r9,r8,a0,a1,a2,a3,a4,a5,a6,di,dl,qm]) ?_;refine fc rfl fun _=>zp ⟨k+1,ws.modify k fun _=>[p0,p1,p2,p3,p4,p5,p6],?_,by omega,by simp[hws],ajn hw7 rfl,fun m hm=>?_⟩;simp only[List.map,DE.af,IE.af,dw (show 5748<10874 by omega),dw (show 5750<10874 by omega),o3 5748 (by omega),o3 5750 (by omega),r8,Y',di,dl];rfl;simp only[cq,List.getElem?_modify]at Hg ⊢;by_cases hmk:k=m;subst hmk;have:ws[k]?=some ws[k]:=dG (by omega);simp only[this,if_true,se,Option.getD_some];rw[<- List.getD_eq_getElem?_getD];exact hpk;simp only[hmk,if_false];have:=Hg m (by omega);simpa using this;simp only[IE.af,a7,di]at h0;exact EB (hp (.oO Ct zH cQ PU (by omega) hpk h0));simp only[IE.af,r8,r0,di,dl]at mF;obtain rfl:k=us.length:=by omega
 obtain⟨b0,b1,b2,b3,hb,g0,g1,g2,g3⟩:=h2.bx;refine s_call (rI rfl) fun rs hEd=>?_;obtain⟨fr,rs,rfl,k0⟩:=Iy (yz 74 _ _ _ ajt hEd);obtain rfl:=iT k0;have ajz:D.E 74 ([.l ws,.l on]++D.look++D.bx) [.l fr]:=by
   rw[hb];have:=hEd;simp only[List.map,ml,iv,DE.af,IE.af,BE.af,r9,r1,dl,g0,g1,g2,g3,di,h2.jO 62 (by omega),h2.jO 63 (by omega),h2.jO 64 (by omega),h2.jO 65 (by omega),h2.jO 66 (by omega),h2.jO 67 (by omega),h2.jO 68 (by omega),h2.jO 69 (by omega),h2.jO 70 (by omega),h2.jO 71 (by omega),h2.jO 72 (by omega),h2.jO 73 (by omega),h2.jO 74 (by omega),h2.jO 75 (by omega),h2.jO 76 (by omega)]at this;exact this
 have h3:ti D vs es x y z out w i dn (e2.av 11895 [.l fr]):=h2.move hd fun j hj=>az.bd (by omega);refine fc rfl fun _=>po (M:=out++fr) (by simp only[cU.af,h3.out,dl];rfl) (C4 (wC (h3.move hd fun j hj=>dw (by omega)) (by simp[az.set]) Xr (hG _ _ _ _ _ (.Gy Ct zH cQ PU hws hw7 Hg ajz))))
end
section
open Go.Sx
structure At0(D:l7)(L:List (List Int))(x y z:Int)(out:List (List Int))(w:Bool)(k:Nat)(dn:Nat)(e:az):Prop where
 jO:∀k,k<1119->e k=D.a k
 bx:∃b0 b1 b2 b3,D.bx=[.i b0,.i b1,.i b2,.i b3]/\e 1119 = .i b0/\e 1120 = .i b1/\e 1121 = .i b2/\e 1122 = .i b3
 dO:e 2143 = .l D.dO
 rows:e 5216 = .l L
 i:e 5218 = .i k
 x:(e dn).int=x
 y:(e (dn+1)).int=y
 z:(e (dn+2)).int=z
 out:e 5222 = .l out
 w:e 5223 = .b w
 V:e 5224 = .l (eK (ew Nk (L.getD k []) 0))
 es:e 5225 = .l (flagsOf (L.getD k []))
theorem Db{V E:List Int}{p:Int}:ew Nk (ui V E p) 0=V:=by
 simp[ew,Nk,o8,ui]
theorem Mt{V E:List Int}{p:Int}:ew Nk (ui V E p) 1=E:=by
 simp[ew,Nk,o8,ui]
theorem ZW{V E:List Int}{p:Int}:(ui V E p).getD 2 0=p:=rfl
variable {D:l7}{L:List (List Int)}{x y z:Int}{out:List (List Int)}{w:Bool}{k:Nat}{dn:Nat}{e:az}{R:List DV->Prop}{F:Nat->List DV->Prop}{G:List DV->Prop}
theorem GB(yz:xJ D.E){m:Int}(h:At0 D L x y z out w k dn e)(hd:dn+2<5224)(hr:vp m (D.a 60).list.length (L.getD k [])){F':Nat->List DV->Prop}(hF:∀vs,G vs->F' 18004 vs)
   (hG:∀x' y' z' uh w',Step D (D.l9 (L.getD k [])) (flagsOf (L.getD k [])) [.i x,.i y,.i z] out w [.i x',.i y',.i z'] uh w'->G [.i ((k:Int)+1),.i x',.i y',.i z',.l uh,.b w']) :
   (EK dn).mv (Sw 18) TE D.E R [] e F':=by
 obtain⟨V,E,pr,bj,hV1,hV4,hV,hp0,Ms,ajA,hE2,hE3,_⟩:=hr;have eV:ew Nk (L.getD k []) 0=V:=by rw[bj,Db]
 have eE:ew Nk (L.getD k []) 1=E:=by rw[bj,Mt]
 have eP:(L.getD k []).getD 2 0=pr:=by rw[bj,ZW]
 have hV5:e 5224 = .l (eK V):=by rw[h.V,eV]
 unfold EK;refine UK ?_;have ZX:Step D (D.l9 (L.getD k [])) (flagsOf (L.getD k [])) [.i x,.i y,.i z] out w [.i x,.i y,.i z] out false->
     (au.ite (.not (.eq (.v 5229) (.c 0))) (.ev (.aG (r6 (.add (.v 5218) (.c 1)))) (.again 18004 [.i (.add (.v 5218) (.c 1)),.i (.v dn),.i (.v (dn+1)),.i (.v (dn+2)),.l 5222,.b (.c false)])) (.ev (.aG (r6 (.add (.v 5218) (.c 1)))) (.again 18004 [.i (.add (.v 5218) (.c 1)),.i (.v dn),.i (.v (dn+1)),.i (.v (dn+2)),.l 5222,.b (.v 5223)]))).mv (Sw 18) TE D.E R [] (e.set 5229 (.i 9)) F':=fun dV=>by
   refine Gr (fun _=>fc rfl fun _=>hF _ ?_) (fun hc=>?_);have:=hG x y z out false dV;simp only[List.map,DE.af,IE.af,BE.af,dw (show 5218<5229 by omega),dw (show dn<5229 by omega),dw (show dn+1<5229 by omega),dw (show dn+2<5229 by omega),dw (show 5222<5229 by omega),h.i,h.x,h.y,h.z,h.out,di,dl];exact this;simp[BE.af,IE.af,az.set,di]at hc
 refine fc rfl fun _=>fc rfl fun _=>po (M:=List.replicate V.length [0,0,0,0,0,0,0,0]) (by simp only[cU.af,IE.af,hV5,dl,dz,qm]) ?_;refine EA (fun ds=>∃(j:Nat) (xs:List (List Int)),ds=[.i j,.l xs]/\j<=V.length/\xs.length=V.length/\∀m,m<j->xs.getD m []=nw (D.a 60).list (D.a 77).bool pr (V.getD m 0))
   ⟨0,List.replicate V.length [0,0,0,0,0,0,0,0],rfl,by omega,by simp,fun m hm=>by omega⟩ ?_
 rintro _ ⟨j,xs,rfl,hj,pH,GC⟩;have Xr:∀us,G us->lN F' 33003 (fun ds=>∃(j:Nat) (xs:List (List Int)),ds=[.i j,.l xs]/\j<=V.length/\xs.length=V.length/\∀m,m<j->xs.getD m []=nw (D.a 60).list (D.a 77).bool pr (V.getD m 0)) 18004 us:=fun us hg=>by simpa[lN]using hF us hg
 obtain⟨e1,lH⟩:∃e1:az,e1=(e.set 5741 (.l (List.replicate V.length [0,0,0,0,0,0,0,0]))).av 5742 [.i j,.l xs]:=⟨_,rfl⟩;have o1:∀j,j<5741->e1 j=e j:=fun j hj=>by rw[lH,az.bd (by omega),dw (by omega)]
 have g2:e1 5742 = .i j:=by rw[lH];rfl
 have g3:e1 5743 = .l xs:=by rw[lH];rfl
 have a60:e1 60=D.a 60:=by rw[o1 60 (by omega),h.jO 60 (by omega)]
 have a77:e1 77=D.a 77:=by rw[o1 77 (by omega),h.jO 77 (by omega)]
 have aV:e1 5224 = .l (eK V):=by rw[o1 5224 (by omega),hV5]
 have aL:e1 5216 = .l L:=by rw[o1 5216 (by omega),h.rows]
 have ai:e1 5218 = .i k:=by rw[o1 5218 (by omega),h.i]
 rw[<- lH];refine wv (fun cJ=>?_) (fun mF=>?_);simp only[IE.af,g2,aV,di,dl,dz]at cJ;have hg:cellAt (eK V) (j:Int) 0=V.getD j 0:=by rw[A0 (by omega) cJ,qm]
 have hm:=hV _ (A1 (l:=V) (i:=j) (by omega));have hP:cellAt L (k:Int) 2=pr:=by rw[AZ,eP]
 refine fc rfl fun _=>Ez (gQ (by simp only[IE.af,g2,aV,di,dl,hg];exact hm.1)) (Ez (gQ (by simp only[IE.af,g2,aV,a60,di,dl,hg];exact hm.2)) (fc rfl fun _=>?_));refine po (M:=xs.modify j fun _=>[cellAt (D.a 60).list (V.getD j 0) 0,cellAt (D.a 60).list (V.getD j 0) 1,cellAt (D.a 60).list (V.getD j 0) 2,cellAt (D.a 60).list (V.getD j 0) 3,cellAt (D.a 60).list (V.getD j 0) 4,cellAt (D.a 60).list (V.getD j 0) 5,cellAt (D.a 60).list (V.getD j 0) 6,cellAt (D.a 60).list (V.getD j 0) 7]) (by simp only[cU.af,IE.af,List.map,b9,g2,g3,aV,a60,di,dl,hg,qm]) ?_;refine JZ (fun Tl=>?_) (fun Tl=>?_);simp only[BE.af,dw (show 77<5744 by omega),a77]at Tl;refine Ez (gQ (by simp only[IE.af,dw (show 5216<5744 by omega),dw (show 5218<5744 by omega),aL,ai,di,dl,hP];exact hp0)) (Ez (gQ (by simp only[IE.af,dw (show 5216<5744 by omega),dw (show 5218<5744 by omega),dw (show 60<5744 by omega),aL,ai,a60,di,dl,hP];exact Ms)) (fc rfl fun _=>fc rfl fun _=>?_));refine po (M:=xs.modify j fun _=>nw (D.a 60).list (D.a 77).bool pr (V.getD j 0)) ?_ (fc rfl fun _=>zp ⟨j+1,xs.modify j fun _=>nw (D.a 60).list (D.a 77).bool pr (V.getD j 0),?_,by omega,by simp[pH],fun m hm=>?_⟩);simp only[cU.af,IE.af,List.map,b9,dw (show 5742<5744 by omega),dw (show 5216<5744 by omega),dw (show 5218<5744 by omega),dw (show 60<5744 by omega),g2,aL,ai,a60,di,dl,hP,qm];simp only[az.set,if_true,dl,Tl];refine List.ext_getElem? fun q=>?_;simp only[List.getElem?_modify];by_cases hq:j=q;subst hq;have hxj:xs[j]?=some xs[j]:=dG (by omega);simp only[if_true,List.getElem?_modify,hxj,se];simp[nw,jG,nL,cellAt];simp[hq];simp only[List.map,DE.af,IE.af,dw (show 5742<12913 by omega),dw (show 5742<5744 by omega),g2,di];simp only[az.set,if_true,dl];rfl;simp only[cq,List.getElem?_modify]at GC ⊢;by_cases hq:j=m;subst hq;have:xs[j]?=some xs[j]:=dG (by omega);simp[this];simp only[hq,if_false];have:=GC m (by omega);simpa using this;simp only[BE.af,dw (show 77<5744 by omega),a77]at Tl;refine fc rfl fun _=>zp ⟨j+1,xs.modify j fun _=>nw (D.a 60).list (D.a 77).bool pr (V.getD j 0),?_,by omega,?_,fun m hm=>?_⟩;simp only[List.map,DE.af,IE.af,dw (show 5742<5744 by omega),g2,di,Tl];simp only[az.set,if_true,dl];rfl;simp[pH];simp only[cq,List.getElem?_modify]at GC ⊢;by_cases hq:j=m;subst hq;have:xs[j]?=some xs[j]:=dG (by omega);simp[this];simp only[hq,if_false];have:=GC m (by omega);simpa using this;simp only[IE.af,g2,aV,di,dl,dz]at mF;obtain rfl:j=V.length:=by omega
 have hx:xs=D.l9 (L.getD k []):=by
   unfold l7.l9;rw[eV,eP];refine List.ext_getElem (by simp[pH]) fun q KW xo=>?_;have:=GC q (by omega);rw[List.getElem_map];simpa[List.getD,KW,show q<V.length by omega]using this
 subst hx;obtain⟨b0,b1,b2,b3,hb,c1,c2,c3,c4⟩:=h.bx;have hA:ti D (D.l9 (L.getD k [])) (flagsOf (L.getD k [])) x y z out w k dn e1:=⟨fun q hq=>by rw[o1 q (by omega),h.jO q hq],⟨b0,b1,b2,b3,hb,by rw[o1 _ (by omega),c1],by rw[o1 _ (by omega),c2],by rw[o1 _ (by omega),c3],by rw[o1 _ (by omega),c4]⟩,
   by rw[o1 _ (by omega),h.dO],ai,by rw[o1 _ (by omega),h.x],by rw[o1 _ (by omega),h.y],by rw[o1 _ (by omega),h.z],by rw[o1 _ (by omega),h.out],by rw[o1 _ (by omega),h.w],by rw[o1 _ (by omega),h.es],g3⟩
 unfold adm;refine oM (fun hl=>?_) (fun hl=>?_);simp only[IE.af,g3,dl]at hl;exact ZS yz hA (by omega) (by omega) Xr ZX hG;simp only[IE.af,g3,dl]at hl;refine oM (fun zH=>?_) (fun zH=>?_);simp only[IE.af,g3,dl]at zH;exact ZT yz hA (by omega) (by omega) Xr ZX hG;simp only[IE.af,g3,dl]at zH;refine ZV yz hA (by omega) (by omega) (by omega) ?_ ?_ Xr ZX hG;unfold flagsOf;rw[eE,dz];rcases mS V.length 3 with h3|h3;rw[hE2 h3];simp;rw[hE3 h3];omega;intro r hr;unfold flagsOf at hr;rw[eE]at hr;obtain⟨u,hu,rfl⟩:=jb.1 hr;rcases ajA u hu with rfl|rfl<;>simp
def PV(D:l7)(L:List (List Int))(vs:List DV):Prop:=∃(k:Nat) (x y z:Int) (out:List (List Int)) (w:Bool),vs=[.i k,.i x,.i y,.i z,.l out,.b w]/\k<=L.length/\D.runs L k [.i x,.i y,.i z] out w
theorem adp{E:Nat->List DV->List DV->Prop}(yz:xJ E)(h30:∀ds rs,PW ds->E 30 ds rs->GD ds rs){ds:List DV}(ZY:(aR.av 0 ds 61).list.length<=256)(ZZ:(aR.av 0 ds 60).list.length=(aR.av 0 ds 61).list.length) :
   t18.mv (Sw 18) TE E (Gz E ds) [] (aR.av 0 ds) (fun _ _=>True):=by
 obtain⟨a,ha⟩:∃a:az,a=aR.av 0 ds:=⟨_,rfl⟩;rw[<- ha]at ZY ZZ;unfold t18;rw[<- ha];refine s_call (rI rfl) fun rs adq=>?_;obtain⟨b0,rs,rfl,k0⟩:=dj (yz 28 _ _ _ aju adq);obtain⟨b1,rs,rfl,k1⟩:=dj k0;obtain⟨b2,rs,rfl,k2⟩:=dj k1;obtain⟨b3,rs,rfl,k3⟩:=dj k2;obtain rfl:=iT k3;refine s_call (rI rfl) fun rs adr=>?_;obtain⟨S,rs,rfl,k0⟩:=Iy (yz 29 _ _ _ ajv adr);obtain rfl:=iT k0;refine s_call (rI rfl) fun rs ads=>?_;obtain⟨L,rs,rfl,k0⟩:=ajm (yz 30 _ _ _ ajw ads);obtain⟨ee,rs,rfl,k1⟩:=dj k0;obtain rfl:=iT k1;have adt:E 28 (vm.map (DE.af a)) [.i b0,.i b1,.i b2,.i b3]:=adq;have adu:E 29 (vm.map (DE.af a)) [.l S]:=by
   refine Eq.mp (congrArg (fun q=>E 29 q [.l S]) ?_) adr;refine rm fun d hd=>?_;exact(DE.ar (p:=fun k=>decide (k<1119)) (fun k hk=>(az.bd (by simpa using hk)).symm) (jE.1 (show vm.all (DE.all fun k=>decide (k<1119))=true by kernel_rfl) d hd)).symm
 have o3:∀k,k<1119->(((a.av 1119 [.i b0,.i b1,.i b2,.i b3]).av 2143 [.l S]).av 5216 [.l L,.i ee]) k=a k:=fun k hk=>by rw[az.bd (by omega),az.bd (by omega),az.bd (by omega)]
 have Xs:E 30 [.i (a 59).int,.l (a 61).list,.b (a 78).bool] [.l L,.i ee]:=ads;obtain⟨hL,PX⟩:L.length<=256/\∀r∈L,vp (a 59).int (a 61).list.length r:=by
   obtain⟨L',e',hq,h1,_,h2⟩:=h30 _ _ ⟨_,_,_,rfl,ZY⟩ Xs;cases hq;exact⟨h1,h2 _ _ _ rfl⟩
 refine EA (PV ⟨E,a,[.i b0,.i b1,.i b2,.i b3],S⟩ L)
   ⟨0,(a 65).int,(a 66).int,(a 67).int,[],true,?_,by omega,rfl,rfl,rfl⟩ ?_
 simp only[List.map,DE.af,IE.af,BE.af,o3 65 (by omega),o3 66 (by omega),o3 67 (by omega)];rfl;rintro _ ⟨k,x,y,z,out,w,rfl,hk,PY⟩;obtain⟨e1,lH⟩:∃e1:az,e1=(((a.av 1119 [.i b0,.i b1,.i b2,.i b3]).av 2143 [.l S]).av 5216 [.l L,.i ee]).av 5218 [.i k,.i x,.i y,.i z,.l out,.b w]:=⟨_,rfl⟩;have o1:∀j,j<1119->e1 j=a j:=fun j hj=>by rw[lH,az.bd (by omega),o3 j hj]
 have g:e1 1119 = .i b0/\e1 1120 = .i b1/\e1 1121 = .i b2/\e1 1122 = .i b3/\e1 2143 = .l S/\e1 5216 = .l L/\e1 5218 = .i k/\e1 5219 = .i x/\e1 5220 = .i y/\e1 5221 = .i z/\e1 5222 = .l out/\e1 5223 = .b w:=by rw[lH];exact⟨rfl,rfl,rfl,rfl,rfl,rfl,rfl,rfl,rfl,rfl,rfl,rfl⟩
 obtain⟨g0,g1,g2,g3,gS,gL,gi,gx,gy,gz,go,gw⟩:=g;rw[<- lH];refine wv (fun cJ=>?_) (fun mF=>?_);simp only[IE.af,gi,gL,di,dl]at cJ;have hpk:=PX _ (Da (l:=L) (k:=k) (by omega));rw[<- ZZ]at hpk;refine fc rfl fun _=>po (M:=eK (ew Nk (L.getD k []) 0)) (by simp only[cU.af,IE.af,gi,gL,di,dl,qm];rfl) (po (M:=flagsOf (L.getD k [])) (by simp only[cU.af,IE.af,dw (show 5218<5224 by omega),dw (show 5216<5224 by omega),gi,gL,di,dl,qm];rfl) ?_);obtain⟨e2,pz⟩:∃e2:az,e2=(e1.set 5224 (.l (eK (ew Nk (L.getD k []) 0)))).set 5225 (.l (flagsOf (L.getD k []))):=⟨_,rfl⟩;have o2:∀j,j<5224->e2 j=e1 j:=fun j hj=>by rw[pz,dw (by omega),dw (by omega)]
 have v4:e2 5224 = .l (eK (ew Nk (L.getD k []) 0)):=by rw[pz];rfl
 have v5:e2 5225 = .l (flagsOf (L.getD k [])):=by rw[pz];rfl
 rw[<- pz];have hA:∀dn x y z,(e2 dn).int=x->(e2 (dn+1)).int=y->(e2 (dn+2)).int=z->At0 ⟨E,a,[.i b0,.i b1,.i b2,.i b3],S⟩ L x y z out w k dn e2:=fun dn x y z hx hy hz=>
   ⟨fun j hj=>by rw[o2 j (by omega),o1 j hj],⟨b0,b1,b2,b3,rfl,by rw[o2 _ (by omega),g0],by rw[o2 _ (by omega),g1],by rw[o2 _ (by omega),g2],by rw[o2 _ (by omega),g3]⟩,by rw[o2 _ (by omega),gS],by rw[o2 _ (by omega),gL],by rw[o2 _ (by omega),gi],hx,hy,hz,by rw[o2 _ (by omega),go],by rw[o2 _ (by omega),gw],v4,v5⟩
 refine oM (fun hm=>?_) (fun hm=>?_);simp only[IE.af,o2 59 (by omega),o1 59 (by omega)]at hm;refine GB (D:=⟨E,a,[.i b0,.i b1,.i b2,.i b3],S⟩) yz (hA 65 (a 65).int (a 66).int (a 67).int (by rw[o2 _ (by omega),o1 _ (by omega)]) (by rw[o2 _ (by omega),o1 _ (by omega)]) (by rw[o2 _ (by omega),o1 _ (by omega)])) (by omega) hpk (G:=PV ⟨E,a,[.i b0,.i b1,.i b2,.i b3],S⟩ L) (fun vs hv=>by simpa[lN]using hv) ?_;intro x' y' z' uh w' dV;exact⟨k+1,x',y',z',uh,w',rfl,by omega,_,out,w,PY,by rw[if_pos hm];exact dV⟩;simp only[IE.af,o2 59 (by omega),o1 59 (by omega)]at hm;refine GB (D:=⟨E,a,[.i b0,.i b1,.i b2,.i b3],S⟩) yz (hA 5219 x y z (by rw[o2 _ (by omega),gx];rfl) (by rw[o2 _ (by omega),gy];rfl) (by rw[o2 _ (by omega),gz];rfl)) (by omega) hpk (G:=PV ⟨E,a,[.i b0,.i b1,.i b2,.i b3],S⟩ L) (fun vs hv=>by simpa[lN]using hv) ?_;intro x' y' z' uh w' dV;exact⟨k+1,x',y',z',uh,w',rfl,by omega,_,out,w,PY,by rw[if_neg hm];exact dV⟩;simp only[IE.af,gi,gL,di,dl]at mF;obtain rfl:k=L.length:=by omega
 refine acq (rs:=[.l out,.b w]) (by simp only[List.map,DE.af,BE.af,go,gw,dl,db]) ⟨[.i b0,.i b1,.i b2,.i b3],S,L,ee,[.i x,.i y,.i z],out,w,rfl,?_,?_,?_,?_,rfl⟩;rw[<- ha];exact adt;rw[<- ha];exact adu;rw[<- ha];exact Xs;rw[<- ha];exact PY
end
section
open Go.Sx Go
structure GO(X:bH):Prop where
 kd:∀k s ds rs,kI k=some s->cK (TT Tryz.prog) X k ds rs->kinds (bI s.res) rs=true
 no:∀ds,X 999999 ds=none
theorem ae1:(rowOf 18).sub=[(104106,999999),(104150,999999),(205245,999999)]:=by kernel_rfl
theorem no9:TT Tryz.prog 999999=none:=by kernel_rfl
abbrev IT:iG:=⟨18,t18,(rowOf 18).sub⟩
theorem ae2(g:FuncId):IT.key g=g\/IT.key g=999999:=by
 show(match(rowOf 18).sub.find? (fun p=>p.1==g)with
   |some p=>p.2
   |none=>g)=g\/(match(rowOf 18).sub.find? (fun p=>p.1==g)with
   |some p=>p.2
   |none=>g)=999999
 rw[ae1];by_cases h1:(104106==g)=true;exact Or.inr (by simp[h1]);by_cases h2:(104150==g)=true;exact Or.inr (by simp[h1,h2]);by_cases h3:(205245==g)=true;exact Or.inr (by simp[h1,h2,h3]);exact Or.inl (by simp[h1,h2,h3])
theorem GR{X:bH}(h:∀ds,X 999999 ds=none){ds rs:List DV}(hg:cK (TT Tryz.prog) X 999999 ds rs):False:=by
 obtain⟨n,hn⟩:=hg;cases n with
 |zero=>cases hn
 | succ n=>
   simp only[ev,no9,h]at hn;cases hn
theorem QE{X:bH}(h:GO X):xJ (fun g=>cK (TT Tryz.prog) X (IT.key g)):=fun k s ds rs hs hg=>by
 have hg:cK (TT Tryz.prog) X (IT.key k) ds rs:=hg;rcases ae2 k with e|e;rw[e]at hg;exact h.kd k s ds rs hs hg;rw[e]at hg;exact(GR h.no hg).elim
theorem QF:(kc 18).args[61]?=some (.l 0 (some 256) [(0,1)]):=by kernel_rfl
theorem ae3:((kc 18).pre.any fun p=>p.beq (.eq (.len 60) (.len 61)))=true:=by kernel_rfl
theorem ae4:Nat.ble (kc 18).args.length R0=true:=by kernel_rfl
theorem amv:kc 73=⟨[.l 0 (some 1099511627776) (List.replicate 8 (mn,mx)),.l 0 (some 1099511627776) [(0,1)],.l 0 (some 1099511627776) (List.replicate 5 (mn,mx))],[],[.l 0 (some 131072) (List.replicate 8 (mn,mx)),.l 0 (some 131072) [(0,1)],.i mn mx],[.eq (.len (R0+1)) (.len R0)]⟩:=by kernel_rfl
theorem aas:Va 18 73 (kc 73)=⟨[.l 0 (some 1099511627776) (List.replicate 8 (mn,mx)),.t,.l 0 (some 1099511627776) (List.replicate 5 (mn,mx))],[],[.l 0 (some 131072) (List.replicate 8 (mn,mx)),.l 0 (some 131072) [(0,1)],.i mn mx],[.eq (.len (R0+1)) (.len R0)]⟩:=by kernel_rfl
theorem VL{j:Nat}(h:j≠73)(c:Cn):Va 18 j c=c:=by
 unfold Va;simp[h]
theorem Be{al:List A}{i b:Nat}{a:A}(h:al[i]?=some a):(b+i,a)∈n7 b al:=by
 induction al generalizing i b with
 |nil=>cases h
 | cons x al ih=>
   cases i with
   |zero=>cases h;exact aK ..
   | succ i=>
     refine bl _ ?_;have:=ih (i:=i) (b:=b+1) h;rwa[Nat.add_right_comm,Nat.add_assoc]at this
theorem uC{lo hi:Int}{cs:List (Int×Int)}{d:DV}(h:A.has (.l lo (some hi) cs) d):(d.list.length:Int)<=hi:=by
 cases d<;>first|exact h.elim|exact h.2.1 _ rfl
theorem MJ{X:bH}(hG:oc (TT Tryz.prog) X kc (ord.take 125)):∀j c,Kw 18 125 j=some c->Pj (TT Tryz.prog) X TE j c:=fun j c hc=>by
 unfold Kw at hc;split at hc;rename_i c' CN;have gD:=Ih hG j c' CN;have hk:c'=kc j:=by
   unfold UG at CN;split at CN;cases CN;rfl;cases CN
 subst hk;cases hc;by_cases h:j=73;subst h;intro ds hp;rw[aas]at hp ⊢;rw[amv]at gD;refine⟨fun hh=>?_,fun _=>⟨[.l [],.l [],.i 0],?_⟩⟩;obtain⟨V,Fl,S,rfl,h1,h2⟩:=hh rfl;obtain⟨⟨a1,_,a3,_⟩,_⟩:=hp;exact gD [.l V,.l Fl,.l S] ⟨⟨a1,⟨by omega,fun y hy=>by cases hy;omega,fun r hr=>⟨h2 r hr,trivial⟩⟩,a3,trivial⟩,fun p hp=>by cases hp⟩;refine⟨⟨⟨by decide,fun y hy=>by cases hy;decide,fun r hr=>by cases hr⟩,⟨by decide,fun y hy=>by cases hy;decide,fun r hr=>by cases hr⟩,⟨by decide,by decide⟩,trivial⟩,fun p hp=>?_⟩;obtain rfl:p = .eq (.len (R0+1)) (.len R0):=by simpa using hp
 have q0:fU ds [.l [],.l [],.i 0] R0 = .l []:=mz (e:=aR.av 0 ds) (b:=R0) (j:=0) (ds:=[.l [],.l [],.i 0]) (by decide);have q1:fU ds [.l [],.l [],.i 0] (R0+1) = .l []:=mz (e:=aR.av 0 ds) (b:=R0) (j:=1) (ds:=[.l [],.l [],.i 0]) (by decide);simp[BE.af,IE.af,q0,q1];rw[VL h];intro ds hp;obtain⟨rs,g,q⟩:=gD ds hp;exact⟨fun _=>⟨rs,g,q⟩,fun _=>⟨rs,q⟩⟩;cases hc
theorem g18{X:bH}(hX:GO X)(hG:oc (TT Tryz.prog) X kc (ord.take 125)):mb (TT Tryz.prog) X 18 (kc 18).gN (fun ds rs=>(kc 18).ij ds rs/\Gz (fun g=>cK (TT Tryz.prog) X (IT.key g)) ds rs):=by
 refine Mj (H:=TE) (R:=Gz (fun g=>cK (TT Tryz.prog) X (IT.key g))) T18 (MJ hG) (aw 18) ae4 c18 fun ds hp=>?_;have ZY:((aR.av 0 ds 61).list.length:Int)<=256:=uC (oa (ae:=aR) (base:=0) hp.1 _ (Be (b:=0) QF));have ZZ:(aR.av 0 ds 60).list.length=(aR.av 0 ds 61).list.length:=by
   have:=ae3;rw[lT]at this;obtain⟨p,h1,h2⟩:=this;have e:=hp.2 p h1;rw[BE.beq_eq h2]at e;have e:((aR.av 0 ds 60).list.length:Int)=(aR.av 0 ds 61).list.length:=mC e;omega
 refine adp (QE hX) (fun ds rs hp hg=>?_) (by omega) ZZ;obtain⟨eo,g',h'⟩:=g30 (X:=X) ds hp;cases cK.uf (show cK (TT Tryz.prog) X 30 ds rs from hg) g';exact h'
theorem ajO{X:bH}(hX:GO X):QD Tryz.prog X 125 18:=fun hG=>mb.weaken (g18 hX hG) (fun _ h=>h) fun _ _ _ h=>h.1
end
end Go.Proofs.YtohebioanhliiaaGreatDoor.aF

/- Emit: what it gives. -/
import Derived.Test.YtohebioanhliiaaGreatDoorFE1
import Derived.Test.YtohebioanhliiaaGreatDoorFC2
set_option maxRecDepth 100000
set_option linter.unusedVariables false
set_option linter.unusedSimpArgs false
namespace Go.Proofs.YtohebioanhliiaaGreatDoor.aN
section
open Go.Sx
variable{l:List (List Int)}{rs:List DV}{k:Nat}{ks:List CT}{F':Nat->List DV->Prop}{c j:Nat}
theorem ez{k:IntKind}(h:kinds (.c (.i k)::ks) rs=true):∃x fw,rs = .i x::fw/\kinds ks fw=true:=by
 match rs,h with
 |.i x::rs,h=>exact⟨x,rs,rfl,(Bool.and_eq_true_iff.1 h).2⟩
theorem adz(h:kinds (.c .b::ks) rs=true):∃x fw,rs = .b x::fw/\kinds ks fw=true:=by
 match rs,h with
 |.b x::rs,h=>exact⟨x,rs,rfl,(Bool.and_eq_true_iff.1 h).2⟩
theorem Jo{e:TypeId}{cs:List CK}(h:kinds (.s e cs::ks) rs=true):∃x fw,rs = .l x::fw/\kinds ks fw=true:=by
 match rs,h with
 |.l x::rs,h=>exact⟨x,rs,rfl,(Bool.and_eq_true_iff.1 h).2⟩
theorem aiR{e:TypeId}{cs:List NK}(h:kinds (.n e cs::ks) rs=true):∃x fw,rs = .l x::fw/\kinds ks fw=true:=by
 match rs,h with
 |.l x::rs,h=>exact⟨x,rs,rfl,(Bool.and_eq_true_iff.1 h).2⟩
theorem jR(h:kinds [] rs=true):rs=[]:=by
 match rs,h with
 | [],_=>rfl
def yG(E:Nat->List DV->List DV->Prop):Prop:=∀k s ds rs,lD k=some s->E k ds rs->kinds (bP s.res) rs=true
theorem aiS{ws:List (List Int)}{row:List Int}(h:∀r∈ws,r.length=7)(hr:row.length=7):∀r∈ws.modify k (fun _=>row),r.length=7:=by
 intro r hm;obtain⟨i,hi⟩:=List.mem_iff_getElem?.1 hm;rw[List.getElem?_modify]at hi;cases hw:ws[i]? with
 |none=>rw[hw]at hi;cases hi
 | some x=>
   rw[hw]at hi;have hx:=h x (List.mem_iff_getElem?.2 ⟨i,hw⟩);have hi:some (if k=i then row else x)=some r:=hi;injection hi with hi;by_cases e:k=i;rw[if_pos e]at hi;rw[<- hi];exact hr;rw[if_neg e]at hi;rw[<- hi];exact hx
def cells(n:Nat)(r:List Int):List DV:=(List.range n).map fun j=>.i (r.getD j 0)
structure yH where
 E:Nat->List DV->List DV->Prop
 a:aF
 bx:List DV
 fo:List (List Int)
def yH.port(D:yH):List DV:=[.i (D.a 10).int,.i (D.a 11).int,.i (D.a 12).int,.i (D.a 13).int]
def yH.look(D:yH):List DV:=[.i (D.a 62).int,.b (D.a 63).bool,.b (D.a 64).bool,.i (D.a 65).int,.i (D.a 66).int,.i (D.a 67).int,.i (D.a 68).int,.i (D.a 69).int,.i (D.a 70).int,.i (D.a 71).int,.b (D.a 72).bool,.i (D.a 73).int,.b (D.a 74).bool,.i (D.a 75).int,.i (D.a 76).int]
def yH.dash(D:yH):List DV:=[.i (D.a 65).int,.i (D.a 66).int,.i (D.a 67).int]
def yH.place(D:yH)(v:List Int)(p:List DV)(e:Int):Prop:=p.length=7/\D.E 108 (cells 8 v++D.port) (p++[.i e])
inductive Step (D:yH) (vs es:List (List Int)) (d:List DV) (out:List (List Int)) (w:Bool):List DV->List (List Int)->Bool->Prop
 |hidden {v s:List Int} {x:Int}:vs=[v]->s∈D.fo->D.E 67 (cells 5 s++cells 8 v) [.i x]->x<0->Step D vs es d out w d out w
 |KT {v:List Int} {p:List DV} {e:Int}:vs=[v]->(∀s∈D.fo,∃x,D.E 67 (cells 5 s++cells 8 v) [.i x]/\0<=x)->D.place v p e->e≠0->Step D vs es d out w d out false
 |point {v:List Int} {p:List DV} {fr:List (List Int)}:vs=[v]->(∀s∈D.fo,∃x,D.E 67 (cells 5 s++cells 8 v) [.i x]/\0<=x)->D.place v p 0->D.E 69 (p++[.i (D.a 68).int,.i (D.a 69).int]++D.bx) [.l fr]->Step D vs es d out w d (out++fr) w
 |lineNo {u v:List Int} {t:List DV}:vs=[u,v]->t.length=16->D.E 71 (cells 8 u++cells 8 v++[.l D.fo]) (t++[.b false])->Step D vs es d out w d out w
 |Fx {u v u' v':List Int} {p q:List DV} {e f:Int}:vs=[u,v]->D.E 71 (cells 8 u++cells 8 v++[.l D.fo]) (cells 8 u'++cells 8 v'++[.b true])->D.place u' p e->D.place v' q f->(e≠0\/f≠0)->Step D vs es d out w d out false
 |line {u v u' v':List Int} {p q d':List DV} {fr:List (List Int)}:vs=[u,v]->D.E 71 (cells 8 u++cells 8 v++[.l D.fo]) (cells 8 u'++cells 8 v'++[.b true])->D.place u' p 0->D.place v' q 0->d'.length=3->D.E 72 (p++q++D.look++d++D.bx) (.l fr::d')->Step D vs es d out w d' (out++fr) w
 |Qq {on:List (List Int)} {e:Int}:vs.length≠1->vs.length≠2->D.E 73 [.l vs,.l es,.l D.fo] [.l [],.l on,.i e]->Step D vs es d out w d out w
 |KU {us on:List (List Int)} {e f:Int} {k:Nat} {p:List DV}:vs.length≠1->vs.length≠2->us≠[]->D.E 73 [.l vs,.l es,.l D.fo] [.l us,.l on,.i e]->k<us.length->D.place (us.getD k []) p f->f≠0->Step D vs es d out w d out false
 |adA {us on ws fr:List (List Int)} {e:Int}:vs.length≠1->vs.length≠2->us≠[]->D.E 73 [.l vs,.l es,.l D.fo] [.l us,.l on,.i e]->ws.length=us.length->(∀r∈ws,r.length=7)->(∀k,k<us.length->D.place (us.getD k []) (cells 7 (ws.getD k [])) 0)->D.E 74 ([.l ws,.l on]++D.look++D.bx) [.l fr]->Step D vs es d out w d (out++fr) w
def om(V:List (List Int))(flat:Bool)(p n:Int):List Int:=
 let v:=V.getD n.toNat []
 let c:=if flat then V.getD p.toNat []else v
 [v.getD 0 0,v.getD 1 0,v.getD 2 0,v.getD 3 0,c.getD 4 0,c.getD 5 0,c.getD 6 0,c.getD 7 0]
def N6:List NK:=[.s 3 i6,.s 4 .b,.c i6]
def yH.zw(D:yH)(r:List Int):List (List Int):=(eU N6 r 0).map (om (D.a 60).list (D.a 77).bool (r.getD 2 0))
def flagsOf(r:List Int):List (List Int):=fh (eU N6 r 1)
def yH.runs(D:yH)(L:List (List Int)):Nat->List DV->List (List Int)->Bool->Prop
 |0,d,out,w=>d=D.dash/\out=[]/\w=true
 |k+1,d,out,w=>∃d1 aap w1,D.runs L k d1 aap w1/\Step D (D.zw (L.getD k [])) (flagsOf (L.getD k [])) (if(D.a 59).int=1 then D.dash else d1) aap w1 d out w
def yI:List DE:=[.i (.v 0),.i (.v 1),.i (.v 2),.l 3,.l 4]++iv 5 10++[.l 15,.l 16]++iv 17 30++[.b (.v 47),.b (.v 48),.b (.v 49),.b (.v 50),.b (.v 51),.b (.v 52)]++iv 53 4++[.b (.v 57),.b (.v 58),.i (.v 59),.l 60,.l 61,.i (.v 62),.b (.v 63),.b (.v 64)]++iv 65 7++[.b (.v 72),.i (.v 73),.b (.v 74),.i (.v 75),.i (.v 76),.b (.v 77),.b (.v 78),.b (.v 79)]++iv 80 4++[.b (.v 84),.i (.v 85),.b (.v 86),.b (.v 87),.i (.v 88),.i (.v 89),.b (.v 90),.b (.v 91),.b (.v 92),.b (.v 93)]
def KV(E:Nat->List DV->List DV->Prop)(ds rs:List DV):Prop:=∃(bx:List DV) (fo L:List (List Int)) (e:Int) (d:List DV) (out:List (List Int)) (w:Bool),
 bx.length=4/\E 28 (yI.map (DE.af (a8.au 0 ds))) bx/\E 29 (yI.map (DE.af (a8.au 0 ds))) [.l fo]/\
 E 30 [.i (a8.au 0 ds 59).int,.l (a8.au 0 ds 61).list,.b (a8.au 0 ds 78).bool] [.l L,.i e]/\yH.runs ⟨E,a8.au 0 ds,bx,fo⟩ L L.length d out w/\rs=[.l out,.b w]
def Uw(j:Nat)(ds:List DV):Prop:=j=73->∃V Fl S,ds=[.l V,.l Fl,.l S]/\Fl.length<=256/\∀r∈Fl,0<=r.getD 0 0/\r.getD 0 0<=1
structure uc(D:yH)(vs es:List (List Int))(x y z:Int)(out:List (List Int))(w:Bool)(i:Int)(dn:Nat)(e:aF):Prop where
 ko:∀k,k<1119->e k=D.a k
 bx:∃b0 b1 b2 b3,D.bx=[.i b0,.i b1,.i b2,.i b3]/\e 1119 = .i b0/\e 1120 = .i b1/\e 1121 = .i b2/\e 1122 = .i b3
 fo:e 2143 = .l D.fo
 i:e 5218 = .i i
 x:(e dn).int=x
 y:(e (dn+1)).int=y
 z:(e (dn+2)).int=z
 out:e 5222 = .l out
 w:e 5223 = .b w
 es:e 5225 = .l es
 vs:e 5743 = .l vs
theorem uc.move{D:yH}{vs es:List (List Int)}{x y z:Int}{out:List (List Int)}{w:Bool}{i:Int}{dn:Nat}{e e':aF}(h:uc D vs es x y z out w i dn e)(hd:dn+2<5744)(hm:∀k,k<5744->e' k=e k):uc D vs es x y z out w i dn e':=by
 obtain⟨b0,b1,b2,b3,h0,h1,h2,h3,h4⟩:=h.bx;exact⟨fun k hk=>by rw[hm k (by omega),h.ko k hk],⟨b0,b1,b2,b3,h0,by rw[hm _ (by omega),h1],by rw[hm _ (by omega),h2],by rw[hm _ (by omega),h3],by rw[hm _ (by omega),h4]⟩,
   by rw[hm _ (by omega),h.fo],by rw[hm _ (by omega),h.i],by rw[hm _ (by omega),h.x],by rw[hm _ (by omega),h.y],by rw[hm _ (by omega),h.z],by rw[hm _ (by omega),h.out],by rw[hm _ (by omega),h.w],by rw[hm _ (by omega),h.es],by rw[hm _ (by omega),h.vs]⟩
theorem dQ{e:aF}{d:DV}(h:j<k):(e.set k d) j=e j:=by simp only[aF.set];rw[if_neg (by omega)]
theorem Qr(h:l.length=1):l=[l.getD 0 []]:=by
 match l,h with
 | [x],_=>rfl
theorem Qt(h:l.length=2):l=[l.getD 0 [],l.getD 1 []]:=by
 match l,h with
 | [x,y],_=>rfl
variable {D:yH}{vs es:List (List Int)}{x y z:Int}{out:List (List Int)}{w:Bool}{i:Int}{dn:Nat}{e:aF}{R:List DV->Prop}{F:Nat->List DV->Prop}{G:List DV->Prop}{p:Int->Prop}
theorem aiT:lD 67=some VW:=by kernel_rfl
theorem KW:lD 108=some KX:=by kernel_rfl
theorem aiU:lD 69=some VX:=by kernel_rfl
theorem aiV:lD 71=some VY:=by kernel_rfl
theorem aiW:lD 72=some VZ:=by kernel_rfl
theorem aiX:lD 73=some V0:=by kernel_rfl
theorem aiY:lD 74=some V2:=by kernel_rfl
theorem aiZ:lD 28=some V3:=by kernel_rfl
theorem ai0:lD 29=some V4:=by kernel_rfl
theorem ai1:lD 30=some V5:=by kernel_rfl
theorem xy{Ps:List (Int->Prop)}(h:uc D vs es x y z out w i dn e){on:Nat}{o:List (List Int)}(ho:e on = .l o)(hF:∀vs,G vs->F' 18004 vs)(hG:G [.i (i+1),.i x,.i y,.i z,.l o,.b w]) :
   (aA.ev (.aH (r6 (.add (.v 5218) (.c 1)))) (.again 18004 [.i (.add (.v 5218) (.c 1)),.i (.v dn),.i (.v (dn+1)),.i (.v (dn+2)),.l on,.b (.v 5223)])).np (Sw 18) Uw D.E R Ps e F':=by
 refine fC rfl fun _=>?_;refine hF _ ?_;simp only[List.map,DE.af,IE.af,BE.af,h.i,h.x,h.y,h.z,ho,h.w,di,dl,db];exact hG
theorem Bx:cellAt l (k:Int) c=(l.getD k []).getD c 0:=by unfold cellAt;rw[pz]
theorem yJ:cellAt l 0 c=(l.getD 0 []).getD c 0:=rfl
theorem Qu:cellAt l 1 c=(l.getD 1 []).getD c 0:=rfl
theorem Hp{s:List Int}(h:s∈l):∃k,k<l.length/\l.getD k []=s:=by
 obtain⟨k,hk,rfl⟩:=List.getElem_of_mem h;exact⟨k,hk,by simp[List.getD,hk]⟩
theorem DL(h:k<l.length):l.getD k []∈l:=by simp[List.getD,h]
theorem su{ds:List DV}(h:Nat.beq j 73=false):Uw j ds:=fun e=>by subst e;simp at h
theorem aaq(zo:yG D.E)(h:uc D vs es x y z out w i dn e)(hd:dn+2<5744)(hl:vs.length=1)(hF:∀vs,G vs->F' 18004 vs)
   (hp:Step D vs es [.i x,.i y,.i z] out w [.i x,.i y,.i z] out false->p 9) (hG:∀x' y' z' sI w',Step D vs es [.i x,.i y,.i z] out w [.i x',.i y',.i z'] sI w'->G [.i (i+1),.i x',.i y',.i z',.l sI,.b w']) :
   (aam dn).np (Sw 18) Uw D.E R [p] e F':=by
 have hv:=Qr hl;unfold aam;refine fC rfl fun _=>?_;refine Fo (fun ds=>∃j:Nat,ds=[.i j]/\j<=D.fo.length/\∀k,k<j->∃x,D.E 67 (cells 5 (D.fo.getD k [])++cells 8 (vs.getD 0 [])) [.i x]/\0<=x) ⟨0,rfl,by omega,fun k hk=>by omega⟩ ?_;rintro _ ⟨j,rfl,hj,hsh⟩;have h1:uc D vs es x y z out w i dn (e.au 5745 [.i j]):=h.move hd fun k hk=>aF.aT (by omega);have Yh:∀us,G us->kO F' 49002 (fun ds=>∃j:Nat,ds=[.i j]/\j<=D.fo.length/\∀k,k<j->∃x,D.E 67 (cells 5 (D.fo.getD k [])++cells 8 (vs.getD 0 [])) [.i x]/\0<=x) 18004 us:=fun us hg=>by simpa[kO]using hF us hg
 obtain⟨e1,mS⟩:∃e1:aF,e1=e.au 5745 [.i j]:=⟨_,rfl⟩;have KY:e1 5745 = .i j:=by rw[mS];rfl
 rw[<- mS]at h1 ⊢;refine xu (fun cM=>?_) (fun my=>?_);simp only[IE.af,KY,h1.fo,di,dl]at cM;refine fC rfl fun _=>s_call (su rfl) fun rs hE=>?_;obtain⟨u,rs,rfl,k0⟩:=ez (zo 67 _ _ _ aiT hE);obtain rfl:=jR k0;have Qv:D.E 67 (cells 5 (D.fo.getD j [])++cells 8 (vs.getD 0 [])) [.i u]:=by
   have:=hE;simp only[List.map,DE.af,IE.af,KY,h1.fo,h1.vs,di,dl,Bx,yJ]at this;exact this
 refine xu (fun hu=>?_) (fun hu=>?_);refine DH (xy (h1.move hd fun k hk=>aF.aT (by omega)) (by rw[aF.aT (by omega)];exact h1.out) Yh (hG _ _ _ _ _ (.hidden hv (DL (by omega)) Qv ?_)));exact hu;refine fC rfl fun _=>Ae ⟨j+1,?_,by omega,fun k hk=>?_⟩;simp only[List.map,DE.af,IE.af,aF.aT (show 5745<5747 by omega),KY,di];rfl;rcases oH k j with YY|YY;exact hsh k YY;obtain rfl:k=j:=by omega
 exact⟨u,Qv,hu⟩;simp only[IE.af,KY,h1.fo,di,dl]at my;have cJ:∀s∈D.fo,∃x,D.E 67 (cells 5 s++cells 8 (vs.getD 0 [])) [.i x]/\0<=x:=fun s hs=>by
   obtain⟨k,hk,rfl⟩:=Hp hs;exact hsh k (by omega)
 refine s_call (su rfl) fun rs hE=>?_;obtain⟨x0,r0,rfl,k0⟩:=ez (zo 108 _ _ _ KW hE);obtain⟨x1,r1,rfl,k1⟩:=ez (k0);obtain⟨x2,r2,rfl,k2⟩:=ez (k1);obtain⟨x3,r3,rfl,k3⟩:=ez (k2);obtain⟨x4,r4,rfl,k4⟩:=ez (k3);obtain⟨x5,r5,rfl,k5⟩:=ez (k4);obtain⟨x6,r6,rfl,k6⟩:=ez (k5);obtain⟨x7,r7,rfl,k7⟩:=ez (k6);obtain rfl:=jR k7;have H':D.place (vs.getD 0 []) [.i x0,.i x1,.i x2,.i x3,.i x4,.i x5,.i x6] x7:=⟨rfl,by
   have:=hE;simp only[List.map,DE.af,IE.af,h1.vs,h1.ko 10 (by omega),h1.ko 11 (by omega),h1.ko 12 (by omega),h1.ko 13 (by omega),dl,yJ]at this;exact this⟩
 obtain⟨b0,b1,b2,b3,hb,g0,g1,g2,g3⟩:=h1.bx;have h2:uc D vs es x y z out w i dn (e1.au 7380 [.i x0,.i x1,.i x2,.i x3,.i x4,.i x5,.i x6,.i x7]):=h1.move hd fun k hk=>aF.aT (by omega);obtain⟨e2,sD⟩:∃e2:aF,e2=e1.au 7380 [.i x0,.i x1,.i x2,.i x3,.i x4,.i x5,.i x6,.i x7]:=⟨_,rfl⟩;have q:e2 7380 = .i x0/\e2 7381 = .i x1/\e2 7382 = .i x2/\e2 7383 = .i x3/\e2 7384 = .i x4/\e2 7385 = .i x5/\e2 7386 = .i x6/\e2 7387 = .i x7:=by rw[sD];exact⟨rfl,rfl,rfl,rfl,rfl,rfl,rfl,rfl⟩
 obtain⟨q0,q1,q2,q3,q4,q5,q6,q7⟩:=q;rw[<- sD]at h2 ⊢;refine s_call (su rfl) fun rs hE=>?_;obtain⟨fr,rs,rfl,k0⟩:=Jo (zo 69 _ _ _ aiU hE);obtain rfl:=jR k0;obtain⟨c0,c1,c2,c3,nC,g0',g1',g2',g3'⟩:=h2.bx;have Qv:D.E 69 ([.i x0,.i x1,.i x2,.i x3,.i x4,.i x5,.i x6]++[.i (D.a 68).int,.i (D.a 69).int]++D.bx) [.l fr]:=by
   rw[nC];have:=hE;simp only[List.map,qI,iv,DE.af,IE.af,q0,q1,q2,q3,q4,q5,q6,g0',g1',g2',g3',h2.ko 68 (by omega),h2.ko 69 (by omega),di]at this;exact this
 have h3:uc D vs es x y z out w i dn (e2.au 15986 [.l fr]):=h2.move hd fun k hk=>aF.aT (by omega);have q7':(e2.au 15986 [.l fr]) 7387 = .i x7:=by rw[aF.aT (by omega)];exact q7
 have qf:(e2.au 15986 [.l fr]) 15986 = .l fr:=rfl;obtain⟨e3,u9⟩:∃e3:aF,e3=e2.au 15986 [.l fr]:=⟨_,rfl⟩;rw[<- u9]at h3 q7' qf ⊢;refine pP (fun h0=>?_) (fun h0=>?_);simp only[IE.af,q7',di]at h0;subst h0;refine fC rfl fun _=>qt (M:=out++fr) (by simp only[ew.af,h3.out,qf,dl]) (DH (xy (h3.move hd fun k hk=>dQ (by omega)) (by simp[aF.set]) Yh (hG _ _ _ _ _ (.point hv cJ H' Qv))));simp only[IE.af,q7',di]at h0;exact Fp (hp (.KT hv cJ H' h0))
theorem aar(zo:yG D.E)(h:uc D vs es x y z out w i dn e)(hd:dn+2<5744)(hl:vs.length=2)(hF:∀vs,G vs->F' 18004 vs)
   (hp:Step D vs es [.i x,.i y,.i z] out w [.i x,.i y,.i z] out false->p 9) (hG:∀x' y' z' sI w',Step D vs es [.i x,.i y,.i z] out w [.i x',.i y',.i z'] sI w'->G [.i (i+1),.i x',.i y',.i z',.l sI,.b w']) :
   (aan dn).np (Sw 18) Uw D.E R [p] e F':=by
 have hv:=Qt hl;unfold aan;refine fC rfl fun _=>fC rfl fun _=>s_call (su rfl) fun rs hE=>?_;obtain⟨u0,r0,rfl,k0⟩:=ez (zo 71 _ _ _ aiV hE);obtain⟨u1,r1,rfl,k1⟩:=ez (k0);obtain⟨u2,r2,rfl,k2⟩:=ez (k1);obtain⟨u3,r3,rfl,k3⟩:=ez (k2);obtain⟨u4,r4,rfl,k4⟩:=ez (k3);obtain⟨u5,r5,rfl,k5⟩:=ez (k4);obtain⟨u6,r6,rfl,k6⟩:=ez (k5);obtain⟨u7,r7,rfl,k7⟩:=ez (k6);obtain⟨v0,r8,rfl,k8⟩:=ez (k7);obtain⟨v1,r9,rfl,k9⟩:=ez (k8);obtain⟨v2,r10,rfl,k10⟩:=ez (k9);obtain⟨v3,r11,rfl,k11⟩:=ez (k10);obtain⟨v4,r12,rfl,k12⟩:=ez (k11);obtain⟨v5,r13,rfl,k13⟩:=ez (k12);obtain⟨v6,r14,rfl,k14⟩:=ez (k13);obtain⟨v7,r15,rfl,k15⟩:=ez (k14);obtain⟨ok,r16,rfl,k16⟩:=adz (k15);obtain rfl:=jR k16;have hE1:D.E 71 (cells 8 (vs.getD 0 [])++cells 8 (vs.getD 1 [])++[.l D.fo]) ([.i u0,.i u1,.i u2,.i u3,.i u4,.i u5,.i u6,.i u7,.i v0,.i v1,.i v2,.i v3,.i v4,.i v5,.i v6,.i v7]++[.b ok]):=by
   have:=hE;simp only[List.map,DE.af,IE.af,h.fo,h.vs,dl,yJ,Qu]at this;exact this
 have h1:uc D vs es x y z out w i dn (e.au 8818 [.i u0,.i u1,.i u2,.i u3,.i u4,.i u5,.i u6,.i u7,.i v0,.i v1,.i v2,.i v3,.i v4,.i v5,.i v6,.i v7,.b ok]):=h.move hd fun k hk=>aF.aT (by omega);obtain⟨e1,mS⟩:∃e1:aF,e1=e.au 8818 [.i u0,.i u1,.i u2,.i u3,.i u4,.i u5,.i u6,.i u7,.i v0,.i v1,.i v2,.i v3,.i v4,.i v5,.i v6,.i v7,.b ok]:=⟨_,rfl⟩;have q:e1 8818 = .i u0/\e1 8819 = .i u1/\e1 8820 = .i u2/\e1 8821 = .i u3/\e1 8822 = .i u4/\e1 8823 = .i u5/\e1 8824 = .i u6/\e1 8825 = .i u7/\e1 8826 = .i v0/\e1 8827 = .i v1/\e1 8828 = .i v2/\e1 8829 = .i v3/\e1 8830 = .i v4/\e1 8831 = .i v5/\e1 8832 = .i v6/\e1 8833 = .i v7/\e1 8834 = .b ok:=by rw[mS];exact⟨rfl,rfl,rfl,rfl,rfl,rfl,rfl,rfl,rfl,rfl,rfl,rfl,rfl,rfl,rfl,rfl,rfl⟩
 obtain⟨q0,q1,q2,q3,q4,q5,q6,q7,q8,q9,q10,q11,q12,q13,q14,q15,q16⟩:=q;rw[<- mS]at h1 ⊢;refine Hj (fun iA=>?_) (fun iA=>?_);simp only[BE.af,q16,db]at iA;subst iA;exact DH (xy h1 h1.out hF (hG _ _ _ _ _ (.lineNo hv rfl hE1)));simp only[BE.af,q16,db]at iA;subst iA;have aas:D.E 71 (cells 8 (vs.getD 0 [])++cells 8 (vs.getD 1 [])++[.l D.fo]) (cells 8 [u0,u1,u2,u3,u4,u5,u6,u7]++cells 8 [v0,v1,v2,v3,v4,v5,v6,v7]++[.b true]):=hE1;refine s_call (su rfl) fun rs hEp=>?_;obtain⟨p0,r0,rfl,k0⟩:=ez (zo 108 _ _ _ KW hEp);obtain⟨p1,r1,rfl,k1⟩:=ez (k0);obtain⟨p2,r2,rfl,k2⟩:=ez (k1);obtain⟨p3,r3,rfl,k3⟩:=ez (k2);obtain⟨p4,r4,rfl,k4⟩:=ez (k3);obtain⟨p5,r5,rfl,k5⟩:=ez (k4);obtain⟨p6,r6,rfl,k6⟩:=ez (k5);obtain⟨p7,r7,rfl,k7⟩:=ez (k6);obtain rfl:=jR k7;have H':D.place [u0,u1,u2,u3,u4,u5,u6,u7] [.i p0,.i p1,.i p2,.i p3,.i p4,.i p5,.i p6] p7:=⟨rfl,by
   have:=hEp;simp only[List.map,qI,iv,DE.af,IE.af,q0,q1,q2,q3,q4,q5,q6,q7,di,h1.ko 10 (by omega),h1.ko 11 (by omega),h1.ko 12 (by omega),h1.ko 13 (by omega)]at this;exact this⟩
 have h2:uc D vs es x y z out w i dn (e1.au 13013 [.i p0,.i p1,.i p2,.i p3,.i p4,.i p5,.i p6,.i p7]):=h1.move hd fun k hk=>aF.aT (by omega);obtain⟨e2,sD⟩:∃e2:aF,e2=e1.au 13013 [.i p0,.i p1,.i p2,.i p3,.i p4,.i p5,.i p6,.i p7]:=⟨_,rfl⟩;have o2:∀k,k<13013->e2 k=e1 k:=fun k hk=>by rw[sD];exact aF.aT hk
 have s2:e2 13013 = .i p0/\e2 13014 = .i p1/\e2 13015 = .i p2/\e2 13016 = .i p3/\e2 13017 = .i p4/\e2 13018 = .i p5/\e2 13019 = .i p6/\e2 13020 = .i p7:=by rw[sD];exact⟨rfl,rfl,rfl,rfl,rfl,rfl,rfl,rfl⟩
 rw[<- sD]at h2 ⊢;refine s_call (su rfl) fun rs hEq=>?_;obtain⟨t0,r0,rfl,k0⟩:=ez (zo 108 _ _ _ KW hEq);obtain⟨t1,r1,rfl,k1⟩:=ez (k0);obtain⟨t2,r2,rfl,k2⟩:=ez (k1);obtain⟨t3,r3,rfl,k3⟩:=ez (k2);obtain⟨t4,r4,rfl,k4⟩:=ez (k3);obtain⟨t5,r5,rfl,k5⟩:=ez (k4);obtain⟨t6,r6,rfl,k6⟩:=ez (k5);obtain⟨t7,r7,rfl,k7⟩:=ez (k6);obtain rfl:=jR k7;have H9:D.place [v0,v1,v2,v3,v4,v5,v6,v7] [.i t0,.i t1,.i t2,.i t3,.i t4,.i t5,.i t6] t7:=⟨rfl,by
   have:=hEq;simp only[List.map,qI,iv,DE.af,IE.af,o2 8826 (by omega),o2 8827 (by omega),o2 8828 (by omega),o2 8829 (by omega),o2 8830 (by omega),o2 8831 (by omega),o2 8832 (by omega),o2 8833 (by omega),q8,q9,q10,q11,q12,q13,q14,q15,di,h2.ko 10 (by omega),h2.ko 11 (by omega),h2.ko 12 (by omega),h2.ko 13 (by omega)]at this;exact this⟩
 have h3:uc D vs es x y z out w i dn (e2.au 14549 [.i t0,.i t1,.i t2,.i t3,.i t4,.i t5,.i t6,.i t7]):=h2.move hd fun k hk=>aF.aT (by omega);obtain⟨e3,u9⟩:∃e3:aF,e3=e2.au 14549 [.i t0,.i t1,.i t2,.i t3,.i t4,.i t5,.i t6,.i t7]:=⟨_,rfl⟩;have o3:∀k,k<14549->e3 k=e2 k:=fun k hk=>by rw[u9];exact aF.aT hk
 have s3:e3 14549 = .i t0/\e3 14550 = .i t1/\e3 14551 = .i t2/\e3 14552 = .i t3/\e3 14553 = .i t4/\e3 14554 = .i t5/\e3 14555 = .i t6/\e3 14556 = .i t7:=by rw[u9];exact⟨rfl,rfl,rfl,rfl,rfl,rfl,rfl,rfl⟩
 rw[<- u9]at h3 ⊢;obtain⟨a0,a1,a2,a3,a4,a5,a6,a7⟩:=s2;obtain⟨b0,b1,b2,b3,b4,b5,b6,b7⟩:=s3;refine pP (fun hz=>?_) (fun hz=>?_);simp only[IE.af,b7,di]at hz;subst hz;refine pP (fun hz=>?_) (fun hz=>?_);simp only[IE.af,o3 13020 (by omega),a7,di]at hz;subst hz;refine s_call (su rfl) fun rs hEl=>?_;obtain⟨fr,r0,rfl,k0⟩:=Jo (zo 72 _ _ _ aiW hEl);obtain⟨d0,r1,rfl,k1⟩:=ez (k0);obtain⟨d1,r2,rfl,k2⟩:=ez (k1);obtain⟨d2,r3,rfl,k3⟩:=ez (k2);obtain rfl:=jR k3;obtain⟨c0,c1,c2,c3,hb,g0,g1,g2,g3⟩:=h3.bx;have ai2:D.E 72 ([.i p0,.i p1,.i p2,.i p3,.i p4,.i p5,.i p6]++[.i t0,.i t1,.i t2,.i t3,.i t4,.i t5,.i t6]++D.look++[.i x,.i y,.i z]++D.bx) (.l fr::[.i d0,.i d1,.i d2]):=by
   rw[hb];have:=hEl;simp only[List.map,qI,iv,DE.af,IE.af,BE.af,o3 13013 (by omega),o3 13014 (by omega),o3 13015 (by omega),o3 13016 (by omega),o3 13017 (by omega),o3 13018 (by omega),o3 13019 (by omega),a0,a1,a2,a3,a4,a5,a6,b0,b1,b2,b3,b4,b5,b6,g0,g1,g2,g3,h3.x,h3.y,h3.z,di,h3.ko 62 (by omega),h3.ko 63 (by omega),h3.ko 64 (by omega),h3.ko 65 (by omega),h3.ko 66 (by omega),h3.ko 67 (by omega),h3.ko 68 (by omega),h3.ko 69 (by omega),h3.ko 70 (by omega),h3.ko 71 (by omega),h3.ko 72 (by omega),h3.ko 73 (by omega),h3.ko 74 (by omega),h3.ko 75 (by omega),h3.ko 76 (by omega)]at this;exact this
 have eK:=hG d0 d1 d2 (out++fr) w (.line hv aas H' H9 rfl ai2);refine fC rfl fun _=>qt (M:=out++fr) (by simp only[ew.af,aF.aT (show 5222<23156 by omega),h3.out,dl];rfl) (DH (fC rfl fun _=>hF _ ?_));have hi:((e3.au 23156 [.l fr,.i d0,.i d1,.i d2]).set 25205 (.l (out++fr))) 5218 = .i i:=by rw[dQ (by omega),aF.aT (by omega)];exact h3.i
 have hw:((e3.au 23156 [.l fr,.i d0,.i d1,.i d2]).set 25205 (.l (out++fr))) 5223 = .b w:=by rw[dQ (by omega),aF.aT (by omega)];exact h3.w
 simp only[List.map,DE.af,IE.af,BE.af,hi,hw,di,db];exact eK;simp only[IE.af,o3 13020 (by omega),a7,di]at hz;exact Fp (hp (.Fx hv aas H' H9 (.inl hz)));simp only[IE.af,b7,di]at hz;exact Fp (hp (.Fx hv aas H' H9 (.inr hz)))
end
section
open Go.Sx
variable {D:yH}{vs es:List (List Int)}{x y z:Int}{out:List (List Int)}{w:Bool}{i:Int}{dn:Nat}{e:aF}{R:List DV->Prop}{F:Nat->List DV->Prop}{G:List DV->Prop}{p:Int->Prop}
theorem aat(zo:yG D.E)(h:uc D vs es x y z out w i dn e)(hd:dn+2<5744)(C6:vs.length≠1)(Ax:vs.length≠2)(ai3:es.length<=256)(F5:∀r∈es,0<=r.getD 0 0/\r.getD 0 0<=1){F':Nat->List DV->Prop}(hF:∀vs,G vs->F' 18004 vs)
   (hp:Step D vs es [.i x,.i y,.i z] out w [.i x,.i y,.i z] out false->p 9) (hG:∀x' y' z' sI w',Step D vs es [.i x,.i y,.i z] out w [.i x',.i y',.i z'] sI w'->G [.i (i+1),.i x',.i y',.i z',.l sI,.b w']) :
   (aao dn).np (Sw 18) Uw D.E R [p] e F':=by
 unfold aao;refine s_call ?_ fun rs hE=>?_;intro _;refine⟨vs,es,D.fo,?_,ai3,F5⟩;simp only[List.map,DE.af,h.vs,h.es,h.fo,dl];obtain⟨us,rs,rfl,k0⟩:=Jo (zo 73 _ _ _ aiX hE);obtain⟨on,rs,rfl,k1⟩:=Jo k0;obtain⟨ef,rs,rfl,k2⟩:=ez k1;obtain rfl:=jR k2;have Qv:D.E 73 [.l vs,.l es,.l D.fo] [.l us,.l on,.i ef]:=by
   have:=hE;simp only[List.map,DE.af,h.vs,h.es,h.fo,dl]at this;exact this
 have h1:uc D vs es x y z out w i dn (e.au 5744 [.l us,.l on,.i ef]):=h.move hd fun k hk=>aF.aT hk;obtain⟨e1,mS⟩:∃e1:aF,e1=e.au 5744 [.l us,.l on,.i ef]:=⟨_,rfl⟩;have q0:e1 5744 = .l us:=by rw[mS];rfl
 have q1:e1 5745 = .l on:=by rw[mS];rfl
 rw[<- mS]at h1 ⊢;refine pP (fun hz=>?_) (fun hz=>?_);simp only[IE.af,q0,dl]at hz;obtain rfl:us=[]:=List.length_eq_zero_iff.1 (by omega);exact DH (xy h1 h1.out hF (hG _ _ _ _ _ (.Qq C6 Ax Qv)));simp only[IE.af,q0,dl]at hz;have da:us≠[]:=fun h=>hz (by rw[h];rfl);refine fC rfl fun _=>fC rfl fun _=>qt (M:=List.replicate us.length [0,0,0,0,0,0,0]) (by simp only[ew.af,IE.af,q0,dl,pz]) ?_;refine Fo (fun ds=>∃(k:Nat) (ws:List (List Int)),ds=[.i k,.l ws,.l vs]/\k<=us.length/\ws.length=us.length/\(∀r∈ws,r.length=7)/\∀m,m<k->D.place (us.getD m []) (cells 7 (ws.getD m [])) 0)
   ⟨0,List.replicate us.length [0,0,0,0,0,0,0],by simp only[List.map,DE.af,IE.af,dQ (show 5743<5747 by omega),h1.vs,dl];rfl,by omega,by simp,fun r hr=>by rw[(List.mem_replicate.1 hr).2];rfl,fun m hm=>by omega⟩ ?_
 rintro _ ⟨k,ws,rfl,hk,hws,hw7,H'⟩;have h2:uc D vs es x y z out w i dn ((e1.set 5747 (.l (List.replicate us.length [0,0,0,0,0,0,0]))).au 5748 [.i k,.l ws,.l vs]):=h1.move hd fun j hj=>by rw[aF.aT (by omega),dQ (by omega)]
 have Yh:∀ys,G ys->kO F' 51004 (fun ds=>∃(k:Nat) (ws:List (List Int)),ds=[.i k,.l ws,.l vs]/\k<=us.length/\ws.length=us.length/\(∀r∈ws,r.length=7)/\∀m,m<k->D.place (us.getD m []) (cells 7 (ws.getD m [])) 0) 18004 ys:=fun ys hg=>by simpa[kO]using hF ys hg
 obtain⟨e2,sD⟩:∃e2:aF,e2=(e1.set 5747 (.l (List.replicate us.length [0,0,0,0,0,0,0]))).au 5748 [.i k,.l ws,.l vs]:=⟨_,rfl⟩;have r0:e2 5744 = .l us:=by rw[sD,aF.aT (by omega),dQ (by omega),q0]
 have r1:e2 5745 = .l on:=by rw[sD,aF.aT (by omega),dQ (by omega),q1]
 have r8:e2 5748 = .i k:=by rw[sD];rfl
 have r9:e2 5749 = .l ws:=by rw[sD];rfl
 have r10:e2 5750 = .l vs:=by rw[sD];rfl
 rw[<- sD]at h2 ⊢;refine xu (fun cM=>?_) (fun my=>?_);simp only[IE.af,r8,r0,di,dl]at cM;refine fC rfl fun _=>s_call (su rfl) fun rs hEp=>?_;obtain⟨p0,r0,rfl,k0⟩:=ez (zo 108 _ _ _ KW hEp);obtain⟨p1,r1,rfl,k1⟩:=ez (k0);obtain⟨p2,r2,rfl,k2⟩:=ez (k1);obtain⟨p3,r3,rfl,k3⟩:=ez (k2);obtain⟨p4,r4,rfl,k4⟩:=ez (k3);obtain⟨p5,r5,rfl,k5⟩:=ez (k4);obtain⟨p6,r6,rfl,k6⟩:=ez (k5);obtain⟨p7,r7,rfl,k7⟩:=ez (k6);obtain rfl:=jR k7;have hpk:D.place (us.getD k []) [.i p0,.i p1,.i p2,.i p3,.i p4,.i p5,.i p6] p7:=⟨rfl,by
   have:=hEp;simp only[List.map,DE.af,IE.af,r0,r8,di,dl,Bx,h2.ko 10 (by omega),h2.ko 11 (by omega),h2.ko 12 (by omega),h2.ko 13 (by omega)]at this;exact this⟩
 obtain⟨e3,u9⟩:∃e3:aF,e3=e2.au 8825 [.i p0,.i p1,.i p2,.i p3,.i p4,.i p5,.i p6,.i p7]:=⟨_,rfl⟩;have o3:∀j,j<8825->e3 j=e2 j:=fun j hj=>by rw[u9];exact aF.aT hj
 have s3:e3 8825 = .i p0/\e3 8826 = .i p1/\e3 8827 = .i p2/\e3 8828 = .i p3/\e3 8829 = .i p4/\e3 8830 = .i p5/\e3 8831 = .i p6/\e3 8832 = .i p7:=by rw[u9];exact⟨rfl,rfl,rfl,rfl,rfl,rfl,rfl,rfl⟩
 obtain⟨a0,a1,a2,a3,a4,a5,a6,a7⟩:=s3;rw[<- u9];refine pP (fun h0=>?_) (fun h0=>?_);simp only[IE.af,a7,di]at h0;subst h0;refine fC rfl fun _=>fC rfl fun _=>qt (M:=ws.modify k fun _=>[p0,p1,p2,p3,p4,p5,p6]) (by simp only[ew.af,IE.af,List.map,cg,o3 5749 (by omega),o3 5748 (by omega),r9,r8,a0,a1,a2,a3,a4,a5,a6,di,dl,pz]) ?_;refine fC rfl fun _=>Ae ⟨k+1,ws.modify k fun _=>[p0,p1,p2,p3,p4,p5,p6],?_,by omega,by simp[hws],aiS hw7 rfl,fun m hm=>?_⟩;simp only[List.map,DE.af,IE.af,dQ (show 5748<10874 by omega),dQ (show 5750<10874 by omega),o3 5748 (by omega),o3 5750 (by omega),r8,r10,di,dl];rfl;simp only[cm,List.getElem?_modify]at H' ⊢;by_cases hmk:k=m;subst hmk;have:ws[k]?=some ws[k]:=eN (by omega);simp only[this,if_true,s5,Option.getD_some];rw[<- List.getD_eq_getElem?_getD];exact hpk;simp only[hmk,if_false];have:=H' m (by omega);simpa using this;simp only[IE.af,a7,di]at h0;exact Fp (hp (.KU C6 Ax da Qv (by omega) hpk h0));simp only[IE.af,r8,r0,di,dl]at my;obtain rfl:k=us.length:=by omega
 obtain⟨b0,b1,b2,b3,hb,g0,g1,g2,g3⟩:=h2.bx;refine s_call (su rfl) fun rs hEd=>?_;obtain⟨fr,rs,rfl,k0⟩:=Jo (zo 74 _ _ _ aiY hEd);obtain rfl:=jR k0;have ai4:D.E 74 ([.l ws,.l on]++D.look++D.bx) [.l fr]:=by
   rw[hb];have:=hEd;simp only[List.map,qI,iv,DE.af,IE.af,BE.af,r9,r1,dl,g0,g1,g2,g3,di,h2.ko 62 (by omega),h2.ko 63 (by omega),h2.ko 64 (by omega),h2.ko 65 (by omega),h2.ko 66 (by omega),h2.ko 67 (by omega),h2.ko 68 (by omega),h2.ko 69 (by omega),h2.ko 70 (by omega),h2.ko 71 (by omega),h2.ko 72 (by omega),h2.ko 73 (by omega),h2.ko 74 (by omega),h2.ko 75 (by omega),h2.ko 76 (by omega)]at this;exact this
 have h3:uc D vs es x y z out w i dn (e2.au 11895 [.l fr]):=h2.move hd fun j hj=>aF.aT (by omega);refine fC rfl fun _=>qt (M:=out++fr) (by simp only[ew.af,h3.out,dl];rfl) (DH (xy (h3.move hd fun j hj=>dQ (by omega)) (by simp[aF.set]) Yh (hG _ _ _ _ _ (.adA C6 Ax da Qv hws hw7 H' ai4))))
end
section
open Go.Sx
variable{E V:List Int}
structure At0(D:yH)(L:List (List Int))(x y z:Int)(out:List (List Int))(w:Bool)(k:Nat)(dn:Nat)(e:aF):Prop where
 ko:∀k,k<1119->e k=D.a k
 bx:∃b0 b1 b2 b3,D.bx=[.i b0,.i b1,.i b2,.i b3]/\e 1119 = .i b0/\e 1120 = .i b1/\e 1121 = .i b2/\e 1122 = .i b3
 fo:e 2143 = .l D.fo
 rows:e 5216 = .l L
 i:e 5218 = .i k
 x:(e dn).int=x
 y:(e (dn+1)).int=y
 z:(e (dn+2)).int=z
 out:e 5222 = .l out
 w:e 5223 = .b w
 V:e 5224 = .l (fh (eU N6 (L.getD k []) 0))
 es:e 5225 = .l (flagsOf (L.getD k []))
theorem Ng{p:Int}:eU N6 (va V E p) 0=V:=by
 simp[eU,N6,qj,va]
theorem Nh{p:Int}:eU N6 (va V E p) 1=E:=by
 simp[eU,N6,qj,va]
theorem aau{p:Int}:(va V E p).getD 2 0=p:=rfl
variable {D:yH}{L:List (List Int)}{x y z:Int}{out:List (List Int)}{w:Bool}{k:Nat}{dn:Nat}{e:aF}{R:List DV->Prop}{F:Nat->List DV->Prop}{G:List DV->Prop}
theorem Hq(zo:yG D.E){m:Int}(h:At0 D L x y z out w k dn e)(hd:dn+2<5224)(hr:ud m (D.a 60).list.length (L.getD k [])){F':Nat->List DV->Prop}(hF:∀vs,G vs->F' 18004 vs)
   (hG:∀x' y' z' sI w',Step D (D.zw (L.getD k [])) (flagsOf (L.getD k [])) [.i x,.i y,.i z] out w [.i x',.i y',.i z'] sI w'->G [.i ((k:Int)+1),.i x',.i y',.i z',.l sI,.b w']) :
   (Fw dn).np (Sw 18) Uw D.E R [] e F':=by
 obtain⟨V,E,pr,bB,hV1,hV4,hV,hp0,Nf,ai5,hE2,hE3,_⟩:=hr;have eV:eU N6 (L.getD k []) 0=V:=by rw[bB,Ng]
 have eE:eU N6 (L.getD k []) 1=E:=by rw[bB,Nh]
 have eP:(L.getD k []).getD 2 0=pr:=by rw[bB,aau]
 have hV5:e 5224 = .l (fh V):=by rw[h.V,eV]
 unfold Fw;refine VA ?_;have aav:Step D (D.zw (L.getD k [])) (flagsOf (L.getD k [])) [.i x,.i y,.i z] out w [.i x,.i y,.i z] out false->
     (aA.ite (.not (.eq (.v 5229) (.c 0))) (.ev (.aH (r6 (.add (.v 5218) (.c 1)))) (.again 18004 [.i (.add (.v 5218) (.c 1)),.i (.v dn),.i (.v (dn+1)),.i (.v (dn+2)),.l 5222,.b (.c false)])) (.ev (.aH (r6 (.add (.v 5218) (.c 1)))) (.again 18004 [.i (.add (.v 5218) (.c 1)),.i (.v dn),.i (.v (dn+1)),.i (.v (dn+2)),.l 5222,.b (.v 5223)]))).np (Sw 18) Uw D.E R [] (e.set 5229 (.i 9)) F':=fun eK=>by
   refine Hj (fun _=>fC rfl fun _=>hF _ ?_) (fun hc=>?_);have:=hG x y z out false eK;simp only[List.map,DE.af,IE.af,BE.af,dQ (show 5218<5229 by omega),dQ (show dn<5229 by omega),dQ (show dn+1<5229 by omega),dQ (show dn+2<5229 by omega),dQ (show 5222<5229 by omega),h.i,h.x,h.y,h.z,h.out,di,dl];exact this;simp[BE.af,IE.af,aF.set,di]at hc
 refine fC rfl fun _=>fC rfl fun _=>qt (M:=List.replicate V.length [0,0,0,0,0,0,0,0]) (by simp only[ew.af,IE.af,hV5,dl,dW,pz]) ?_;refine Fo (fun ds=>∃(j:Nat) (xs:List (List Int)),ds=[.i j,.l xs]/\j<=V.length/\xs.length=V.length/\∀m,m<j->xs.getD m []=om (D.a 60).list (D.a 77).bool pr (V.getD m 0))
   ⟨0,List.replicate V.length [0,0,0,0,0,0,0,0],rfl,by omega,by simp,fun m hm=>by omega⟩ ?_
 rintro _ ⟨j,xs,rfl,hj,qA,Hr⟩;have Yh:∀us,G us->kO F' 33003 (fun ds=>∃(j:Nat) (xs:List (List Int)),ds=[.i j,.l xs]/\j<=V.length/\xs.length=V.length/\∀m,m<j->xs.getD m []=om (D.a 60).list (D.a 77).bool pr (V.getD m 0)) 18004 us:=fun us hg=>by simpa[kO]using hF us hg
 obtain⟨e1,mS⟩:∃e1:aF,e1=(e.set 5741 (.l (List.replicate V.length [0,0,0,0,0,0,0,0]))).au 5742 [.i j,.l xs]:=⟨_,rfl⟩;have o1:∀j,j<5741->e1 j=e j:=fun j hj=>by rw[mS,aF.aT (by omega),dQ (by omega)]
 have g2:e1 5742 = .i j:=by rw[mS];rfl
 have g3:e1 5743 = .l xs:=by rw[mS];rfl
 have a60:e1 60=D.a 60:=by rw[o1 60 (by omega),h.ko 60 (by omega)]
 have a77:e1 77=D.a 77:=by rw[o1 77 (by omega),h.ko 77 (by omega)]
 have aV:e1 5224 = .l (fh V):=by rw[o1 5224 (by omega),hV5]
 have aL:e1 5216 = .l L:=by rw[o1 5216 (by omega),h.rows]
 have ai:e1 5218 = .i k:=by rw[o1 5218 (by omega),h.i]
 rw[<- mS];refine xu (fun cM=>?_) (fun my=>?_);simp only[IE.af,g2,aV,di,dl,dW]at cM;have hg:cellAt (fh V) (j:Int) 0=V.getD j 0:=by rw[By (by omega) cM,pz]
 have hm:=hV _ (Bz (l:=V) (i:=j) (by omega));have hP:cellAt L (k:Int) 2=pr:=by rw[Bx,eP]
 refine fC rfl fun _=>Fm (ja (by simp only[IE.af,g2,aV,di,dl,hg];exact hm.1)) (Fm (ja (by simp only[IE.af,g2,aV,a60,di,dl,hg];exact hm.2)) (fC rfl fun _=>?_));refine qt (M:=xs.modify j fun _=>[cellAt (D.a 60).list (V.getD j 0) 0,cellAt (D.a 60).list (V.getD j 0) 1,cellAt (D.a 60).list (V.getD j 0) 2,cellAt (D.a 60).list (V.getD j 0) 3,cellAt (D.a 60).list (V.getD j 0) 4,cellAt (D.a 60).list (V.getD j 0) 5,cellAt (D.a 60).list (V.getD j 0) 6,cellAt (D.a 60).list (V.getD j 0) 7]) (by simp only[ew.af,IE.af,List.map,cg,g2,g3,aV,a60,di,dl,hg,pz]) ?_;refine KK (fun Ua=>?_) (fun Ua=>?_);simp only[BE.af,dQ (show 77<5744 by omega),a77]at Ua;refine Fm (ja (by simp only[IE.af,dQ (show 5216<5744 by omega),dQ (show 5218<5744 by omega),aL,ai,di,dl,hP];exact hp0)) (Fm (ja (by simp only[IE.af,dQ (show 5216<5744 by omega),dQ (show 5218<5744 by omega),dQ (show 60<5744 by omega),aL,ai,a60,di,dl,hP];exact Nf)) (fC rfl fun _=>fC rfl fun _=>?_));refine qt (M:=xs.modify j fun _=>om (D.a 60).list (D.a 77).bool pr (V.getD j 0)) ?_ (fC rfl fun _=>Ae ⟨j+1,xs.modify j fun _=>om (D.a 60).list (D.a 77).bool pr (V.getD j 0),?_,by omega,by simp[qA],fun m hm=>?_⟩);simp only[ew.af,IE.af,List.map,cg,dQ (show 5742<5744 by omega),dQ (show 5216<5744 by omega),dQ (show 5218<5744 by omega),dQ (show 60<5744 by omega),g2,aL,ai,a60,di,dl,hP,pz];simp only[aF.set,if_true,dl,Ua];refine List.ext_getElem? fun q=>?_;simp only[List.getElem?_modify];by_cases hq:j=q;subst hq;have hxj:xs[j]?=some xs[j]:=eN (by omega);simp only[if_true,List.getElem?_modify,hxj,s5];simp[om,j4,mW,cellAt];simp[hq];simp only[List.map,DE.af,IE.af,dQ (show 5742<12913 by omega),dQ (show 5742<5744 by omega),g2,di];simp only[aF.set,if_true,dl];rfl;simp only[cm,List.getElem?_modify]at Hr ⊢;by_cases hq:j=m;subst hq;have:xs[j]?=some xs[j]:=eN (by omega);simp[this];simp only[hq,if_false];have:=Hr m (by omega);simpa using this;simp only[BE.af,dQ (show 77<5744 by omega),a77]at Ua;refine fC rfl fun _=>Ae ⟨j+1,xs.modify j fun _=>om (D.a 60).list (D.a 77).bool pr (V.getD j 0),?_,by omega,?_,fun m hm=>?_⟩;simp only[List.map,DE.af,IE.af,dQ (show 5742<5744 by omega),g2,di,Ua];simp only[aF.set,if_true,dl];rfl;simp[qA];simp only[cm,List.getElem?_modify]at Hr ⊢;by_cases hq:j=m;subst hq;have:xs[j]?=some xs[j]:=eN (by omega);simp[this];simp only[hq,if_false];have:=Hr m (by omega);simpa using this;simp only[IE.af,g2,aV,di,dl,dW]at my;obtain rfl:j=V.length:=by omega
 have hx:xs=D.zw (L.getD k []):=by
   unfold yH.zw;rw[eV,eP];refine List.ext_getElem (by simp[qA]) fun q Io vN=>?_;have:=Hr q (by omega);rw[List.getElem_map];simpa[List.getD,Io,show q<V.length by omega]using this
 subst hx;obtain⟨b0,b1,b2,b3,hb,c1,c2,c3,c4⟩:=h.bx;have hA:uc D (D.zw (L.getD k [])) (flagsOf (L.getD k [])) x y z out w k dn e1:=⟨fun q hq=>by rw[o1 q (by omega),h.ko q hq],⟨b0,b1,b2,b3,hb,by rw[o1 _ (by omega),c1],by rw[o1 _ (by omega),c2],by rw[o1 _ (by omega),c3],by rw[o1 _ (by omega),c4]⟩,
   by rw[o1 _ (by omega),h.fo],ai,by rw[o1 _ (by omega),h.x],by rw[o1 _ (by omega),h.y],by rw[o1 _ (by omega),h.z],by rw[o1 _ (by omega),h.out],by rw[o1 _ (by omega),h.w],by rw[o1 _ (by omega),h.es],g3⟩
 unfold ady;refine pP (fun hl=>?_) (fun hl=>?_);simp only[IE.af,g3,dl]at hl;exact aaq zo hA (by omega) (by omega) Yh aav hG;simp only[IE.af,g3,dl]at hl;refine pP (fun Ax=>?_) (fun Ax=>?_);simp only[IE.af,g3,dl]at Ax;exact aar zo hA (by omega) (by omega) Yh aav hG;simp only[IE.af,g3,dl]at Ax;refine aat zo hA (by omega) (by omega) (by omega) ?_ ?_ Yh aav hG;unfold flagsOf;rw[eE,dW];rcases oH V.length 3 with h3|h3;rw[hE2 h3];simp;rw[hE3 h3];omega;intro r hr;unfold flagsOf at hr;rw[eE]at hr;obtain⟨u,hu,rfl⟩:=jz.1 hr;rcases ai5 u hu with rfl|rfl<;>simp
def Qw(D:yH)(L:List (List Int))(vs:List DV):Prop:=∃(k:Nat) (x y z:Int) (out:List (List Int)) (w:Bool),vs=[.i k,.i x,.i y,.i z,.l out,.b w]/\k<=L.length/\D.runs L k [.i x,.i y,.i z] out w
theorem adB{E:Nat->List DV->List DV->Prop}(zo:yG E)(h30:∀ds rs,Qx ds->E 30 ds rs->Hs ds rs){ds:List DV}(Yi:(a8.au 0 ds 61).list.length<=256)(h60:(a8.au 0 ds 60).list.length=(a8.au 0 ds 61).list.length) :
   t18.np (Sw 18) Uw E (KV E ds) [] (a8.au 0 ds) (fun _ _=>True):=by
 obtain⟨a,ha⟩:∃a:aF,a=a8.au 0 ds:=⟨_,rfl⟩;rw[<- ha]at Yi h60;unfold t18;rw[<- ha];refine s_call (su rfl) fun rs adC=>?_;obtain⟨b0,rs,rfl,k0⟩:=ez (zo 28 _ _ _ aiZ adC);obtain⟨b1,rs,rfl,k1⟩:=ez k0;obtain⟨b2,rs,rfl,k2⟩:=ez k1;obtain⟨b3,rs,rfl,k3⟩:=ez k2;obtain rfl:=jR k3;refine s_call (su rfl) fun rs adD=>?_;obtain⟨S,rs,rfl,k0⟩:=Jo (zo 29 _ _ _ ai0 adD);obtain rfl:=jR k0;refine s_call (su rfl) fun rs adE=>?_;obtain⟨L,rs,rfl,k0⟩:=aiR (zo 30 _ _ _ ai1 adE);obtain⟨ee,rs,rfl,k1⟩:=ez k0;obtain rfl:=jR k1;have adF:E 28 (yI.map (DE.af a)) [.i b0,.i b1,.i b2,.i b3]:=adC;have adG:E 29 (yI.map (DE.af a)) [.l S]:=by
   refine Eq.mp (congrArg (fun q=>E 29 q [.l S]) ?_) adD;refine zF fun d hd=>?_;exact(DE.av (p:=fun k=>decide (k<1119)) (fun k hk=>(aF.aT (by simpa using hk)).symm) (mE.1 (show yI.all (DE.all fun k=>decide (k<1119))=true by kernel_rfl) d hd)).symm
 have o3:∀k,k<1119->(((a.au 1119 [.i b0,.i b1,.i b2,.i b3]).au 2143 [.l S]).au 5216 [.l L,.i ee]) k=a k:=fun k hk=>by rw[aF.aT (by omega),aF.aT (by omega),aF.aT (by omega)]
 have Yj:E 30 [.i (a 59).int,.l (a 61).list,.b (a 78).bool] [.l L,.i ee]:=adE;obtain⟨hL,Qy⟩:L.length<=256/\∀r∈L,ud (a 59).int (a 61).list.length r:=by
   obtain⟨L',e',hq,h1,_,h2⟩:=h30 _ _ ⟨_,_,_,rfl,Yi⟩ Yj;cases hq;exact⟨h1,h2 _ _ _ rfl⟩
 refine Fo (Qw ⟨E,a,[.i b0,.i b1,.i b2,.i b3],S⟩ L)
   ⟨0,(a 65).int,(a 66).int,(a 67).int,[],true,?_,by omega,rfl,rfl,rfl⟩ ?_
 simp only[List.map,DE.af,IE.af,BE.af,o3 65 (by omega),o3 66 (by omega),o3 67 (by omega)];rfl;rintro _ ⟨k,x,y,z,out,w,rfl,hk,Qz⟩;obtain⟨e1,mS⟩:∃e1:aF,e1=(((a.au 1119 [.i b0,.i b1,.i b2,.i b3]).au 2143 [.l S]).au 5216 [.l L,.i ee]).au 5218 [.i k,.i x,.i y,.i z,.l out,.b w]:=⟨_,rfl⟩;have o1:∀j,j<1119->e1 j=a j:=fun j hj=>by rw[mS,aF.aT (by omega),o3 j hj]
 have g:e1 1119 = .i b0/\e1 1120 = .i b1/\e1 1121 = .i b2/\e1 1122 = .i b3/\e1 2143 = .l S/\e1 5216 = .l L/\e1 5218 = .i k/\e1 5219 = .i x/\e1 5220 = .i y/\e1 5221 = .i z/\e1 5222 = .l out/\e1 5223 = .b w:=by rw[mS];exact⟨rfl,rfl,rfl,rfl,rfl,rfl,rfl,rfl,rfl,rfl,rfl,rfl⟩
 obtain⟨g0,g1,g2,g3,gS,gL,gi,gx,gy,gz,go,gw⟩:=g;rw[<- mS];refine xu (fun cM=>?_) (fun my=>?_);simp only[IE.af,gi,gL,di,dl]at cM;have hpk:=Qy _ (DL (l:=L) (k:=k) (by omega));rw[<- h60]at hpk;refine fC rfl fun _=>qt (M:=fh (eU N6 (L.getD k []) 0)) (by simp only[ew.af,IE.af,gi,gL,di,dl,pz];rfl) (qt (M:=flagsOf (L.getD k [])) (by simp only[ew.af,IE.af,dQ (show 5218<5224 by omega),dQ (show 5216<5224 by omega),gi,gL,di,dl,pz];rfl) ?_);obtain⟨e2,sD⟩:∃e2:aF,e2=(e1.set 5224 (.l (fh (eU N6 (L.getD k []) 0)))).set 5225 (.l (flagsOf (L.getD k []))):=⟨_,rfl⟩;have o2:∀j,j<5224->e2 j=e1 j:=fun j hj=>by rw[sD,dQ (by omega),dQ (by omega)]
 have v4:e2 5224 = .l (fh (eU N6 (L.getD k []) 0)):=by rw[sD];rfl
 have v5:e2 5225 = .l (flagsOf (L.getD k [])):=by rw[sD];rfl
 rw[<- sD];have hA:∀dn x y z,(e2 dn).int=x->(e2 (dn+1)).int=y->(e2 (dn+2)).int=z->At0 ⟨E,a,[.i b0,.i b1,.i b2,.i b3],S⟩ L x y z out w k dn e2:=fun dn x y z hx hy hz=>
   ⟨fun j hj=>by rw[o2 j (by omega),o1 j hj],⟨b0,b1,b2,b3,rfl,by rw[o2 _ (by omega),g0],by rw[o2 _ (by omega),g1],by rw[o2 _ (by omega),g2],by rw[o2 _ (by omega),g3]⟩,by rw[o2 _ (by omega),gS],by rw[o2 _ (by omega),gL],by rw[o2 _ (by omega),gi],hx,hy,hz,by rw[o2 _ (by omega),go],by rw[o2 _ (by omega),gw],v4,v5⟩
 refine pP (fun hm=>?_) (fun hm=>?_);simp only[IE.af,o2 59 (by omega),o1 59 (by omega)]at hm;refine Hq (D:=⟨E,a,[.i b0,.i b1,.i b2,.i b3],S⟩) zo (hA 65 (a 65).int (a 66).int (a 67).int (by rw[o2 _ (by omega),o1 _ (by omega)]) (by rw[o2 _ (by omega),o1 _ (by omega)]) (by rw[o2 _ (by omega),o1 _ (by omega)])) (by omega) hpk (G:=Qw ⟨E,a,[.i b0,.i b1,.i b2,.i b3],S⟩ L) (fun vs hv=>by simpa[kO]using hv) ?_;intro x' y' z' sI w' eK;exact⟨k+1,x',y',z',sI,w',rfl,by omega,_,out,w,Qz,by rw[if_pos hm];exact eK⟩;simp only[IE.af,o2 59 (by omega),o1 59 (by omega)]at hm;refine Hq (D:=⟨E,a,[.i b0,.i b1,.i b2,.i b3],S⟩) zo (hA 5219 x y z (by rw[o2 _ (by omega),gx];rfl) (by rw[o2 _ (by omega),gy];rfl) (by rw[o2 _ (by omega),gz];rfl)) (by omega) hpk (G:=Qw ⟨E,a,[.i b0,.i b1,.i b2,.i b3],S⟩ L) (fun vs hv=>by simpa[kO]using hv) ?_;intro x' y' z' sI w' eK;exact⟨k+1,x',y',z',sI,w',rfl,by omega,_,out,w,Qz,by rw[if_neg hm];exact eK⟩;simp only[IE.af,gi,gL,di,dl]at my;obtain rfl:k=L.length:=by omega
 refine adb (rs:=[.l out,.b w]) (by simp only[List.map,DE.af,BE.af,go,gw,dl,db]) ⟨[.i b0,.i b1,.i b2,.i b3],S,L,ee,[.i x,.i y,.i z],out,w,rfl,?_,?_,?_,?_,rfl⟩;rw[<- ha];exact adF;rw[<- ha];exact adG;rw[<- ha];exact Yj;rw[<- ha];exact Qz
end
section
open Go.Sx Go
variable{X:bY}
structure HC(X:bY):Prop where
 kd:∀k s ds rs,lD k=some s->cX (TT PP) X k ds rs->kinds (bP s.res) rs=true
 no:∀ds,X 999999 ds=none
theorem afv:(rowOf 18).sub=[(104106,999999),(104150,999999),(205245,999999)]:=by kernel_rfl
theorem no9:TT PP 999999=none:=by kernel_rfl
abbrev JJ:iU:=⟨18,t18,(rowOf 18).sub⟩
theorem afw(g:FuncId):JJ.key g=g\/JJ.key g=999999:=by
 show(match(rowOf 18).sub.find? (fun p=>p.1==g)with
   |some p=>p.2
   |none=>g)=g\/(match(rowOf 18).sub.find? (fun p=>p.1==g)with
   |some p=>p.2
   |none=>g)=999999
 rw[afv];by_cases h1:(104106==g)=true;exact Or.inr (by simp[h1]);by_cases h2:(104150==g)=true;exact Or.inr (by simp[h1,h2]);by_cases h3:(205245==g)=true;exact Or.inr (by simp[h1,h2,h3]);exact Or.inl (by simp[h1,h2,h3])
theorem HP(h:∀ds,X 999999 ds=none){ds rs:List DV}(hg:cX (TT PP) X 999999 ds rs):False:=by
 obtain⟨n,hn⟩:=hg;cases n with
 |zero=>cases hn
 | succ n=>
   simp only[ev,no9,h]at hn;cases hn
theorem RC(h:HC X):yG (fun g=>cX (TT PP) X (JJ.key g)):=fun k s ds rs hs hg=>by
 have hg:cX (TT PP) X (JJ.key k) ds rs:=hg;rcases afw k with e|e;rw[e]at hg;exact h.kd k s ds rs hs hg;rw[e]at hg;exact(HP h.no hg).elim
theorem Jz:(kc 18).args[61]?=some (.l 0 (some 256) [(0,1)]):=by kernel_rfl
theorem afx:((kc 18).pre.any fun p=>p.beq (.eq (.len 60) (.len 61)))=true:=by kernel_rfl
theorem afy:Nat.ble (kc 18).args.length R0=true:=by kernel_rfl
theorem amz:kc 73=⟨[.l 0 (some 1099511627776) (List.replicate 8 (mn,mx)),.l 0 (some 1099511627776) [(0,1)],.l 0 (some 1099511627776) (List.replicate 5 (mn,mx))],[],[.l 0 (some 131072) (List.replicate 8 (mn,mx)),.l 0 (some 131072) [(0,1)],.i mn mx],[.eq (.len (R0+1)) (.len R0)]⟩:=by kernel_rfl
theorem abp:VR 18 73 (kc 73)=⟨[.l 0 (some 1099511627776) (List.replicate 8 (mn,mx)),.t,.l 0 (some 1099511627776) (List.replicate 5 (mn,mx))],[],[.l 0 (some 131072) (List.replicate 8 (mn,mx)),.l 0 (some 131072) [(0,1)],.i mn mx],[.eq (.len (R0+1)) (.len R0)]⟩:=by kernel_rfl
theorem WU{j:Nat}(h:j≠73)(c:Cn):VR 18 j c=c:=by
 unfold VR;simp[h]
theorem wy{al:List A}{i b:Nat}{a:A}(h:al[i]?=some a):(b+i,a)∈oU b al:=by
 induction al generalizing i b with
 |nil=>cases h
 | cons x al ih=>
   cases i with
   |zero=>cases h;exact aZ ..
   | succ i=>
     refine bI _ ?_;have:=ih (i:=i) (b:=b+1) h;rwa[Nat.add_right_comm,Nat.add_assoc]at this
theorem tU{lo hi:Int}{cs:List (Int×Int)}{d:DV}(h:A.has (.l lo (some hi) cs) d):(d.list.length:Int)<=hi:=by
 cases d<;>first|exact h.elim|exact h.2.1 _ rfl
theorem NC(hG:nj (TT PP) X kc (ord.take 125)):∀j c,Kw 18 125 j=some c->P6 (TT PP) X Uw j c:=fun j c hc=>by
 unfold Kw at hc;split at hc;rename_i c' xh;have iA:=Je hG j c' xh;have hk:c'=kc j:=by
   unfold Vw at xh;split at xh;cases xh;rfl;cases xh
 subst hk;cases hc;by_cases h:j=73;subst h;intro ds hp;rw[abp]at hp ⊢;rw[amz]at iA;refine⟨fun hh=>?_,fun _=>⟨[.l [],.l [],.i 0],?_⟩⟩;obtain⟨V,Fl,S,rfl,h1,h2⟩:=hh rfl;obtain⟨⟨a1,_,a3,_⟩,_⟩:=hp;exact iA [.l V,.l Fl,.l S] ⟨⟨a1,⟨by omega,fun y hy=>by cases hy;omega,fun r hr=>⟨h2 r hr,trivial⟩⟩,a3,trivial⟩,fun p hp=>by cases hp⟩;refine⟨⟨⟨by decide,fun y hy=>by cases hy;decide,fun r hr=>by cases hr⟩,⟨by decide,fun y hy=>by cases hy;decide,fun r hr=>by cases hr⟩,⟨by decide,by decide⟩,trivial⟩,fun p hp=>?_⟩;obtain rfl:p = .eq (.len (R0+1)) (.len R0):=by simpa using hp
 have q0:gD ds [.l [],.l [],.i 0] R0 = .l []:=ny (e:=a8.au 0 ds) (b:=R0) (j:=0) (ds:=[.l [],.l [],.i 0]) (by decide);have q1:gD ds [.l [],.l [],.i 0] (R0+1) = .l []:=ny (e:=a8.au 0 ds) (b:=R0) (j:=1) (ds:=[.l [],.l [],.i 0]) (by decide);simp[BE.af,IE.af,q0,q1];rw[WU h];intro ds hp;obtain⟨rs,g,q⟩:=iA ds hp;exact⟨fun _=>⟨rs,g,q⟩,fun _=>⟨rs,q⟩⟩;cases hc
theorem g18(hX:HC X)(hG:nj (TT PP) X kc (ord.take 125)):ng (TT PP) X 18 (kc 18).il (fun ds rs=>(kc 18).iK ds rs/\KV (fun g=>cX (TT PP) X (JJ.key g)) ds rs):=by
 refine M5 (H:=Uw) (R:=KV (fun g=>cX (TT PP) X (JJ.key g))) T18 (NC hG) (aB 18) afy c18 fun ds hp=>?_;have Yi:((a8.au 0 ds 61).list.length:Int)<=256:=tU (ml (ae:=a8) (base:=0) hp.1 _ (wy (b:=0) Jz));have h60:(a8.au 0 ds 60).list.length=(a8.au 0 ds 61).list.length:=by
   have:=afx;rw[la]at this;obtain⟨p,h1,h2⟩:=this;have e:=hp.2 p h1;rw[BE.beq_eq h2]at e;have e:((a8.au 0 ds 60).list.length:Int)=(a8.au 0 ds 61).list.length:=jY e;omega
 refine adB (RC hX) (fun ds rs hp hg=>?_) (by omega) h60;obtain⟨fw,g',h'⟩:=Ys (X:=X) ds hp;cases cX.Ut (show cX (TT PP) X 30 ds rs from hg) g';exact h'
theorem aji(hX:HC X):RB PP X 125 18:=fun hG=>ng.weaken (g18 hX hG) (fun _ h=>h) fun _ _ _ h=>h.1
end
end Go.Proofs.YtohebioanhliiaaGreatDoor.aN

/- Emit: what it gives. -/
import Derived.Test.YtohebioanhliiaaGreatDoorKE1
import Derived.Test.YtohebioanhliiaaGreatDoorKC2
set_option maxRecDepth 100000
set_option linter.unusedVariables false
set_option linter.unusedSimpArgs false
namespace Go.Proofs.YtohebioanhliiaaGreatDoor.aD
open Go.Sx
theorem dz{k:IntKind}{ks:List CT}{rs:List DV}(h:kinds (.c (.i k)::ks) rs=true):∃x dW,rs = .i x::dW/\kinds ks dW=true:=by
 match rs,h with
 |.i x::rs,h=>exact⟨x,rs,rfl,(Bool.and_eq_true_iff.1 h).2⟩
theorem aa0{ks:List CT}{rs:List DV}(h:kinds (.c .b::ks) rs=true):∃x dW,rs = .b x::dW/\kinds ks dW=true:=by
 match rs,h with
 |.b x::rs,h=>exact⟨x,rs,rfl,(Bool.and_eq_true_iff.1 h).2⟩
theorem F5{e:TypeId}{cs:List CK}{ks:List CT}{rs:List DV}(h:kinds (.s e cs::ks) rs=true):∃x dW,rs = .l x::dW/\kinds ks dW=true:=by
 match rs,h with
 |.l x::rs,h=>exact⟨x,rs,rfl,(Bool.and_eq_true_iff.1 h).2⟩
theorem agX{e:TypeId}{cs:List NK}{ks:List CT}{rs:List DV}(h:kinds (.n e cs::ks) rs=true):∃x dW,rs = .l x::dW/\kinds ks dW=true:=by
 match rs,h with
 |.l x::rs,h=>exact⟨x,rs,rfl,(Bool.and_eq_true_iff.1 h).2⟩
theorem iF{rs:List DV}(h:kinds [] rs=true):rs=[]:=by
 match rs,h with
 | [],_=>rfl
def vo(E:Nat->List DV->List DV->Prop):Prop:=∀k s ds rs,iD k=some s->E k ds rs->kinds (bD s.res) rs=true
theorem agY{ws:List (List Int)}{k:Nat}{row:List Int}(h:∀r∈ws,r.length=7)(hr:row.length=7):∀r∈ws.modify k (fun _=>row),r.length=7:=by
 intro r hm;obtain⟨i,hi⟩:=List.mem_iff_getElem?.1 hm;rw[List.getElem?_modify]at hi;cases hw:ws[i]? with
 |none=>rw[hw]at hi;cases hi
 | some x=>
   rw[hw]at hi;have hx:=h x (List.mem_iff_getElem?.2 ⟨i,hw⟩);have hi:some (if k=i then row else x)=some r:=hi
   injection hi with hi;by_cases e:k=i
   . rw[if_pos e]at hi;rw[<- hi];exact hr
   . rw[if_neg e]at hi;rw[<- hi];exact hx
def cells(n:Nat)(r:List Int):List DV:=(List.range n).map fun j=>.i (r.getD j 0)
structure sf where
 E:Nat->List DV->List DV->Prop
 a:az
 bx:List DV
 cX:List (List Int)
def sf.port(D:sf):List DV:=[.i (D.a 10).int,.i (D.a 11).int,.i (D.a 12).int,.i (D.a 13).int]
def sf.look(D:sf):List DV:=[.i (D.a 62).int,.b (D.a 63).bool,.b (D.a 64).bool,.i (D.a 65).int,.i (D.a 66).int,.i (D.a 67).int,.i (D.a 68).int,.i (D.a 69).int,.i (D.a 70).int,.i (D.a 71).int,.b (D.a 72).bool,.i (D.a 73).int,.b (D.a 74).bool,.i (D.a 75).int,.i (D.a 76).int]
def sf.dash(D:sf):List DV:=[.i (D.a 65).int,.i (D.a 66).int,.i (D.a 67).int]
def sf.place(D:sf)(v:List Int)(p:List DV)(e:Int):Prop:=p.length=7/\D.E 108 (cells 8 v++D.port) (p++[.i e])
inductive Step (D:sf) (vs es:List (List Int)) (d:List DV) (out:List (List Int)) (w:Bool):List DV->List (List Int)->Bool->Prop
 |hidden {v s:List Int} {x:Int}:vs=[v]->s∈D.cX->D.E 67 (cells 5 s++cells 8 v) [.i x]->x<0->Step D vs es d out w d out w
 |HB {v:List Int} {p:List DV} {e:Int}:vs=[v]->(∀s∈D.cX,∃x,D.E 67 (cells 5 s++cells 8 v) [.i x]/\0<=x)->D.place v p e->e≠0->Step D vs es d out w d out false
 |point {v:List Int} {p:List DV} {fr:List (List Int)}:vs=[v]->(∀s∈D.cX,∃x,D.E 67 (cells 5 s++cells 8 v) [.i x]/\0<=x)->D.place v p 0->D.E 69 (p++[.i (D.a 68).int,.i (D.a 69).int]++D.bx) [.l fr]->Step D vs es d out w d (out++fr) w
 |lineNo {u v:List Int} {t:List DV}:vs=[u,v]->t.length=16->D.E 71 (cells 8 u++cells 8 v++[.l D.cX]) (t++[.b false])->Step D vs es d out w d out w
 |Ct {u v u' v':List Int} {p q:List DV} {e f:Int}:vs=[u,v]->D.E 71 (cells 8 u++cells 8 v++[.l D.cX]) (cells 8 u'++cells 8 v'++[.b true])->D.place u' p e->D.place v' q f->(e≠0\/f≠0)->Step D vs es d out w d out false
 |line {u v u' v':List Int} {p q d':List DV} {fr:List (List Int)}:vs=[u,v]->D.E 71 (cells 8 u++cells 8 v++[.l D.cX]) (cells 8 u'++cells 8 v'++[.b true])->D.place u' p 0->D.place v' q 0->d'.length=3->D.E 72 (p++q++D.look++d++D.bx) (.l fr::d')->Step D vs es d out w d' (out++fr) w
 |MY {on:List (List Int)} {e:Int}:vs.length≠1->vs.length≠2->D.E 73 [.l vs,.l es,.l D.cX] [.l [],.l on,.i e]->Step D vs es d out w d out w
 |HC {us on:List (List Int)} {e f:Int} {k:Nat} {p:List DV}:vs.length≠1->vs.length≠2->us≠[]->D.E 73 [.l vs,.l es,.l D.cX] [.l us,.l on,.i e]->k<us.length->D.place (us.getD k []) p f->f≠0->Step D vs es d out w d out false
 |aa2 {us on ws fr:List (List Int)} {e:Int}:vs.length≠1->vs.length≠2->us≠[]->D.E 73 [.l vs,.l es,.l D.cX] [.l us,.l on,.i e]->ws.length=us.length->(∀r∈ws,r.length=7)->(∀k,k<us.length->D.place (us.getD k []) (cells 7 (ws.getD k [])) 0)->D.E 74 ([.l ws,.l on]++D.look++D.bx) [.l fr]->Step D vs es d out w d (out++fr) w
def pn(V:List (List Int))(flat:Bool)(p n:Int):List Int:=
 let v:=V.getD n.toNat []
 let c:=if flat then V.getD p.toNat []else v
 [v.getD 0 0,v.getD 1 0,v.getD 2 0,v.getD 3 0,c.getD 4 0,c.getD 5 0,c.getD 6 0,c.getD 7 0]
def Ku:List NK:=[.s 3 i6,.s 4 .b,.c i6]
def sf.je(D:sf)(r:List Int):List (List Int):=(dK Ku r 0).map (pn (D.a 60).list (D.a 77).bool (r.getD 2 0))
def flagsOf(r:List Int):List (List Int):=dZ (dK Ku r 1)
def sf.runs(D:sf)(L:List (List Int)):Nat->List DV->List (List Int)->Bool->Prop
 |0,d,out,w=>d=D.dash/\out=[]/\w=true
 |k+1,d,out,w=>∃d1 aa' w1,D.runs L k d1 aa' w1/\Step D (D.je (L.getD k [])) (flagsOf (L.getD k [])) (if(D.a 59).int=1 then D.dash else d1) aa' w1 d out w
def j7:List DE:=[.i (.v 0),.i (.v 1),.i (.v 2),.l 3,.l 4]++iv 5 10++[.l 15,.l 16]++iv 17 30++[.b (.v 47),.b (.v 48),.b (.v 49),.b (.v 50),.b (.v 51),.b (.v 52)]++iv 53 4++[.b (.v 57),.b (.v 58),.i (.v 59),.l 60,.l 61,.i (.v 62),.b (.v 63),.b (.v 64)]++iv 65 7++[.b (.v 72),.i (.v 73),.b (.v 74),.i (.v 75),.i (.v 76),.b (.v 77),.b (.v 78),.b (.v 79)]++iv 80 4++[.b (.v 84),.i (.v 85),.b (.v 86),.b (.v 87),.i (.v 88),.i (.v 89),.b (.v 90),.b (.v 91),.b (.v 92),.b (.v 93)]
def Eb(E:Nat->List DV->List DV->Prop)(ds rs:List DV):Prop:=∃(bx:List DV) (cX L:List (List Int)) (e:Int) (d:List DV) (out:List (List Int)) (w:Bool),
 bx.length=4/\E 28 (j7.map (DE.ae (aM.ar 0 ds))) bx/\E 29 (j7.map (DE.ae (aM.ar 0 ds))) [.l cX]/\
 E 30 [.i (aM.ar 0 ds 59).int,.l (aM.ar 0 ds 61).list,.b (aM.ar 0 ds 78).bool] [.l L,.i e]/\sf.runs ⟨E,aM.ar 0 ds,bx,cX⟩ L L.length d out w/\rs=[.l out,.b w]
def Qx(j:Nat)(ds:List DV):Prop:=j=73->∃V Fl S,ds=[.l V,.l Fl,.l S]/\Fl.length<=256/\∀r∈Fl,0<=r.getD 0 0/\r.getD 0 0<=1
structure rh(D:sf)(vs es:List (List Int))(x y z:Int)(out:List (List Int))(w:Bool)(i:Int)(dn:Nat)(e:az):Prop where
 iT:∀k,k<1119->e k=D.a k
 bx:∃b0 b1 b2 b3,D.bx=[.i b0,.i b1,.i b2,.i b3]/\e 1119 = .i b0/\e 1120 = .i b1/\e 1121 = .i b2/\e 1122 = .i b3
 cX:e 2143 = .l D.cX
 i:e 5218 = .i i
 x:(e dn).int=x
 y:(e (dn+1)).int=y
 z:(e (dn+2)).int=z
 out:e 5222 = .l out
 w:e 5223 = .b w
 es:e 5225 = .l es
 vs:e 5743 = .l vs
theorem rh.move{D:sf}{vs es:List (List Int)}{x y z:Int}{out:List (List Int)}{w:Bool}{i:Int}{dn:Nat}{e e':az}(h:rh D vs es x y z out w i dn e)(hd:dn+2<5744)(hm:∀k,k<5744->e' k=e k):rh D vs es x y z out w i dn e':=by
 obtain⟨b0,b1,b2,b3,h0,h1,h2,h3,h4⟩:=h.bx;exact⟨fun k hk=>by rw[hm k (by omega),h.iT k hk],⟨b0,b1,b2,b3,h0,by rw[hm _ (by omega),h1],by rw[hm _ (by omega),h2],by rw[hm _ (by omega),h3],by rw[hm _ (by omega),h4]⟩,
   by rw[hm _ (by omega),h.cX],by rw[hm _ (by omega),h.i],by rw[hm _ (by omega),h.x],by rw[hm _ (by omega),h.y],by rw[hm _ (by omega),h.z],by rw[hm _ (by omega),h.out],by rw[hm _ (by omega),h.w],by rw[hm _ (by omega),h.es],by rw[hm _ (by omega),h.vs]⟩
theorem df{e:az}{k j:Nat}{d:DV}(h:j<k):(e.set k d) j=e j:=by simp only[az.set];rw[if_neg (by omega)]
theorem M8{l:List (List Int)}(h:l.length=1):l=[l.getD 0 []]:=by
 match l,h with
 | [x],_=>rfl
theorem M9{l:List (List Int)}(h:l.length=2):l=[l.getD 0 [],l.getD 1 []]:=by
 match l,h with
 | [x,y],_=>rfl
variable {D:sf}{vs es:List (List Int)}{x y z:Int}{out:List (List Int)}{w:Bool}{i:Int}{dn:Nat}{e:az}{R:List DV->Prop}{F:Nat->List DV->Prop}{G:List DV->Prop}{p:Int->Prop}
theorem agZ:iD 67=some Se:=by kernel_rfl
theorem HH:iD 108=some HI:=by kernel_rfl
theorem ag0:iD 69=some Sf:=by kernel_rfl
theorem ag1:iD 71=some Sg:=by kernel_rfl
theorem ag2:iD 72=some Sh:=by kernel_rfl
theorem ag3:iD 73=some Si:=by kernel_rfl
theorem ag4:iD 74=some Sj:=by kernel_rfl
theorem ag5:iD 28=some Sl:=by kernel_rfl
theorem ag6:iD 29=some Sm:=by kernel_rfl
theorem ag7:iD 30=some Sn:=by kernel_rfl
theorem um{Ps:List (Int->Prop)}{F':Nat->List DV->Prop}(h:rh D vs es x y z out w i dn e){on:Nat}{o:List (List Int)}(ho:e on = .l o)(hF:∀vs,G vs->F' 18004 vs)(hG:G [.i (i+1),.i x,.i y,.i z,.l o,.b w]) :
   (aw.ev (.aG (r6 (.add (.v 5218) (.c 1)))) (.again 18004 [.i (.add (.v 5218) (.c 1)),.i (.v dn),.i (.v (dn+1)),.i (.v (dn+2)),.l on,.b (.v 5223)])).kU (Sw 18) Qx D.E R Ps e F':=by
 refine eJ rfl fun _=>?_
 refine hF _ ?_;simp only[List.map,DE.ae,IE.ae,BE.ae,h.i,h.x,h.y,h.z,ho,h.w,di,dl,db];exact hG
theorem yL{l:List (List Int)}{k c:Nat}:cellAt l (k:Int) c=(l.getD k []).getD c 0:=by unfold cellAt;rw[Int.toNat_natCast]
theorem vp{l:List (List Int)}{c:Nat}:cellAt l 0 c=(l.getD 0 []).getD c 0:=rfl
theorem Na{l:List (List Int)}{c:Nat}:cellAt l 1 c=(l.getD 1 []).getD c 0:=rfl
theorem Ed{l:List (List Int)}{s:List Int}(h:s∈l):∃k,k<l.length/\l.getD k []=s:=by
 obtain⟨k,hk,rfl⟩:=List.getElem_of_mem h;exact⟨k,hk,by simp[List.getD,hk]⟩
theorem A9{l:List (List Int)}{k:Nat}(h:k<l.length):l.getD k []∈l:=by simp[List.getD,h]
theorem pH{j:Nat}{ds:List DV}(h:Nat.beq j 73=false):Qx j ds:=fun e=>by subst e;simp at h
theorem Wy(v8:vo D.E)(h:rh D vs es x y z out w i dn e)(hd:dn+2<5744)(hl:vs.length=1){F':Nat->List DV->Prop}(hF:∀vs,G vs->F' 18004 vs)
   (hp:Step D vs es [.i x,.i y,.i z] out w [.i x,.i y,.i z] out false->p 9) (hG:∀x' y' z' kF w',Step D vs es [.i x,.i y,.i z] out w [.i x',.i y',.i z'] kF w'->G [.i (i+1),.i x',.i y',.i z',.l kF,.b w']) :
   (Wv dn).kU (Sw 18) Qx D.E R [p] e F':=by
 have hv:=M8 hl;unfold Wv;refine eJ rfl fun _=>?_
 refine Cg (fun ds=>∃j:Nat,ds=[.i j]/\j<=D.cX.length/\∀k,k<j->∃x,D.E 67 (cells 5 (D.cX.getD k [])++cells 8 (vs.getD 0 [])) [.i x]/\0<=x) ⟨0,rfl,by omega,fun k hk=>by omega⟩ ?_
 rintro _ ⟨j,rfl,hj,hsh⟩;have h1:rh D vs es x y z out w i dn (e.ar 5745 [.i j]):=h.move hd fun k hk=>az.aX (by omega)
 have T0:∀us,G us->ox F' 49002 (fun ds=>∃j:Nat,ds=[.i j]/\j<=D.cX.length/\∀k,k<j->∃x,D.E 67 (cells 5 (D.cX.getD k [])++cells 8 (vs.getD 0 [])) [.i x]/\0<=x) 18004 us:=fun us hg=>by simpa[ox]using hF us hg
 obtain⟨e1,nc⟩:∃e1:az,e1=e.ar 5745 [.i j]:=⟨_,rfl⟩;have HJ:e1 5745 = .i j:=by rw[nc];rfl
 rw[<- nc]at h1 ⊢;refine uh (fun cQ=>?_) (fun sS=>?_)
 . simp only[IE.ae,HJ,h1.cX,di,dl]at cQ;refine eJ rfl fun _=>s_call (pH rfl) fun rs hE=>?_
   obtain⟨u,rs,rfl,k0⟩:=dz (v8 67 _ _ _ agZ hE);obtain rfl:=iF k0;have Nb:D.E 67 (cells 5 (D.cX.getD j [])++cells 8 (vs.getD 0 [])) [.i u]:=by
     have:=hE;simp only[List.map,DE.ae,IE.ae,HJ,h1.cX,h1.vs,di,dl,yL,vp]at this;exact this
   refine uh (fun hu=>?_) (fun hu=>?_)
   . refine A0 (um (h1.move hd fun k hk=>az.aX (by omega)) (by rw[az.aX (by omega)];exact h1.out) T0 (hG _ _ _ _ _ (.hidden hv (A9 (by omega)) Nb ?_)))
     exact hu
   . refine eJ rfl fun _=>wY ⟨j+1,?_,by omega,fun k hk=>?_⟩
     . simp only[List.map,DE.ae,IE.ae,az.aX (show 5745<5747 by omega),HJ,di]
       rfl
     . rcases Nat.lt_or_ge k j with Uw|Uw
       . exact hsh k Uw
       . obtain rfl:k=j:=by omega
         exact⟨u,Nb,hu⟩
 . simp only[IE.ae,HJ,h1.cX,di,dl]at sS;have b8:∀s∈D.cX,∃x,D.E 67 (cells 5 s++cells 8 (vs.getD 0 [])) [.i x]/\0<=x:=fun s hs=>by
     obtain⟨k,hk,rfl⟩:=Ed hs;exact hsh k (by omega)
   refine s_call (pH rfl) fun rs hE=>?_
   obtain⟨x0,r0,rfl,k0⟩:=dz (v8 108 _ _ _ HH hE);obtain⟨x1,r1,rfl,k1⟩:=dz (k0);obtain⟨x2,r2,rfl,k2⟩:=dz (k1);obtain⟨x3,r3,rfl,k3⟩:=dz (k2);obtain⟨x4,r4,rfl,k4⟩:=dz (k3);obtain⟨x5,r5,rfl,k5⟩:=dz (k4);obtain⟨x6,r6,rfl,k6⟩:=dz (k5);obtain⟨x7,r7,rfl,k7⟩:=dz (k6);obtain rfl:=iF k7;have EI:D.place (vs.getD 0 []) [.i x0,.i x1,.i x2,.i x3,.i x4,.i x5,.i x6] x7:=⟨rfl,by
     have:=hE;simp only[List.map,DE.ae,IE.ae,h1.vs,h1.iT 10 (by omega),h1.iT 11 (by omega),h1.iT 12 (by omega),h1.iT 13 (by omega),dl,vp]at this
     exact this⟩
   obtain⟨b0,b1,b2,b3,hb,g0,g1,g2,g3⟩:=h1.bx;have h2:rh D vs es x y z out w i dn (e1.ar 7380 [.i x0,.i x1,.i x2,.i x3,.i x4,.i x5,.i x6,.i x7]):=h1.move hd fun k hk=>az.aX (by omega)
   obtain⟨e2,tz⟩:∃e2:az,e2=e1.ar 7380 [.i x0,.i x1,.i x2,.i x3,.i x4,.i x5,.i x6,.i x7]:=⟨_,rfl⟩;have q:e2 7380 = .i x0/\e2 7381 = .i x1/\e2 7382 = .i x2/\e2 7383 = .i x3/\e2 7384 = .i x4/\e2 7385 = .i x5/\e2 7386 = .i x6/\e2 7387 = .i x7:=by rw[tz];exact⟨rfl,rfl,rfl,rfl,rfl,rfl,rfl,rfl⟩
   obtain⟨q0,q1,q2,q3,q4,q5,q6,q7⟩:=q;rw[<- tz]at h2 ⊢;refine s_call (pH rfl) fun rs hE=>?_
   obtain⟨fr,rs,rfl,k0⟩:=F5 (v8 69 _ _ _ ag0 hE);obtain rfl:=iF k0;obtain⟨c0,c1,c2,c3,la,g0',g1',g2',g3'⟩:=h2.bx;have Nb:D.E 69 ([.i x0,.i x1,.i x2,.i x3,.i x4,.i x5,.i x6]++[.i (D.a 68).int,.i (D.a 69).int]++D.bx) [.l fr]:=by
     rw[la];have:=hE;simp only[List.map,List.map_append,iv,DE.ae,IE.ae,q0,q1,q2,q3,q4,q5,q6,g0',g1',g2',g3',h2.iT 68 (by omega),h2.iT 69 (by omega),di]at this
     exact this
   have h3:rh D vs es x y z out w i dn (e2.ar 15986 [.l fr]):=h2.move hd fun k hk=>az.aX (by omega)
   have q7':(e2.ar 15986 [.l fr]) 7387 = .i x7:=by rw[az.aX (by omega)];exact q7
   have qf:(e2.ar 15986 [.l fr]) 15986 = .l fr:=rfl;obtain⟨e3,wm⟩:∃e3:az,e3=e2.ar 15986 [.l fr]:=⟨_,rfl⟩;rw[<- wm]at h3 q7' qf ⊢;refine mZ (fun h0=>?_) (fun h0=>?_)
   . simp only[IE.ae,q7',di]at h0;subst h0;refine eJ rfl fun _=>nJ (M:=out++fr) (by simp only[cZ.ae,h3.out,qf,dl]) (A0 (um (h3.move hd fun k hk=>df (by omega)) (by simp[az.set]) T0 (hG _ _ _ _ _ (.point hv b8 EI Nb))))
   . simp only[IE.ae,q7',di]at h0;exact Ch (hp (.HB hv b8 EI h0))
theorem Wz(v8:vo D.E)(h:rh D vs es x y z out w i dn e)(hd:dn+2<5744)(hl:vs.length=2){F':Nat->List DV->Prop}(hF:∀vs,G vs->F' 18004 vs)
   (hp:Step D vs es [.i x,.i y,.i z] out w [.i x,.i y,.i z] out false->p 9) (hG:∀x' y' z' kF w',Step D vs es [.i x,.i y,.i z] out w [.i x',.i y',.i z'] kF w'->G [.i (i+1),.i x',.i y',.i z',.l kF,.b w']) :
   (Ww dn).kU (Sw 18) Qx D.E R [p] e F':=by
 have hv:=M9 hl;unfold Ww;refine eJ rfl fun _=>eJ rfl fun _=>s_call (pH rfl) fun rs hE=>?_
 obtain⟨u0,r0,rfl,k0⟩:=dz (v8 71 _ _ _ ag1 hE);obtain⟨u1,r1,rfl,k1⟩:=dz (k0);obtain⟨u2,r2,rfl,k2⟩:=dz (k1);obtain⟨u3,r3,rfl,k3⟩:=dz (k2);obtain⟨u4,r4,rfl,k4⟩:=dz (k3);obtain⟨u5,r5,rfl,k5⟩:=dz (k4);obtain⟨u6,r6,rfl,k6⟩:=dz (k5);obtain⟨u7,r7,rfl,k7⟩:=dz (k6);obtain⟨v0,r8,rfl,k8⟩:=dz (k7);obtain⟨v1,r9,rfl,k9⟩:=dz (k8);obtain⟨v2,r10,rfl,k10⟩:=dz (k9);obtain⟨v3,r11,rfl,k11⟩:=dz (k10);obtain⟨v4,r12,rfl,k12⟩:=dz (k11);obtain⟨v5,r13,rfl,k13⟩:=dz (k12);obtain⟨v6,r14,rfl,k14⟩:=dz (k13);obtain⟨v7,r15,rfl,k15⟩:=dz (k14);obtain⟨ok,r16,rfl,k16⟩:=aa0 (k15);obtain rfl:=iF k16;have Yf:D.E 71 (cells 8 (vs.getD 0 [])++cells 8 (vs.getD 1 [])++[.l D.cX]) ([.i u0,.i u1,.i u2,.i u3,.i u4,.i u5,.i u6,.i u7,.i v0,.i v1,.i v2,.i v3,.i v4,.i v5,.i v6,.i v7]++[.b ok]):=by
   have:=hE;simp only[List.map,DE.ae,IE.ae,h.cX,h.vs,dl,vp,Na]at this;exact this
 have h1:rh D vs es x y z out w i dn (e.ar 8818 [.i u0,.i u1,.i u2,.i u3,.i u4,.i u5,.i u6,.i u7,.i v0,.i v1,.i v2,.i v3,.i v4,.i v5,.i v6,.i v7,.b ok]):=h.move hd fun k hk=>az.aX (by omega)
 obtain⟨e1,nc⟩:∃e1:az,e1=e.ar 8818 [.i u0,.i u1,.i u2,.i u3,.i u4,.i u5,.i u6,.i u7,.i v0,.i v1,.i v2,.i v3,.i v4,.i v5,.i v6,.i v7,.b ok]:=⟨_,rfl⟩;have q:e1 8818 = .i u0/\e1 8819 = .i u1/\e1 8820 = .i u2/\e1 8821 = .i u3/\e1 8822 = .i u4/\e1 8823 = .i u5/\e1 8824 = .i u6/\e1 8825 = .i u7/\e1 8826 = .i v0/\e1 8827 = .i v1/\e1 8828 = .i v2/\e1 8829 = .i v3/\e1 8830 = .i v4/\e1 8831 = .i v5/\e1 8832 = .i v6/\e1 8833 = .i v7/\e1 8834 = .b ok:=by rw[nc];exact⟨rfl,rfl,rfl,rfl,rfl,rfl,rfl,rfl,rfl,rfl,rfl,rfl,rfl,rfl,rfl,rfl,rfl⟩
 obtain⟨q0,q1,q2,q3,q4,q5,q6,q7,q8,q9,q10,q11,q12,q13,q14,q15,q16⟩:=q;rw[<- nc]at h1 ⊢;refine D4 (fun gD=>?_) (fun gD=>?_)
 . simp only[BE.ae,q16,db]at gD;subst gD;exact A0 (um h1 h1.out hF (hG _ _ _ _ _ (.lineNo hv rfl Yf)))
 . simp only[BE.ae,q16,db]at gD;subst gD;have WA:D.E 71 (cells 8 (vs.getD 0 [])++cells 8 (vs.getD 1 [])++[.l D.cX]) (cells 8 [u0,u1,u2,u3,u4,u5,u6,u7]++cells 8 [v0,v1,v2,v3,v4,v5,v6,v7]++[.b true]):=Yf;refine s_call (pH rfl) fun rs hEp=>?_
   obtain⟨p0,r0,rfl,k0⟩:=dz (v8 108 _ _ _ HH hEp);obtain⟨p1,r1,rfl,k1⟩:=dz (k0);obtain⟨p2,r2,rfl,k2⟩:=dz (k1);obtain⟨p3,r3,rfl,k3⟩:=dz (k2);obtain⟨p4,r4,rfl,k4⟩:=dz (k3);obtain⟨p5,r5,rfl,k5⟩:=dz (k4);obtain⟨p6,r6,rfl,k6⟩:=dz (k5);obtain⟨p7,r7,rfl,k7⟩:=dz (k6);obtain rfl:=iF k7;have EI:D.place [u0,u1,u2,u3,u4,u5,u6,u7] [.i p0,.i p1,.i p2,.i p3,.i p4,.i p5,.i p6] p7:=⟨rfl,by
     have:=hEp;simp only[List.map,List.map_append,iv,DE.ae,IE.ae,q0,q1,q2,q3,q4,q5,q6,q7,di,h1.iT 10 (by omega),h1.iT 11 (by omega),h1.iT 12 (by omega),h1.iT 13 (by omega)]at this
     exact this⟩
   have h2:rh D vs es x y z out w i dn (e1.ar 13013 [.i p0,.i p1,.i p2,.i p3,.i p4,.i p5,.i p6,.i p7]):=h1.move hd fun k hk=>az.aX (by omega)
   obtain⟨e2,tz⟩:∃e2:az,e2=e1.ar 13013 [.i p0,.i p1,.i p2,.i p3,.i p4,.i p5,.i p6,.i p7]:=⟨_,rfl⟩;have o2:∀k,k<13013->e2 k=e1 k:=fun k hk=>by rw[tz];exact az.aX hk
   have s2:e2 13013 = .i p0/\e2 13014 = .i p1/\e2 13015 = .i p2/\e2 13016 = .i p3/\e2 13017 = .i p4/\e2 13018 = .i p5/\e2 13019 = .i p6/\e2 13020 = .i p7:=by rw[tz];exact⟨rfl,rfl,rfl,rfl,rfl,rfl,rfl,rfl⟩
   rw[<- tz]at h2 ⊢;refine s_call (pH rfl) fun rs hEq=>?_
   obtain⟨t0,r0,rfl,k0⟩:=dz (v8 108 _ _ _ HH hEq);obtain⟨t1,r1,rfl,k1⟩:=dz (k0);obtain⟨t2,r2,rfl,k2⟩:=dz (k1);obtain⟨t3,r3,rfl,k3⟩:=dz (k2);obtain⟨t4,r4,rfl,k4⟩:=dz (k3);obtain⟨t5,r5,rfl,k5⟩:=dz (k4);obtain⟨t6,r6,rfl,k6⟩:=dz (k5);obtain⟨t7,r7,rfl,k7⟩:=dz (k6);obtain rfl:=iF k7;have EH:D.place [v0,v1,v2,v3,v4,v5,v6,v7] [.i t0,.i t1,.i t2,.i t3,.i t4,.i t5,.i t6] t7:=⟨rfl,by
     have:=hEq;simp only[List.map,List.map_append,iv,DE.ae,IE.ae,o2 8826 (by omega),o2 8827 (by omega),o2 8828 (by omega),o2 8829 (by omega),o2 8830 (by omega),o2 8831 (by omega),o2 8832 (by omega),o2 8833 (by omega),q8,q9,q10,q11,q12,q13,q14,q15,di,h2.iT 10 (by omega),h2.iT 11 (by omega),h2.iT 12 (by omega),h2.iT 13 (by omega)]at this
     exact this⟩
   have h3:rh D vs es x y z out w i dn (e2.ar 14549 [.i t0,.i t1,.i t2,.i t3,.i t4,.i t5,.i t6,.i t7]):=h2.move hd fun k hk=>az.aX (by omega)
   obtain⟨e3,wm⟩:∃e3:az,e3=e2.ar 14549 [.i t0,.i t1,.i t2,.i t3,.i t4,.i t5,.i t6,.i t7]:=⟨_,rfl⟩;have o3:∀k,k<14549->e3 k=e2 k:=fun k hk=>by rw[wm];exact az.aX hk
   have s3:e3 14549 = .i t0/\e3 14550 = .i t1/\e3 14551 = .i t2/\e3 14552 = .i t3/\e3 14553 = .i t4/\e3 14554 = .i t5/\e3 14555 = .i t6/\e3 14556 = .i t7:=by rw[wm];exact⟨rfl,rfl,rfl,rfl,rfl,rfl,rfl,rfl⟩
   rw[<- wm]at h3 ⊢;obtain⟨a0,a1,a2,a3,a4,a5,a6,a7⟩:=s2;obtain⟨b0,b1,b2,b3,b4,b5,b6,b7⟩:=s3;refine mZ (fun hz=>?_) (fun hz=>?_)
   . simp only[IE.ae,b7,di]at hz;subst hz;refine mZ (fun hz=>?_) (fun hz=>?_)
     . simp only[IE.ae,o3 13020 (by omega),a7,di]at hz
       subst hz;refine s_call (pH rfl) fun rs hEl=>?_
       obtain⟨fr,r0,rfl,k0⟩:=F5 (v8 72 _ _ _ ag2 hEl);obtain⟨d0,r1,rfl,k1⟩:=dz (k0);obtain⟨d1,r2,rfl,k2⟩:=dz (k1);obtain⟨d2,r3,rfl,k3⟩:=dz (k2);obtain rfl:=iF k3;obtain⟨c0,c1,c2,c3,hb,g0,g1,g2,g3⟩:=h3.bx;have ag8:D.E 72 ([.i p0,.i p1,.i p2,.i p3,.i p4,.i p5,.i p6]++[.i t0,.i t1,.i t2,.i t3,.i t4,.i t5,.i t6]++D.look++[.i x,.i y,.i z]++D.bx) (.l fr::[.i d0,.i d1,.i d2]):=by
         rw[hb];have:=hEl;simp only[List.map,List.map_append,iv,DE.ae,IE.ae,BE.ae,o3 13013 (by omega),o3 13014 (by omega),o3 13015 (by omega),o3 13016 (by omega),o3 13017 (by omega),o3 13018 (by omega),o3 13019 (by omega),a0,a1,a2,a3,a4,a5,a6,b0,b1,b2,b3,b4,b5,b6,g0,g1,g2,g3,h3.x,h3.y,h3.z,di,h3.iT 62 (by omega),h3.iT 63 (by omega),h3.iT 64 (by omega),h3.iT 65 (by omega),h3.iT 66 (by omega),h3.iT 67 (by omega),h3.iT 68 (by omega),h3.iT 69 (by omega),h3.iT 70 (by omega),h3.iT 71 (by omega),h3.iT 72 (by omega),h3.iT 73 (by omega),h3.iT 74 (by omega),h3.iT 75 (by omega),h3.iT 76 (by omega)]at this
         exact this
       have dB:=hG d0 d1 d2 (out++fr) w (.line hv WA EI EH rfl ag8);refine eJ rfl fun _=>nJ (M:=out++fr) (by simp only[cZ.ae,az.aX (show 5222<23156 by omega),h3.out,dl];rfl) (A0 (eJ rfl fun _=>hF _ ?_))
       have hi:((e3.ar 23156 [.l fr,.i d0,.i d1,.i d2]).set 25205 (.l (out++fr))) 5218 = .i i:=by rw[df (by omega),az.aX (by omega)];exact h3.i
       have hw:((e3.ar 23156 [.l fr,.i d0,.i d1,.i d2]).set 25205 (.l (out++fr))) 5223 = .b w:=by rw[df (by omega),az.aX (by omega)];exact h3.w
       simp only[List.map,DE.ae,IE.ae,BE.ae,hi,hw,di,db];exact dB
     . simp only[IE.ae,o3 13020 (by omega),a7,di]at hz
       exact Ch (hp (.Ct hv WA EI EH (.inl hz)))
   . simp only[IE.ae,b7,di]at hz;exact Ch (hp (.Ct hv WA EI EH (.inr hz)))
end Go.Proofs.YtohebioanhliiaaGreatDoor.aD
namespace Go.Proofs.YtohebioanhliiaaGreatDoor.aD
open Go.Sx
variable {D:sf}{vs es:List (List Int)}{x y z:Int}{out:List (List Int)}{w:Bool}{i:Int}{dn:Nat}{e:az}{R:List DV->Prop}{F:Nat->List DV->Prop}{G:List DV->Prop}{p:Int->Prop}
theorem WB(v8:vo D.E)(h:rh D vs es x y z out w i dn e)(hd:dn+2<5744)(Ao:vs.length≠1)(xh:vs.length≠2)(ag9:es.length<=256)(CV:∀r∈es,0<=r.getD 0 0/\r.getD 0 0<=1){F':Nat->List DV->Prop}(hF:∀vs,G vs->F' 18004 vs)
   (hp:Step D vs es [.i x,.i y,.i z] out w [.i x,.i y,.i z] out false->p 9) (hG:∀x' y' z' kF w',Step D vs es [.i x,.i y,.i z] out w [.i x',.i y',.i z'] kF w'->G [.i (i+1),.i x',.i y',.i z',.l kF,.b w']) :
   (Wx dn).kU (Sw 18) Qx D.E R [p] e F':=by
 unfold Wx;refine s_call ?_ fun rs hE=>?_
 . intro _;refine⟨vs,es,D.cX,?_,ag9,CV⟩;simp only[List.map,DE.ae,h.vs,h.es,h.cX,dl]
 obtain⟨us,rs,rfl,k0⟩:=F5 (v8 73 _ _ _ ag3 hE);obtain⟨on,rs,rfl,k1⟩:=F5 k0;obtain⟨ef,rs,rfl,k2⟩:=dz k1;obtain rfl:=iF k2;have Nb:D.E 73 [.l vs,.l es,.l D.cX] [.l us,.l on,.i ef]:=by
   have:=hE;simp only[List.map,DE.ae,h.vs,h.es,h.cX,dl]at this;exact this
 have h1:rh D vs es x y z out w i dn (e.ar 5744 [.l us,.l on,.i ef]):=h.move hd fun k hk=>az.aX hk
 obtain⟨e1,nc⟩:∃e1:az,e1=e.ar 5744 [.l us,.l on,.i ef]:=⟨_,rfl⟩;have q0:e1 5744 = .l us:=by rw[nc];rfl
 have q1:e1 5745 = .l on:=by rw[nc];rfl
 rw[<- nc]at h1 ⊢;refine mZ (fun hz=>?_) (fun hz=>?_)
 . simp only[IE.ae,q0,dl]at hz;obtain rfl:us=[]:=List.length_eq_zero_iff.1 (by omega)
   exact A0 (um h1 h1.out hF (hG _ _ _ _ _ (.MY Ao xh Nb)))
 . simp only[IE.ae,q0,dl]at hz;have cx:us≠[]:=fun h=>hz (by rw[h];rfl)
   refine eJ rfl fun _=>eJ rfl fun _=>nJ (M:=List.replicate us.length [0,0,0,0,0,0,0]) (by simp only[cZ.ae,IE.ae,q0,dl,Int.toNat_natCast]) ?_
   refine Cg (fun ds=>∃(k:Nat) (ws:List (List Int)),ds=[.i k,.l ws,.l vs]/\k<=us.length/\ws.length=us.length/\(∀r∈ws,r.length=7)/\∀m,m<k->D.place (us.getD m []) (cells 7 (ws.getD m [])) 0)
     ⟨0,List.replicate us.length [0,0,0,0,0,0,0],by simp only[List.map,DE.ae,IE.ae,df (show 5743<5747 by omega),h1.vs,dl];rfl,by omega,by simp,fun r hr=>by rw[(List.mem_replicate.1 hr).2];rfl,fun m hm=>by omega⟩ ?_
   rintro _ ⟨k,ws,rfl,hk,hws,hw7,EI⟩;have h2:rh D vs es x y z out w i dn ((e1.set 5747 (.l (List.replicate us.length [0,0,0,0,0,0,0]))).ar 5748 [.i k,.l ws,.l vs]):=h1.move hd fun j hj=>by rw[az.aX (by omega),df (by omega)]
   have T0:∀ys,G ys->ox F' 51004 (fun ds=>∃(k:Nat) (ws:List (List Int)),ds=[.i k,.l ws,.l vs]/\k<=us.length/\ws.length=us.length/\(∀r∈ws,r.length=7)/\∀m,m<k->D.place (us.getD m []) (cells 7 (ws.getD m [])) 0) 18004 ys:=fun ys hg=>by simpa[ox]using hF ys hg
   obtain⟨e2,tz⟩:∃e2:az,e2=(e1.set 5747 (.l (List.replicate us.length [0,0,0,0,0,0,0]))).ar 5748 [.i k,.l ws,.l vs]:=⟨_,rfl⟩;have r0:e2 5744 = .l us:=by rw[tz,az.aX (by omega),df (by omega),q0]
   have r1:e2 5745 = .l on:=by rw[tz,az.aX (by omega),df (by omega),q1]
   have r8:e2 5748 = .i k:=by rw[tz];rfl
   have r9:e2 5749 = .l ws:=by rw[tz];rfl
   have r10:e2 5750 = .l vs:=by rw[tz];rfl
   rw[<- tz]at h2 ⊢;refine uh (fun cQ=>?_) (fun sS=>?_)
   . simp only[IE.ae,r8,r0,di,dl]at cQ;refine eJ rfl fun _=>s_call (pH rfl) fun rs hEp=>?_
     obtain⟨p0,r0,rfl,k0⟩:=dz (v8 108 _ _ _ HH hEp);obtain⟨p1,r1,rfl,k1⟩:=dz (k0);obtain⟨p2,r2,rfl,k2⟩:=dz (k1);obtain⟨p3,r3,rfl,k3⟩:=dz (k2);obtain⟨p4,r4,rfl,k4⟩:=dz (k3);obtain⟨p5,r5,rfl,k5⟩:=dz (k4);obtain⟨p6,r6,rfl,k6⟩:=dz (k5);obtain⟨p7,r7,rfl,k7⟩:=dz (k6);obtain rfl:=iF k7;have YJ:D.place (us.getD k []) [.i p0,.i p1,.i p2,.i p3,.i p4,.i p5,.i p6] p7:=⟨rfl,by
       have:=hEp;simp only[List.map,DE.ae,IE.ae,r0,r8,di,dl,yL,h2.iT 10 (by omega),h2.iT 11 (by omega),h2.iT 12 (by omega),h2.iT 13 (by omega)]at this
       exact this⟩
     obtain⟨e3,wm⟩:∃e3:az,e3=e2.ar 8825 [.i p0,.i p1,.i p2,.i p3,.i p4,.i p5,.i p6,.i p7]:=⟨_,rfl⟩;have o3:∀j,j<8825->e3 j=e2 j:=fun j hj=>by rw[wm];exact az.aX hj
     have s3:e3 8825 = .i p0/\e3 8826 = .i p1/\e3 8827 = .i p2/\e3 8828 = .i p3/\e3 8829 = .i p4/\e3 8830 = .i p5/\e3 8831 = .i p6/\e3 8832 = .i p7:=by rw[wm];exact⟨rfl,rfl,rfl,rfl,rfl,rfl,rfl,rfl⟩
     obtain⟨a0,a1,a2,a3,a4,a5,a6,a7⟩:=s3;rw[<- wm];refine mZ (fun h0=>?_) (fun h0=>?_)
     . simp only[IE.ae,a7,di]at h0;subst h0;refine eJ rfl fun _=>eJ rfl fun _=>nJ (M:=ws.modify k fun _=>[p0,p1,p2,p3,p4,p5,p6]) (by simp only[cZ.ae,IE.ae,List.map,bV,o3 5749 (by omega),o3 5748 (by omega),r9,r8,a0,a1,a2,a3,a4,a5,a6,di,dl,Int.toNat_natCast]) ?_
       refine eJ rfl fun _=>wY ⟨k+1,ws.modify k fun _=>[p0,p1,p2,p3,p4,p5,p6],?_,by omega,by simp[hws],agY hw7 rfl,fun m hm=>?_⟩
       . simp only[List.map,DE.ae,IE.ae,df (show 5748<10874 by omega),df (show 5750<10874 by omega),o3 5748 (by omega),o3 5750 (by omega),r8,r10,di,dl]
         rfl
       . simp only[cH,List.getElem?_modify]at EI ⊢;by_cases hmk:k=m
         . subst hmk;have:ws[k]?=some ws[k]:=dJ (by omega)
           simp only[this,if_true,Option.map_some,Option.getD_some];rw[<- List.getD_eq_getElem?_getD];exact YJ
         . simp only[hmk,if_false];have:=EI m (by omega)
           simpa using this
     . simp only[IE.ae,a7,di]at h0;exact Ch (hp (.HC Ao xh cx Nb (by omega) YJ h0))
   . simp only[IE.ae,r8,r0,di,dl]at sS;obtain rfl:k=us.length:=by omega
     obtain⟨b0,b1,b2,b3,hb,g0,g1,g2,g3⟩:=h2.bx;refine s_call (pH rfl) fun rs hEd=>?_
     obtain⟨fr,rs,rfl,k0⟩:=F5 (v8 74 _ _ _ ag4 hEd);obtain rfl:=iF k0;have ag':D.E 74 ([.l ws,.l on]++D.look++D.bx) [.l fr]:=by
       rw[hb];have:=hEd;simp only[List.map,List.map_append,iv,DE.ae,IE.ae,BE.ae,r9,r1,dl,g0,g1,g2,g3,di,h2.iT 62 (by omega),h2.iT 63 (by omega),h2.iT 64 (by omega),h2.iT 65 (by omega),h2.iT 66 (by omega),h2.iT 67 (by omega),h2.iT 68 (by omega),h2.iT 69 (by omega),h2.iT 70 (by omega),h2.iT 71 (by omega),h2.iT 72 (by omega),h2.iT 73 (by omega),h2.iT 74 (by omega),h2.iT 75 (by omega),h2.iT 76 (by omega)]at this
       exact this
     have h3:rh D vs es x y z out w i dn (e2.ar 11895 [.l fr]):=h2.move hd fun j hj=>az.aX (by omega)
     refine eJ rfl fun _=>nJ (M:=out++fr) (by simp only[cZ.ae,h3.out,dl];rfl) (A0 (um (h3.move hd fun j hj=>df (by omega)) (by simp[az.set]) T0 (hG _ _ _ _ _ (.aa2 Ao xh cx Nb hws hw7 EI ag'))))
end Go.Proofs.YtohebioanhliiaaGreatDoor.aD
namespace Go.Proofs.YtohebioanhliiaaGreatDoor.aD
open Go.Sx
structure At0(D:sf)(L:List (List Int))(x y z:Int)(out:List (List Int))(w:Bool)(k:Nat)(dn:Nat)(e:az):Prop where
 iT:∀k,k<1119->e k=D.a k
 bx:∃b0 b1 b2 b3,D.bx=[.i b0,.i b1,.i b2,.i b3]/\e 1119 = .i b0/\e 1120 = .i b1/\e 1121 = .i b2/\e 1122 = .i b3
 cX:e 2143 = .l D.cX
 rows:e 5216 = .l L
 i:e 5218 = .i k
 x:(e dn).int=x
 y:(e (dn+1)).int=y
 z:(e (dn+2)).int=z
 out:e 5222 = .l out
 w:e 5223 = .b w
 V:e 5224 = .l (dZ (dK Ku (L.getD k []) 0))
 es:e 5225 = .l (flagsOf (L.getD k []))
theorem A7{V E:List Int}{p:Int}:dK Ku (rf V E p) 0=V:=by
 simp[dK,Ku,nD,rf]
theorem JQ{V E:List Int}{p:Int}:dK Ku (rf V E p) 1=E:=by
 simp[dK,Ku,nD,rf]
theorem WC{V E:List Int}{p:Int}:(rf V E p).getD 2 0=p:=rfl
variable {D:sf}{L:List (List Int)}{x y z:Int}{out:List (List Int)}{w:Bool}{k:Nat}{dn:Nat}{e:az}{R:List DV->Prop}{F:Nat->List DV->Prop}{G:List DV->Prop}
theorem Ee(v8:vo D.E){m:Int}(h:At0 D L x y z out w k dn e)(hd:dn+2<5224)(hr:tm m (D.a 60).list.length (L.getD k [])){F':Nat->List DV->Prop}(hF:∀vs,G vs->F' 18004 vs)
   (hG:∀x' y' z' kF w',Step D (D.je (L.getD k [])) (flagsOf (L.getD k [])) [.i x,.i y,.i z] out w [.i x',.i y',.i z'] kF w'->G [.i ((k:Int)+1),.i x',.i y',.i z',.l kF,.b w']) :
   (Cx dn).kU (Sw 18) Qx D.E R [] e F':=by
 obtain⟨V,E,pr,bc,hV1,hV4,hV,hp0,F9,aha,Yg,hE3,_⟩:=hr;have eV:dK Ku (L.getD k []) 0=V:=by rw[bc,A7]
 have eE:dK Ku (L.getD k []) 1=E:=by rw[bc,JQ]
 have eP:(L.getD k []).getD 2 0=pr:=by rw[bc,WC]
 have hV5:e 5224 = .l (dZ V):=by rw[h.V,eV]
 unfold Cx;refine Ry ?_;have WD:Step D (D.je (L.getD k [])) (flagsOf (L.getD k [])) [.i x,.i y,.i z] out w [.i x,.i y,.i z] out false->
     (aw.ite (.not (.eq (.v 5229) (.c 0))) (.ev (.aG (r6 (.add (.v 5218) (.c 1)))) (.again 18004 [.i (.add (.v 5218) (.c 1)),.i (.v dn),.i (.v (dn+1)),.i (.v (dn+2)),.l 5222,.b (.c false)])) (.ev (.aG (r6 (.add (.v 5218) (.c 1)))) (.again 18004 [.i (.add (.v 5218) (.c 1)),.i (.v dn),.i (.v (dn+1)),.i (.v (dn+2)),.l 5222,.b (.v 5223)]))).kU (Sw 18) Qx D.E R [] (e.set 5229 (.i 9)) F':=fun dB=>by
   refine D4 (fun _=>eJ rfl fun _=>hF _ ?_) (fun hc=>?_)
   . have:=hG x y z out false dB;simp only[List.map,DE.ae,IE.ae,BE.ae,df (show 5218<5229 by omega),df (show dn<5229 by omega),df (show dn+1<5229 by omega),df (show dn+2<5229 by omega),df (show 5222<5229 by omega),h.i,h.x,h.y,h.z,h.out,di,dl]
     exact this
   . simp[BE.ae,IE.ae,az.set,di]at hc
 refine eJ rfl fun _=>eJ rfl fun _=>nJ (M:=List.replicate V.length [0,0,0,0,0,0,0,0]) (by simp only[cZ.ae,IE.ae,hV5,dl,dj,Int.toNat_natCast]) ?_
 refine Cg (fun ds=>∃(j:Nat) (xs:List (List Int)),ds=[.i j,.l xs]/\j<=V.length/\xs.length=V.length/\∀m,m<j->xs.getD m []=pn (D.a 60).list (D.a 77).bool pr (V.getD m 0))
   ⟨0,List.replicate V.length [0,0,0,0,0,0,0,0],rfl,by omega,by simp,fun m hm=>by omega⟩ ?_
 rintro _ ⟨j,xs,rfl,hj,nP,Ef⟩;have T0:∀us,G us->ox F' 33003 (fun ds=>∃(j:Nat) (xs:List (List Int)),ds=[.i j,.l xs]/\j<=V.length/\xs.length=V.length/\∀m,m<j->xs.getD m []=pn (D.a 60).list (D.a 77).bool pr (V.getD m 0)) 18004 us:=fun us hg=>by simpa[ox]using hF us hg
 obtain⟨e1,nc⟩:∃e1:az,e1=(e.set 5741 (.l (List.replicate V.length [0,0,0,0,0,0,0,0]))).ar 5742 [.i j,.l xs]:=⟨_,rfl⟩;have o1:∀j,j<5741->e1 j=e j:=fun j hj=>by rw[nc,az.aX (by omega),df (by omega)]
 have g2:e1 5742 = .i j:=by rw[nc];rfl
 have g3:e1 5743 = .l xs:=by rw[nc];rfl
 have a60:e1 60=D.a 60:=by rw[o1 60 (by omega),h.iT 60 (by omega)]
 have a77:e1 77=D.a 77:=by rw[o1 77 (by omega),h.iT 77 (by omega)]
 have aV:e1 5224 = .l (dZ V):=by rw[o1 5224 (by omega),hV5]
 have aL:e1 5216 = .l L:=by rw[o1 5216 (by omega),h.rows]
 have ai:e1 5218 = .i k:=by rw[o1 5218 (by omega),h.i]
 rw[<- nc];refine uh (fun cQ=>?_) (fun sS=>?_)
 . simp only[IE.ae,g2,aV,di,dl,dj]at cQ;have hg:cellAt (dZ V) (j:Int) 0=V.getD j 0:=by rw[yM (by omega) cQ,Int.toNat_natCast]
   have hm:=hV _ (yN (l:=V) (i:=j) (by omega))
   have hP:cellAt L (k:Int) 2=pr:=by rw[yL,eP]
   refine eJ rfl fun _=>Cf (decide_eq_true (by simp only[IE.ae,g2,aV,di,dl,hg];exact hm.1)) (Cf (decide_eq_true (by simp only[IE.ae,g2,aV,a60,di,dl,hg];exact hm.2)) (eJ rfl fun _=>?_))
   refine nJ (M:=xs.modify j fun _=>[cellAt (D.a 60).list (V.getD j 0) 0,cellAt (D.a 60).list (V.getD j 0) 1,cellAt (D.a 60).list (V.getD j 0) 2,cellAt (D.a 60).list (V.getD j 0) 3,cellAt (D.a 60).list (V.getD j 0) 4,cellAt (D.a 60).list (V.getD j 0) 5,cellAt (D.a 60).list (V.getD j 0) 6,cellAt (D.a 60).list (V.getD j 0) 7]) (by simp only[cZ.ae,IE.ae,List.map,bV,g2,g3,aV,a60,di,dl,hg,Int.toNat_natCast]) ?_
   refine Hr (fun Qa=>?_) (fun Qa=>?_)
   . simp only[BE.ae,df (show 77<5744 by omega),a77]at Qa
     refine Cf (decide_eq_true (by simp only[IE.ae,df (show 5216<5744 by omega),df (show 5218<5744 by omega),aL,ai,di,dl,hP];exact hp0)) (Cf (decide_eq_true (by simp only[IE.ae,df (show 5216<5744 by omega),df (show 5218<5744 by omega),df (show 60<5744 by omega),aL,ai,a60,di,dl,hP];exact F9)) (eJ rfl fun _=>eJ rfl fun _=>?_))
     refine nJ (M:=xs.modify j fun _=>pn (D.a 60).list (D.a 77).bool pr (V.getD j 0)) ?_ (eJ rfl fun _=>wY ⟨j+1,xs.modify j fun _=>pn (D.a 60).list (D.a 77).bool pr (V.getD j 0),?_,by omega,by simp[nP],fun m hm=>?_⟩)
     . simp only[cZ.ae,IE.ae,List.map,bV,df (show 5742<5744 by omega),df (show 5216<5744 by omega),df (show 5218<5744 by omega),df (show 60<5744 by omega),g2,aL,ai,a60,di,dl,hP,Int.toNat_natCast]
       simp only[az.set,if_true,dl,Qa];refine List.ext_getElem? fun q=>?_
       simp only[List.getElem?_modify];by_cases hq:j=q
       . subst hq;have hxj:xs[j]?=some xs[j]:=dJ (by omega)
         simp only[if_true,List.getElem?_modify,hxj,Option.map_some];simp[pn,iL,nB,cellAt]
       . simp[hq]
     . simp only[List.map,DE.ae,IE.ae,df (show 5742<12913 by omega),df (show 5742<5744 by omega),g2,di]
       simp only[az.set,if_true,dl];rfl
     . simp only[cH,List.getElem?_modify]at Ef ⊢;by_cases hq:j=m
       . subst hq;have:xs[j]?=some xs[j]:=dJ (by omega)
         simp[this]
       . simp only[hq,if_false];have:=Ef m (by omega)
         simpa using this
   . simp only[BE.ae,df (show 77<5744 by omega),a77]at Qa
     refine eJ rfl fun _=>wY ⟨j+1,xs.modify j fun _=>pn (D.a 60).list (D.a 77).bool pr (V.getD j 0),?_,by omega,?_,fun m hm=>?_⟩
     . simp only[List.map,DE.ae,IE.ae,df (show 5742<5744 by omega),g2,di,Qa]
       simp only[az.set,if_true,dl];rfl
     . simp[nP]
     . simp only[cH,List.getElem?_modify]at Ef ⊢;by_cases hq:j=m
       . subst hq;have:xs[j]?=some xs[j]:=dJ (by omega)
         simp[this]
       . simp only[hq,if_false];have:=Ef m (by omega)
         simpa using this
 . simp only[IE.ae,g2,aV,di,dl,dj]at sS;obtain rfl:j=V.length:=by omega
   have hx:xs=D.je (L.getD k []):=by
     unfold sf.je;rw[eV,eP];refine List.ext_getElem (by simp[nP]) fun q Io uW=>?_
     have:=Ef q (by omega)
     rw[List.getElem_map];simpa[List.getD,Io,show q<V.length by omega]using this
   subst hx;obtain⟨b0,b1,b2,b3,hb,c1,c2,c3,c4⟩:=h.bx;have hA:rh D (D.je (L.getD k [])) (flagsOf (L.getD k [])) x y z out w k dn e1:=⟨fun q hq=>by rw[o1 q (by omega),h.iT q hq],⟨b0,b1,b2,b3,hb,by rw[o1 _ (by omega),c1],by rw[o1 _ (by omega),c2],by rw[o1 _ (by omega),c3],by rw[o1 _ (by omega),c4]⟩,
     by rw[o1 _ (by omega),h.cX],ai,by rw[o1 _ (by omega),h.x],by rw[o1 _ (by omega),h.y],by rw[o1 _ (by omega),h.z],by rw[o1 _ (by omega),h.out],by rw[o1 _ (by omega),h.w],by rw[o1 _ (by omega),h.es],g3⟩
   unfold aa9;refine mZ (fun hl=>?_) (fun hl=>?_)
   . simp only[IE.ae,g3,dl]at hl;exact Wy v8 hA (by omega) (by omega) T0 WD hG
   . simp only[IE.ae,g3,dl]at hl;refine mZ (fun xh=>?_) (fun xh=>?_)
     . simp only[IE.ae,g3,dl]at xh;exact Wz v8 hA (by omega) (by omega) T0 WD hG
     . simp only[IE.ae,g3,dl]at xh;refine WB v8 hA (by omega) (by omega) (by omega) ?_ ?_ T0 WD hG
       . unfold flagsOf;rw[eE,dj];rcases Nat.lt_or_ge V.length 3 with h3|h3
         . rw[Yg h3];simp
         . rw[hE3 h3];omega
       intro r hr;unfold flagsOf at hr;rw[eE]at hr;obtain⟨u,hu,rfl⟩:=List.mem_map.1 hr;rcases aha u hu with rfl|rfl<;>simp
def Nc(D:sf)(L:List (List Int))(vs:List DV):Prop:=∃(k:Nat) (x y z:Int) (out:List (List Int)) (w:Bool),vs=[.i k,.i x,.i y,.i z,.l out,.b w]/\k<=L.length/\D.runs L k [.i x,.i y,.i z] out w
theorem abb{E:Nat->List DV->List DV->Prop}(v8:vo E)(h30:∀ds rs,Nd ds->E 30 ds rs->Eg ds rs){ds:List DV}(Wm:(aM.ar 0 ds 61).list.length<=256)(WE:(aM.ar 0 ds 60).list.length=(aM.ar 0 ds 61).list.length) :
   t18.kU (Sw 18) Qx E (Eb E ds) [] (aM.ar 0 ds) (fun _ _=>True):=by
 obtain⟨a,ha⟩:∃a:az,a=aM.ar 0 ds:=⟨_,rfl⟩;rw[<- ha]at Wm WE;unfold t18;rw[<- ha];refine s_call (pH rfl) fun rs abd=>?_
 obtain⟨b0,rs,rfl,k0⟩:=dz (v8 28 _ _ _ ag5 abd);obtain⟨b1,rs,rfl,k1⟩:=dz k0;obtain⟨b2,rs,rfl,k2⟩:=dz k1;obtain⟨b3,rs,rfl,k3⟩:=dz k2;obtain rfl:=iF k3;refine s_call (pH rfl) fun rs abe=>?_
 obtain⟨S,rs,rfl,k0⟩:=F5 (v8 29 _ _ _ ag6 abe);obtain rfl:=iF k0;refine s_call (pH rfl) fun rs abf=>?_
 obtain⟨L,rs,rfl,k0⟩:=agX (v8 30 _ _ _ ag7 abf);obtain⟨ee,rs,rfl,k1⟩:=dz k0;obtain rfl:=iF k1;have abg:E 28 (j7.map (DE.ae a)) [.i b0,.i b1,.i b2,.i b3]:=abd;have abh:E 29 (j7.map (DE.ae a)) [.l S]:=by
   refine Eq.mp (congrArg (fun q=>E 29 q [.l S]) ?_) abe
   refine List.map_congr_left fun d hd=>?_
   exact(DE.aq (p:=fun k=>decide (k<1119)) (fun k hk=>(az.aX (by simpa using hk)).symm) (List.all_eq_true.1 (show j7.all (DE.all fun k=>decide (k<1119))=true by kernel_rfl) d hd)).symm
 have o3:∀k,k<1119->(((a.ar 1119 [.i b0,.i b1,.i b2,.i b3]).ar 2143 [.l S]).ar 5216 [.l L,.i ee]) k=a k:=fun k hk=>by rw[az.aX (by omega),az.aX (by omega),az.aX (by omega)]
 have T3:E 30 [.i (a 59).int,.l (a 61).list,.b (a 78).bool] [.l L,.i ee]:=abf;obtain⟨hL,abi⟩:L.length<=256/\∀r∈L,tm (a 59).int (a 61).list.length r:=by
   obtain⟨L',e',hq,h1,_,h2⟩:=h30 _ _ ⟨_,_,_,rfl,Wm⟩ T3;cases hq;exact⟨h1,h2 _ _ _ rfl⟩
 refine Cg (Nc ⟨E,a,[.i b0,.i b1,.i b2,.i b3],S⟩ L)
   ⟨0,(a 65).int,(a 66).int,(a 67).int,[],true,?_,by omega,rfl,rfl,rfl⟩ ?_
 . simp only[List.map,DE.ae,IE.ae,BE.ae,o3 65 (by omega),o3 66 (by omega),o3 67 (by omega)]
   rfl
 rintro _ ⟨k,x,y,z,out,w,rfl,hk,Nf⟩;obtain⟨e1,nc⟩:∃e1:az,e1=(((a.ar 1119 [.i b0,.i b1,.i b2,.i b3]).ar 2143 [.l S]).ar 5216 [.l L,.i ee]).ar 5218 [.i k,.i x,.i y,.i z,.l out,.b w]:=⟨_,rfl⟩;have o1:∀j,j<1119->e1 j=a j:=fun j hj=>by rw[nc,az.aX (by omega),o3 j hj]
 have g:e1 1119 = .i b0/\e1 1120 = .i b1/\e1 1121 = .i b2/\e1 1122 = .i b3/\e1 2143 = .l S/\e1 5216 = .l L/\e1 5218 = .i k/\e1 5219 = .i x/\e1 5220 = .i y/\e1 5221 = .i z/\e1 5222 = .l out/\e1 5223 = .b w:=by rw[nc];exact⟨rfl,rfl,rfl,rfl,rfl,rfl,rfl,rfl,rfl,rfl,rfl,rfl⟩
 obtain⟨g0,g1,g2,g3,gS,gL,gi,gx,gy,gz,go,gw⟩:=g;rw[<- nc];refine uh (fun cQ=>?_) (fun sS=>?_)
 . simp only[IE.ae,gi,gL,di,dl]at cQ;have YJ:=abi _ (A9 (l:=L) (k:=k) (by omega))
   rw[<- WE]at YJ;refine eJ rfl fun _=>nJ (M:=dZ (dK Ku (L.getD k []) 0)) (by simp only[cZ.ae,IE.ae,gi,gL,di,dl,Int.toNat_natCast];rfl) (nJ (M:=flagsOf (L.getD k [])) (by simp only[cZ.ae,IE.ae,df (show 5218<5224 by omega),df (show 5216<5224 by omega),gi,gL,di,dl,Int.toNat_natCast];rfl) ?_)
   obtain⟨e2,tz⟩:∃e2:az,e2=(e1.set 5224 (.l (dZ (dK Ku (L.getD k []) 0)))).set 5225 (.l (flagsOf (L.getD k []))):=⟨_,rfl⟩;have o2:∀j,j<5224->e2 j=e1 j:=fun j hj=>by rw[tz,df (by omega),df (by omega)]
   have v4:e2 5224 = .l (dZ (dK Ku (L.getD k []) 0)):=by rw[tz];rfl
   have v5:e2 5225 = .l (flagsOf (L.getD k [])):=by rw[tz];rfl
   rw[<- tz];have hA:∀dn x y z,(e2 dn).int=x->(e2 (dn+1)).int=y->(e2 (dn+2)).int=z->At0 ⟨E,a,[.i b0,.i b1,.i b2,.i b3],S⟩ L x y z out w k dn e2:=fun dn x y z hx hy hz=>
     ⟨fun j hj=>by rw[o2 j (by omega),o1 j hj],⟨b0,b1,b2,b3,rfl,by rw[o2 _ (by omega),g0],by rw[o2 _ (by omega),g1],by rw[o2 _ (by omega),g2],by rw[o2 _ (by omega),g3]⟩,by rw[o2 _ (by omega),gS],by rw[o2 _ (by omega),gL],by rw[o2 _ (by omega),gi],hx,hy,hz,by rw[o2 _ (by omega),go],by rw[o2 _ (by omega),gw],v4,v5⟩
   refine mZ (fun hm=>?_) (fun hm=>?_)
   . simp only[IE.ae,o2 59 (by omega),o1 59 (by omega)]at hm
     refine Ee (D:=⟨E,a,[.i b0,.i b1,.i b2,.i b3],S⟩) v8 (hA 65 (a 65).int (a 66).int (a 67).int (by rw[o2 _ (by omega),o1 _ (by omega)]) (by rw[o2 _ (by omega),o1 _ (by omega)]) (by rw[o2 _ (by omega),o1 _ (by omega)])) (by omega) YJ (G:=Nc ⟨E,a,[.i b0,.i b1,.i b2,.i b3],S⟩ L) (fun vs hv=>by simpa[ox]using hv) ?_
     . intro x' y' z' kF w' dB;exact⟨k+1,x',y',z',kF,w',rfl,by omega,_,out,w,Nf,by rw[if_pos hm];exact dB⟩
   . simp only[IE.ae,o2 59 (by omega),o1 59 (by omega)]at hm
     refine Ee (D:=⟨E,a,[.i b0,.i b1,.i b2,.i b3],S⟩) v8 (hA 5219 x y z (by rw[o2 _ (by omega),gx];rfl) (by rw[o2 _ (by omega),gy];rfl) (by rw[o2 _ (by omega),gz];rfl)) (by omega) YJ (G:=Nc ⟨E,a,[.i b0,.i b1,.i b2,.i b3],S⟩ L) (fun vs hv=>by simpa[ox]using hv) ?_
     . intro x' y' z' kF w' dB;exact⟨k+1,x',y',z',kF,w',rfl,by omega,_,out,w,Nf,by rw[if_neg hm];exact dB⟩
 . simp only[IE.ae,gi,gL,di,dl]at sS;obtain rfl:k=L.length:=by omega
   refine aac (rs:=[.l out,.b w]) (by simp only[List.map,DE.ae,BE.ae,go,gw,dl,db]) ⟨[.i b0,.i b1,.i b2,.i b3],S,L,ee,[.i x,.i y,.i z],out,w,rfl,?_,?_,?_,?_,rfl⟩
   . rw[<- ha];exact abg
   . rw[<- ha];exact abh
   . rw[<- ha];exact T3
   . rw[<- ha];exact Nf
end Go.Proofs.YtohebioanhliiaaGreatDoor.aD
namespace Go.Proofs.YtohebioanhliiaaGreatDoor.aD
open Go.Sx Go
structure oq(X:bA):Prop where
 kd:∀k s ds rs,iD k=some s->bK (TT Tryz.prog) X k ds rs->kinds (bD s.res) rs=true
 no:∀ds,X 999999 ds=none
theorem acN:(rowOf 18).sub=[(104106,999999),(104150,999999),(205245,999999)]:=by kernel_rfl
theorem no9:TT Tryz.prog 999999=none:=by kernel_rfl
abbrev tk:gR:=⟨18,t18,(rowOf 18).sub⟩
theorem acO(g:FuncId):tk.key g=g\/tk.key g=999999:=by
 show(match(rowOf 18).sub.find? (fun p=>p.1==g)with
   |some p=>p.2
   |none=>g)=g\/(match(rowOf 18).sub.find? (fun p=>p.1==g)with
   |some p=>p.2
   |none=>g)=999999
 rw[acN];by_cases h1:(104106==g)=true
 . exact Or.inr (by simp[h1])
 . by_cases h2:(104150==g)=true
   . exact Or.inr (by simp[h1,h2])
   . by_cases h3:(205245==g)=true
     . exact Or.inr (by simp[h1,h2,h3])
     . exact Or.inl (by simp[h1,h2,h3])
theorem D9{X:bA}(h:∀ds,X 999999 ds=none){ds rs:List DV}(hg:bK (TT Tryz.prog) X 999999 ds rs):False:=by
 obtain⟨n,hn⟩:=hg;cases n with
 |zero=>cases hn
 | succ n=>
   simp only[ev,no9,h]at hn;cases hn
theorem NI{X:bA}(h:oq X):vo (fun g=>bK (TT Tryz.prog) X (tk.key g)):=fun k s ds rs hs hg=>by
 have hg:bK (TT Tryz.prog) X (tk.key k) ds rs:=hg;rcases acO k with e|e
 . rw[e]at hg;exact h.kd k s ds rs hs hg
 . rw[e]at hg;exact(D9 h.no hg).elim
theorem MZ:(kc 18).args[61]?=some (.l 0 (some 256) [(0,1)]):=by kernel_rfl
theorem acP:((kc 18).pre.any fun p=>p.beq (.eq (.len 60) (.len 61)))=true:=by kernel_rfl
theorem acQ:Nat.ble (kc 18).args.length R0=true:=by kernel_rfl
theorem ajN:kc 73=⟨[.l 0 (some 1099511627776) (List.replicate 8 (mn,mx)),.l 0 (some 1099511627776) [(0,1)],.l 0 (some 1099511627776) (List.replicate 5 (mn,mx))],[],[.l 0 (some 131072) (List.replicate 8 (mn,mx)),.l 0 (some 131072) [(0,1)],.i mn mx],[.eq (.len (R0+1)) (.len R0)]⟩:=by kernel_rfl
theorem W8:RX 18 73 (kc 73)=⟨[.l 0 (some 1099511627776) (List.replicate 8 (mn,mx)),.t,.l 0 (some 1099511627776) (List.replicate 5 (mn,mx))],[],[.l 0 (some 131072) (List.replicate 8 (mn,mx)),.l 0 (some 131072) [(0,1)],.i mn mx],[.eq (.len (R0+1)) (.len R0)]⟩:=by kernel_rfl
theorem SJ{j:Nat}(h:j≠73)(c:Cn):RX 18 j c=c:=by
 unfold RX;simp[h]
theorem yJ{al:List A}{i b:Nat}{a:A}(h:al[i]?=some a):(b+i,a)∈mA b al:=by
 induction al generalizing i b with
 |nil=>cases h
 | cons x al ih=>
   cases i with
   |zero=>cases h;exact aO ..
   | succ i=>
     refine bp _ ?_;have:=ih (i:=i) (b:=b+1) h;rwa[Nat.add_right_comm,Nat.add_assoc]at this
theorem sC{lo hi:Int}{cs:List (Int×Int)}{d:DV}(h:A.has (.l lo (some hi) cs) d):(d.list.length:Int)<=hi:=by
 cases d<;>first|exact h.elim|exact h.2.1 _ rfl
theorem J3{X:bA}(hG:mE (TT Tryz.prog) X kc (ord.take 125)):∀j c,Kw 18 125 j=some c->Mt (TT Tryz.prog) X Qx j c:=fun j c hc=>by
 unfold Kw at hc;split at hc
 . rename_i c' AK;have gD:=FO hG j c' AK;have hk:c'=kc j:=by
     unfold Ru at AK;split at AK
     . cases AK;rfl
     . cases AK
   subst hk;cases hc;by_cases h:j=73
   . subst h;intro ds hp;rw[W8]at hp ⊢;rw[ajN]at gD;refine⟨fun hh=>?_,fun _=>⟨[.l [],.l [],.i 0],?_⟩⟩
     . obtain⟨V,Fl,S,rfl,h1,h2⟩:=hh rfl;obtain⟨⟨a1,_,a3,_⟩,_⟩:=hp;exact gD [.l V,.l Fl,.l S] ⟨⟨a1,⟨by omega,fun y hy=>by cases hy;omega,fun r hr=>⟨h2 r hr,trivial⟩⟩,a3,trivial⟩,fun p hp=>by cases hp⟩
     . refine⟨⟨⟨by decide,fun y hy=>by cases hy;decide,fun r hr=>by cases hr⟩,⟨by decide,fun y hy=>by cases hy;decide,fun r hr=>by cases hr⟩,⟨by decide,by decide⟩,trivial⟩,fun p hp=>?_⟩
       obtain rfl:p = .eq (.len (R0+1)) (.len R0):=by simpa using hp
       have q0:fK ds [.l [],.l [],.i 0] R0 = .l []:=kX (e:=aM.ar 0 ds) (b:=R0) (j:=0) (ds:=[.l [],.l [],.i 0]) (by decide)
       have q1:fK ds [.l [],.l [],.i 0] (R0+1) = .l []:=kX (e:=aM.ar 0 ds) (b:=R0) (j:=1) (ds:=[.l [],.l [],.i 0]) (by decide)
       simp[BE.ae,IE.ae,q0,q1]
   . rw[SJ h];intro ds hp;obtain⟨rs,g,q⟩:=gD ds hp;exact⟨fun _=>⟨rs,g,q⟩,fun _=>⟨rs,q⟩⟩
 . cases hc
theorem g18{X:bA}(hX:oq X)(hG:mE (TT Tryz.prog) X kc (ord.take 125)):lH (TT Tryz.prog) X 18 (kc 18).fS (fun ds rs=>(kc 18).fX ds rs/\Eb (fun g=>bK (TT Tryz.prog) X (tk.key g)) ds rs):=by
 refine JE (H:=Qx) (R:=Eb (fun g=>bK (TT Tryz.prog) X (tk.key g))) T18 (J3 hG) (au 18) acQ c18 fun ds hp=>?_
 have Wm:((aM.ar 0 ds 61).list.length:Int)<=256:=sC (mD (U:=aM) (base:=0) hp.1 _ (yJ (b:=0) MZ));have WE:(aM.ar 0 ds 60).list.length=(aM.ar 0 ds 61).list.length:=by
   have:=acP;rw[List.any_eq_true]at this;obtain⟨p,h1,h2⟩:=this;have e:=hp.2 p h1;rw[BE.beq_eq h2]at e;have e:((aM.ar 0 ds 60).list.length:Int)=(aM.ar 0 ds 61).list.length:=of_decide_eq_true e;omega
 refine abb (NI hX) (fun ds rs hp hg=>?_) (by omega) WE
 obtain⟨dW,g',h'⟩:=g30 (X:=X) ds hp;cases bK.AR (show bK (TT Tryz.prog) X 30 ds rs from hg) g'
 exact h'
theorem aho{X:bA}(hX:oq X):NH Tryz.prog X 125 18:=fun hG=>lH.weaken (g18 hX hG) (fun _ h=>h) fun _ _ _ h=>h.1
end Go.Proofs.YtohebioanhliiaaGreatDoor.aD

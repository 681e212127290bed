/- The symbolic executor: its soundness, and what a table of functions gives. -/
import Derived.Test.YtohebioanhliiaaGreatDoorBA3
set_option linter.unusedVariables false
set_option linter.unusedSimpArgs false
namespace Go.Sx
section
open Go.RowKit
variable {U ai:aA}{ph aJ:Ph}{P:Program}
theorem CM{w:World}{g:Nat}{v:Value}{T:TypeId}{z:Nat×Nat}(h:w.heap[g]?=some (.cells #[v] T z)):w.setCell ⟨g,0,none⟩ v=w:=by
 obtain⟨heap,tape,drawn,os,output⟩:=w;simp only[World.setCell];congr 1;apply Array.ext_getElem?;intro k;rw[Array.getElem?_modify];split;rename_i e;simp only at h e ⊢;subst e;rw[h];simp;rfl
theorem xw(w:World)(g j:Nat)(v:Value):w.grownBy (w.setCell ⟨g,j,none⟩ v) (some g):=
 ⟨rfl,rfl,rfl,by simp[World.setCell],fun k _ hk=>Below.heap_setCell _ _ _ _ (fun e=>hk (by rw[e]))⟩
theorem kp{h st:St}(hp:mg (some h) st=true){b:gD}(hb:b∈h.aR):b∈st.aR:=by
 simp only[mg,ah,k7,aD]at hp;exact(dm (hp.1.1 b hb)).1
theorem J4{h st:St}(hp:mg (some h) st=true){r:Row}(hr:r∈h.rows):r∈st.rows:=by
 simp only[mg,ah,k7,aD]at hp;exact(aT (hp.1.2 r hr)).1
theorem mq{h st:St}(hp:mg (some h) st=true){r:df}(hr:r∈h.aV):r∈st.aV:=by
 simp only[mg,ah,k7,aD]at hp;simpa using hp.2 r hr
theorem EA{aK:jA}{w0 w2:World}{st tt:St}{c:Int}{o:Obj}(hd:st.nD=[])(hnb:∀b∈st.aR,b.all st.has=true)(oM:∀r∈st.rows,r.all st.has=true)(hnn:∀r∈st.aV,r.all st.has=true)(hM:q9 w0 ai aJ tt w2)(hp:mg (some (eW aK st)) tt=true)
   (Rj:aK.Ea.contains st.next=false) (bq:∀k,k<st.next+1->U k=ai k) :
   q9 w0 (U.set (st.next+1) (.i c)) aJ (kJ (eW aK st) st.next (.v (st.next+1))) ((w2.alloc o).setCell ⟨aJ.r st.next,0,none⟩ (.int .i64 c)):=by
 have hh:=cU hd;rw[hh]at hnb oM hnn;have V4:(⟨st.next,aK.nH,[.i .i64 (.c 0)]⟩:gD)∈(eW aK st).aR:=by
   simp only[eW,oh,RM,iK,fp,true_or,true_and,Rj,Bool.not_false]
 have H4:=hM.mem.lP _ (kp hp V4);have a6:∀b∈(eW aK st).aR,b=⟨st.next,aK.nH,[.i .i64 (.c 0)]⟩\/(b∈st.aR/\b.id<st.next):=fun b hb=>by
   simp only[eW,oh,RM,iK,fp]at hb;rcases hb.1 with h|h;exact .inl h;refine .inr ⟨h,?_⟩;have:=hnb b h;simp only[gD.all,ah,aX,aD]at this;exact this.1
 have fS:(eW aK st).rows=st.rows:=rfl;have iM:∀k,aX st.next k=true->ai k=U.set (st.next+1) (.i c) k:=fun k hk=>by
   simp only[aX,aD]at hk;rw[<- bq k (by omega),aA.set,if_neg (by omega)]
 have hA:a8 (aX st.next) ai (U.set (st.next+1) (.i c)) aJ aJ:=⟨iM,fun _ _=>rfl,fun _ _=>rfl⟩;have LW:w2.grownBy (w2.alloc o) (some (aJ.r st.next)):=hZ (World.grownBy_alloc w2 _ none);have hg:w2.grownBy ((w2.alloc o).setCell ⟨aJ.r st.next,0,none⟩ (.int .i64 c)) (some (aJ.r st.next)):=nC LW (xw _ _ _ _);have ZM:∀r∈st.rows,r.bM (U.set (st.next+1) (.i c)) aJ=r.bM ai aJ/\r.g.ae (U.set (st.next+1) (.i c))=r.g.ae ai/\r∈tt.rows:=fun r hr=>by
   have:=oM r hr;simp only[Row.all,ah]at this;refine⟨by unfold Row.bM;rw[<- iM _ this.2.1],(BE.ak iM this.2.2).symm,J4 hp (by rw[fS];exact hr)⟩
 have yS:∀b'∈(kJ (eW aK st) st.next (.v (st.next+1))).aR,∃b∈(eW aK st).aR,b'.id=b.id/\b∈tt.aR/\((b.id=st.next/\b' = {b with cells:=[.i .i64 (.v (st.next+1))] }/\b=⟨st.next,aK.nH,[.i .i64 (.c 0)]⟩)\/(b.id≠st.next/\b'=b/\b∈st.aR)):=fun b' mE=>by
   simp only[kJ,kE]at mE;obtain⟨b,hb,rfl⟩:=mE;refine⟨b,hb,by split<;>rfl,kp hp hb,?_⟩;rcases a6 b hb with h|⟨h1,h2⟩;exact .inl ⟨by rw[h],by rw[if_pos (by rw[h])],h⟩;exact .inr ⟨by omega,by rw[if_neg (by omega)],h1⟩
 refine⟨⟨fun b' mE=>?_,fun b' mE b1' adP ck=>?_,fun r hr h1=>?_,fun b' mE r hr h1=>?_,fun r hr r' cq ck ho h1 h2 k hk cK=>?_⟩,?_,fun b' mE=>?_,fun r hr=>?_,?_⟩
 . obtain⟨b,hb,kF,ti,⟨h1,h2,h3⟩|⟨h1,h2,h3⟩⟩:=yS b' mE
   . subst h3;subst h2;refine⟨H4.1,?_⟩;have hx:(w2.alloc o).heap[aJ.r st.next]?=some (.cells #[.int .i64 0] aK.nH (0,0)):=by
       rw[Below.heap_alloc _ _ _ H4.lt];simpa[ag.ae,IE.ae]using H4.2
     simp only[World.setCell,Array.getElem?_modify,if_true,hx];simp[ag.ae,IE.ae,aA.set,DV.int]
   . subst h2;have Rk:=hM.mem.lP _ ti;have ck:aJ.r b'.id≠aJ.r st.next:=hM.mem.bb _ ti _ (kp hp V4) h1
     have h4:=Rk.grown hg (fun e=>ck (by simpa using e));have b6:=hnb _ h3;simp only[gD.all,ah]at b6;refine⟨h4.1,?_⟩;rw[h4.2,jr hA b6.2]
 obtain⟨b,hb,kF,ti,_⟩:=yS b' mE;obtain⟨b1,vp,adQ,adR,_⟩:=yS b1' adP;rw[kF,adQ]at ck ⊢;exact hM.mem.bb b ti b1 adR ck;have hr:r∈st.rows:=hr;obtain⟨e1,e2,e3⟩:=ZM r hr;have h4:=(hM.mem.row r e3 (by rw[<- e2];exact h1)).grown hg (fun k hk e=>hM.mem.br _ (kp hp V4) r e3 (by rw[<- e2];exact h1) (by rw[hk];exact e));have b6:=oM r hr;simp only[Row.all,ah]at b6;unfold fw at *;rw[<- iM _ b6.2.1];exact h4;obtain⟨b,hb,kF,ti,_⟩:=yS b' mE;have hr:r∈st.rows:=hr;obtain⟨e1,e2,e3⟩:=ZM r hr;rw[kF,e1];exact hM.mem.br b ti r e3 (by rw[<- e2];exact h1);have hr:r∈st.rows:=hr;have cq:r'∈st.rows:=cq;obtain⟨e1,e2,e3⟩:=ZM r hr;obtain⟨f1,f2,f3⟩:=ZM r' cq;exact hM.mem.rr r e3 r' f3 ck ho (by rw[<- e2];exact h1) (by rw[<- f2];exact h2) k (by rw[<- e1];exact hk) (by rw[<- f1];exact cK)
 . refine(hM.below.alloc hM.below.size o).setCell (p:=⟨aJ.r st.next,0,none⟩) H4.1 _
 . have hn:(kJ (eW aK st) st.next (.v (st.next+1))).has=aX (st.next+fY):=cU rfl;rw[hn];obtain⟨b,hb,kF,ti,⟨h1,h2,h3⟩|⟨h1,h2,h3⟩⟩:=yS b' mE;subst h3;subst h2;simp[gD.all,aX,fY,a7,ag.all,IE.all];subst h2;exact gD.ax (cx (qS _ _)) (hnb _ h3)
 . have hn:(kJ (eW aK st) st.next (.v (st.next+1))).has=aX (st.next+fY):=cU rfl;rw[hn];exact Row.ax (cx (qS _ _)) (oM _ hr)
 . have hn:=hM.nest;refine⟨fun k hk=>B9 (hn.lt k hk) hg.size,fun b' mE=>?_,fun r hr ho h1 k hk=>?_,fun n eX h1=>?_,fun n eX=>?_,fun n eX ho=>?_⟩;obtain⟨b,hb,kF,ti,_⟩:=yS b' mE;rw[kF];exact hn.bz b ti;have hr:r∈st.rows:=hr;obtain⟨e1,e2,e3⟩:=ZM r hr;exact hn.rz r e3 ho (by rw[<- e2];exact h1) k (by rw[<- e1];exact hk)
   . have eX:n∈st.aV:=eX;have b6:=hnn n eX;simp only[df.all,ah]at b6;obtain⟨h2,h3⟩:=hn.rd n (mq hp eX) (by rw[BE.ak iM b6.2.2];exact h1);refine⟨h2,?_⟩;have hgz:∀k,aJ.z k->some k≠some (aJ.r st.next):=fun k hk e=>by
       simp only[af]at e;subst e;exact hn.bz _ (kp hp V4) hk
     unfold eH at *;rw[<- iM _ b6.2.1];split;rename_i ho;rw[if_pos ho]at h3;exact h3.ln (fun k hk=>hg.block k (hn.lt k hk.1) (hgz k hk.1)) (fun _ h=>h) (fun k hk=>hg.block k (hn.nA (mq hp eX) ho hk).2 (fun e=>by
       simp only[af]at e;exact((hn.oz n (mq hp eX) ho).2 k hk).2.1 _ (kp hp V4) e.symm))
     rename_i ho;rw[if_neg ho]at h3;exact h3.ln (fun k hk=>hg.block k (hn.lt k hk) (hgz k hk)) (fun _ h=>h)
   . have Le:(kJ (eW aK st) st.next (.v (st.next+1))).has=aX (st.next+fY):=cU rfl;rw[Le];exact df.ax (cx (qS _ _)) (hnn _ eX)
   have eX:n∈st.aV:=eX;obtain⟨f1,f2⟩:=hn.oz n (mq hp eX) ho;refine⟨f1,fun k hk=>?_⟩;obtain⟨g1,g2,g3,g4⟩:=f2 k hk;refine⟨g1,fun b' mE e=>?_,fun r hr h1 hf=>?_,fun n' mT oL ck=>g4 n' (mq hp mT) oL ck⟩;obtain⟨b,hb,kF,ti,_⟩:=yS b' mE;rw[kF]at e;exact g2 b ti e;have hr:r∈st.rows:=hr;obtain⟨e1,e2,e3⟩:=ZM r hr;exact g3 r e3 (by rw[<- e2];exact h1) (by rw[<- e1];exact hf)
end
section
open Go.RowKit
variable {U ai:aA}{ph aJ:Ph}{P:Program}
def V5(P:Program)(aK:jA)(Γ:bK)(R:List DV->Prop)(w0:World)(L:List Nat)(ex:Ex):Prop:=
 ∀(h:Option St) (g:FuncId) (vs:List V1) (st:St) (kr:List V1->St->ar) (U:aA) (ph:Ph) (w:World) (F:Nat->List DV->Prop) (Ps:List (Int->Prop)) (J5:Ending->World->Prop),
   q9 w0 U ph st w->st.nD=[]->(∀p∈aK.no,p.1<st.next/\(U p.1).int≠p.2)->cV st.has vs=true->(ex h g vs st kr).holds Γ R Ps U F->
   (∀ai aJ aW w' rv F',a8 st.has U ai ph aJ->(∀j∈L,F' j=F j)->q9 w0 ai aJ aW w'->aW.nD=[]->st.next<=aW.next->cV aW.has rv=true->(kr rv aW).holds Γ R Ps ai F'->J5 (.returned (packed (rv.map (V1.ae ai aJ)))) w')->
   (∀ai aJ aW w' e,a8 st.has U ai ph aJ->q9 w0 ai aJ aW w'->mg h aW=true->jI Ps e->J5 (.panicked [eJ aK.cw e]) w')->
   (∀w args,(callFunc g args).run P w = .ok (.enter g args) w)/\Calls P g (vs.map (V1.ae U ph)).toArray w J5
end
section
open Go.RowKit
variable {U ai:aA}{ph aJ:Ph}{P:Program}
theorem xF{st:St}{dst:Option Tmp}{s:aN}:(st.put dst s).nD=st.nD:=by cases dst<;>rfl
theorem uA{st:St}{dst:Option Tmp}{s:aN}:(st.put dst s).next=st.next:=by cases dst<;>rfl
theorem Gp{st aW:St}(h1:st.nD=[])(h2:aW.nD=[])(h:st.next<=aW.next):∀k,st.has k=true->aW.has k=true:=by
 rw[cU h1,cU h2];exact cx h
theorem aN.MB{p:BE}{v:Bool}(hp:p.ae U=v)(s:aN):(s.know p v).ae U ph=s.ae U ph:=by
 unfold aN.know;split;rename_i x hx;split;rename_i he;subst he;simp only[aN.ae,hx,SV.ae,V1.ae,ag.ae,BE.ae,hp];split;rename_i he;subst he;simp only[aN.ae,hx,SV.ae,V1.ae,ag.ae,BE.bY,BE.ae,hp];rfl;rfl
theorem aN.MC{p:BE}{v:Bool}{q:Nat->Bool}{s:aN}(h:s.all q=true):(s.know p v).all q=true:=by
 have hg:s.g.all q=true:=by
   simp only[aN.all,ah]at h;exact h.1
 unfold aN.know;split;split;simp[aN.all,SV.all,V1.all,ag.all,BE.all,hg];split;simp[aN.all,SV.all,V1.all,ag.all,BE.all,hg];exact h;exact h
theorem Sat.know{w0 w:World}{st:St}{a:Act}{p:BE}{v:Bool}(hs:Sat w0 U ph st a w)(hp:p.ae U=v):Sat w0 U ph (st.know p v) a w:=by
 have Ju:∀(t:Nat) (s:aN),(st.know p v).tmps[t]?=some (some s)->∃s0,st.tmps[t]?=some (some s0)/\s=s0.know p v:=fun t s ht=>by
   simp only[St.know,gJ,bl]at ht;obtain⟨x,hx,ht⟩:=ht;obtain⟨s0,rfl,rfl⟩:=ht;exact⟨s0,hx,rfl⟩
 refine⟨⟨by rw[<- hs.tmps.1];simp[St.know],fun t s ht=>?_⟩,hs.mem,hs.below,hs.defers,⟨fun t s ht=>?_,hs.names.aR,hs.names.rows⟩,hs.nest.same (fun _ h=>h) rfl rfl rfl⟩;obtain⟨s0,h0,rfl⟩:=Ju t s ht;rw[aN.MB hp];exact hs.tmps.2 t s0 h0;obtain⟨s0,h0,rfl⟩:=Ju t s ht;exact aN.MC (hs.names.tmps t s0 h0)
section
variable {aK:jA}{Γ:bK}{R:List DV->Prop}{w0:World}{L:List Nat}{ex:Ex}{h:Option St}{ops:Array Oper}{Q:Exit->Act->World->Prop}{CN:St->ar}{base:Nat}{e0:aA}{p0:Ph}{F0:Nat->List DV->Prop}{Ps:List (Int->Prop)}
theorem sZ(hB:ja P aK)(gQ:dt P Γ aK w0)(hex:V5 P aK Γ R w0 L ex)(oc:∀p∈aK.no,p.1<base/\(e0 p.1).int≠p.2)
   (hK:∀ai aJ aW a' w' F',a8 (aX base) e0 ai p0 aJ->(∀j∈L,F' j=F0 j)->Sat w0 ai aJ aW a' w'->aW.nD=[]->base<=aW.next->(CN aW).holds Γ R Ps ai F'->Q .normal a' w')
   (hP:∀ai aJ aW (a':Act) w' e,a8 (aX base) e0 ai p0 aJ->a'.defers=[]->q9 w0 ai aJ aW w'->mg h aW=true->jI Ps e->Q (.panic [eJ aK.cw e]) a' w') :
   ∀ {l:List Oper} {st:St} {U:aA} {ph:Ph} {a:Act} {w:World} {F:Nat->List DV->Prop},Sat w0 U ph st a w->st.nD=[]->base<=st.next->a8 (aX base) e0 U p0 ph->(∀j∈L,F j=F0 j)->(jD P aK h ops ex l st CN).holds Γ R Ps U F->wpList P ops Q l a w:=by
 intro l;induction l with
 | nil=>
   intro st U ph a w F hs hd hb bq hF hh;exact hK U ph st a w F bq hF hs hd hb hh
 | cons o l ih=>
   intro st U ph a w F hs hd hb bq hF hh;simp only[jD]at hh;have oy:=cU hd;have Cu:∀p∈aK.no,p.1<st.next/\(U p.1).int≠p.2:=fun p hp=>by
     obtain⟨h1,h2⟩:=oc p hp;exact⟨by omega,by rw[<- bq.e p.1 (by simp only[aX,aD];exact h1)];exact h2⟩
   have hup:∀ {ai aJ},a8 st.has U ai ph aJ->a8 (aX base) e0 ai p0 aJ:=fun h=>kM bq (gR (by rw[<- oy];exact h) hb);split at hh;exact hh.elim
   . rename_i G hg;have aaF:=ik hg hs.tmps;show Ll P ops Q o (wpList P ops Q l) a w;split at hh
     . split at hh
       . rename_i r nF;split at hh
         . rename_i cN aW mD;have he:=lI hh;obtain⟨rfl,rfl,hm⟩:=jG mD;exact lG (Γ:=Γ.at (jI Ps)) (cN:=r.1) (aW:=r.2) hs nF he gQ fun CA Bh a1 w1 dM vE=>ih (dM.sat.close (aW:={r.2 with next:=qX st.next r.2,nD:=[] }) rfl rfl rfl rfl hm) rfl (jS hb (ow _ _).1) (hup dM.agree) hF vE
         exact hh.elim
       exact hh.elim
     . rename_i sp Rh;have no:(jD P aK h ops ex l (st.put o.dst jw) CN).holds Γ R Ps U F->wpList P ops Q l (a.put o.dst undef) w:=fun hn=>
         ih (hs.put l6 lZ.symm) (by rw[xF];exact hd) (by rw[uA];exact hb) bq hF hn
       have yes:G.ae U=true->(HQ aK h ex st o.dst (fun aW=>jD P aK h ops ex l aW CN) sp).holds Γ R Ps U F->o.wp P a w (wpList P ops Q l) Q:=by
         intro hG hy;have sX:=wN (P:=P) hB hG hs.tmps Rh;cases sp with
         | inl g vs=>
           obtain⟨hv,cd⟩:=sX;obtain⟨kQ,mV⟩:=hex h g vs st _ U ph w F Ps (fun e w'=>match e with
             |.returned v=>wpList P ops Q l (a.put o.dst v) w'
             |.panicked c=>Q (.panic c) a w'
             | .outgrown=>LetsOut Q) hs.VP hd Cu hv hy (fun ai aJ aW w' rv F' g1 g2 g3 g4 g5 g6 g7=>by
               refine ih (g3.back hs g1 (Gp hd g4 g5) ?_ se.symm) g4 (jS hb g5) (hup g1) (fun j hj=>(g2 j hj).trans (hF j hj)) g7;have:=ot (G:=.c true) (q:=aW.has) rfl g6;simpa[aN.all,BE.all]using this) (fun ai aJ aW w' e g1 g2 g3 g4=>hP ai aJ aW a w' e (hup g1) hs.defers g2 g3 g4)
           unfold Oper.wp;rw[cd kQ w,Oper.upon_enter];refine Calls.mono mV fun e w' he=>?_;cases e<;>exact he
         | val x=>
           obtain⟨hx,cd⟩:=sX;unfold Oper.wp;rw[cd w,Oper.upon_value];exact ih (hs.put (s:=⟨.c true,.v x⟩) (v:=x.ae U ph) (by simp only[aN.all,BE.all,Bool.true_and];exact hx) (by simp[aN.ae,BE.ae,SV.ae])) (by rw[xF];exact hd) (by rw[uA];exact hb) bq hF hy
         | aG ok e=>
           obtain⟨f,hf,he,iQ,cd⟩:=sX;obtain⟨kQ,hc⟩:=hB.aG f hf;unfold Oper.wp;rw[cd kQ w,Oper.upon_enter];refine Calls.mono (hc (ok.ae U) (e.ae U) w) ?_;rintro en w' ⟨rfl,⟨iQ,rfl⟩|⟨iQ,rfl⟩⟩;exact ih (hs.put (s:=⟨.c true,.Fu []⟩) (v:=.tuple #[]) rfl (by simp[aN.ae,BE.ae,SV.ae])) (by rw[xF];exact hd) (by rw[uA];exact hb) bq hF (hy.1 iQ);have h2:=hy.2 iQ;unfold T6 at h2;split at h2;rename_i lu;simp only[ah]at lu;exact hP U ph st a _ _ bq hs.defers hs.VP lu.1 h2;exact h2.elim
         | JE g vs=>
           simp only[HQ]at hy;split at hy;exact hy.elim
           . rename_i Rj;have Rj:aK.Ea.contains st.next=false:=by simpa using Rj
             obtain⟨f,hf,hv,cd⟩:=sX;obtain⟨kQ,hc⟩:=hB.vB f hf;obtain⟨_,dM⟩:=A6 (dst:=none) (key:=st.next) (e:=aK.nH) (ls:=[.i .i64 (.c 0)]) (cN:=[]) hs (by unfold n5;rw[if_pos (by simp[St.free,hd,a7,ag.all,IE.all])]);have ZN:(w.alloc (.cells (([ag.i .i64 (.c 0)]).map (ag.ae U ph)).toArray aK.nH))=w.alloc (.cells #[.int .i64 0] aK.nH):=by simp[ag.ae,IE.ae]
             rw[ZN]at dM;have hT:q9 w0 U (ph.nE st.next w.heap.size) (oh aK st) (w.alloc (.cells #[.int .i64 0] aK.nH)):=(dM.sat.close (aW:=oh aK st) rfl rfl rfl rfl (by
               intro k hk;have hn:(oh aK st).has=aX (st.next+fY):=cU rfl;rw[hn];have hk:(st.bd st.next 1).has k=true:=hk;rw[vl,oy]at hk;simp only[aX,fU,ah,aD]at hk;have h64:fY=512:=rfl;simp only[aX,aD];omega)).VP
             have ZO:(oh aK st).has=aX (st.next+fY):=cU rfl;have aaG:a8 st.has U U ph (ph.nE st.next w.heap.size):=dM.agree;have H5:∀ {ai aJ},a8 (oh aK st).has U ai (ph.nE st.next w.heap.size) aJ->a8 st.has U ai ph aJ:=fun g=>kM aaG ⟨fun k hk=>g.e k (by rw[ZO];rw[oy]at hk;exact cx (qS _ _) k hk),fun k hk=>g.r k (by rw[ZO];rw[oy]at hk;exact cx (qS _ _) k hk),fun k hk=>g.v k (by rw[ZO];rw[oy]at hk;exact cx (qS _ _) k hk)⟩;have gn:∀ {ai aJ},a8 (oh aK st).has U ai (ph.nE st.next w.heap.size) aJ->aJ.r st.next=w.heap.size:=fun g=>by
               rw[<- g.r st.next (by rw[ZO];simp[aX,fY])];simp[Ph.nE]
             have V4:(⟨st.next,aK.nH,[.i .i64 (.c 0)]⟩:gD)∈(eW aK st).aR:=by
               simp only[eW,oh,RM,iK,fp,true_or,true_and,Rj,Bool.not_false]
             obtain⟨adS,mV⟩:=hex (some (eW aK st)) g vs (oh aK st) _ U (ph.nE st.next w.heap.size) (w.alloc (.cells #[.int .i64 0] aK.nH)) F _ (fun e w2=>w2.heap[w.heap.size]?=some (.cells #[.int .i64 0] aK.nH (0,0))/\((e = .returned (.tuple #[])/\(w2.heap[w.heap.size]?=some (.cells #[.int .i64 0] aK.nH (0,0))/\wpList P ops Q l (a.put o.dst (.int .i64 0)) w2))\/∃c,e = .panicked [eJ aK.cw c]/\∀ob,wpList P ops Q l (a.put o.dst (.int .i64 c)) ((w2.alloc ob).setCell ⟨w.heap.size,0,none⟩ (.int .i64 c)))) hT rfl (fun p hp=>⟨B9 (Cu p hp).1 (qS _ _),(Cu p hp).2⟩) (by rw[ZO];rw[oy]at hv;exact(wj (cx (qS _ _)) hv)) hy
               (fun ai aJ aW w2 rv F' g1 g2 g3 g4 g5 g6 g7=>by
                 split at g7;rename_i lu;simp only[ah,aD]at lu;obtain⟨rfl,Cg⟩:=lu;have jT:=(g3.mem.lP _ (dm Cg).1).2;simp only[gn g1,jt,mJ,ag.ae,IE.ae]at jT;refine⟨jT,.inl ⟨rfl,jT,?_⟩⟩;simp only[ar.holds]at g7;exact ih (g3.back hs (H5 g1) (Gp hd g4 (jS (qS _ _) g5)) rfl rfl) g4 (jS hb (jS (qS _ _) g5)) (hup (H5 g1)) (fun j hj=>(g2 j hj).trans (hF j hj)) g7;exact g7.elim)
               (fun ai aJ aW w2 e g1 g2 g3 g4=>by
                 have jT:=(g2.mem.lP _ (kp g3 V4)).2;simp only[gn g1,jt,mJ,ag.ae,IE.ae]at jT;refine⟨jT,.inr ⟨e,rfl,fun ob=>?_⟩⟩;have hC:=EA (c:=e) (o:=ob) (U:=U) hd hs.names.aR hs.names.rows hs.nest.nm g2 g3 Rj (fun k hk=>g1.e k (by
                   have h64:fY=512:=rfl;rw[ZO];simp only[aX,aD];omega))
                 rw[gn g1]at hC;have lH:a8 st.has U (U.set (st.next+1) (.i e)) ph aJ:=by
                   refine⟨fun k hk=>?_,(H5 g1).r,(H5 g1).v⟩;rw[oy]at hk;simp only[aX,aD]at hk;rw[aA.set,if_neg (by omega)]
                 refine ih (hC.back hs lH (Gp hd rfl (qS _ _)) (by
                   have hn:(kJ (eW aK st) st.next (.v (st.next+1))).has=aX (st.next+fY):=cU rfl;rw[hn];simp[SV.all,V1.all,ag.all,IE.all,aX,fY]) (by simp[SV.ae,V1.ae,ag.ae,IE.ae,aA.set,DV.int])) rfl (jS hb (qS _ _)) (hup lH) hF g4)
             rw[<- AV aaG hv]at mV;unfold Oper.wp;rw[cd kQ w,Oper.upon_enter];refine Calls.mono (hc g _ w _ _ (fun w=>adS w _) mV) ?_;rintro en w' ⟨w2,⟨rfl,⟨Uh,hw⟩,rfl⟩|⟨c,rfl,hw,rfl⟩⟩;simp only;rw[CM Uh];exact hw;exact hw _
       unfold Ll;rw[aaF];split at hh;simp only[BE.ae,if_true];exact .inl (yes rfl hh);simp only[BE.ae,iC,if_false];exact no hh;rename_i G' _ _;cases hG:G.ae U;simp only[iC,if_false];exact ih (((hs.know hG)).put l6 lZ.symm) (by rw[xF];exact hd) (by rw[uA];exact hb) bq hF (hh.2 hG);simp only[if_true];exact .inl (yes hG (hh.1 hG))
end
end
section
open Go.RowKit
variable {U ai:aA}{ph aJ:Ph}{P:Program}
theorem R9{w0 wR w:World}{bX st:St}{eS:aA}{pS:Ph}{W:List Nat}{aS a:Act}(A8:Sat w0 eS pS bX aS wR)(hs:Sat w0 U ph st a w)(bq:a8 bX.has eS U pS ph)(hk:FW bX W st=true):Kept bX eS pS W wR w:=by
 simp only[FW,ah,k7,fU,aD]at hk;refine⟨fun b hb hw=>?_,fun r hr hw=>?_⟩;have AW:=(dm ((hk.1 b hb).resolve_left (by rw[hw];simp))).1;have h1:=(A8.mem.lP b hb).2;have h2:=(hs.mem.lP b AW).2;have hn:=A8.names.aR b hb;simp only[gD.all,ah]at hn;rw[<- bq.r _ hn.1,<- jr bq hn.2]at h2;rw[h1,h2];exact absurd (hk.2 r hr) (by rw[hw];simp)
section
variable {aK:jA}{Γ:bK}{R:List DV->Prop}{w0:World}{L:List Nat}{ex:Ex}{h:Option St}{ops:Array Oper}{Q:Exit->Act->World->Prop}{CN:St->ar}{F0:Nat->List DV->Prop}{Ps:List (Int->Prop)}
theorem Gq{m n:Nat}(h:m<n):(nJ m n).toArray.setIfInBounds m true=(nJ (m+1) n).toArray:=by
 apply jv;rw[Array.toList_setIfInBounds];simp only[nJ];apply List.ext_getElem?;intro j;rw[List.getElem?_set];simp only[List.getElem?_append,dG,List.length_replicate,DS];grind
theorem AL(hB:ja P aK)(gQ:dt P Γ aK w0)(hex:V5 P aK Γ R w0 L ex){bX:St}{eS:aA}(oc:∀p∈aK.no,p.1<bX.next/\(eS p.1).int≠p.2){pS:Ph}{W:List Nat}{wR:World}{aS:Act}(A8:Sat w0 eS pS bX aS wR)(Ab:bX.nD=[])(Gc:Region.noSelect ops=true)(Gg:nI ops=true)(hQ:∀c a d v w,Q (.panic c) (a.put d v) w->Q (.panic c) a w)
   (hK:∀ai aJ aW a' w' F',a8 (aX bX.next) eS ai pS aJ->(∀j∈L,F' j=F0 j)->Sat w0 ai aJ aW a' w'->aW.nD=[]->bX.next<=aW.next->(CN aW).holds Γ R Ps ai F'->Q .normal a' w')
   (hP:∀ai aJ aW (a':Act) w' e,a8 (aX bX.next) eS ai pS aJ->a'.defers=[]->q9 w0 ai aJ aW w'->mg h aW=true->jI Ps e->Q (.panic [eJ aK.cw e]) a' w') :
   ∀ {ps:List Nat} {lo:Nat} {st:St} {U:aA} {ph:Ph} {a:Act} {w:World} {F:Nat->List DV->Prop},Sat w0 U ph st a w->st.nD=[]->bX.next<=st.next->a8 (aX bX.next) eS U pS ph->(∀j∈L,F j=F0 j)->Kept bX eS pS W wR w->
     (uq P aK h ops ex bX W ps lo st CN).holds Γ R Ps U F->gB P .any ops Q (iz bX eS pS ⟨[],some W⟩ wR) (ops.size-lo) (nJ lo ops.size).toArray a w:=by
 have Bn:=cU Ab;have J6:kZ {aK with dM:=h} (Γ.at (jI Ps)) w0 bX.has eS pS Q:=fun ai aJ aW a' w' e g1 g2 g3 g4 g5=>hP ai aJ aW a' w' e (by rw[<- Bn];exact g1) g2 g3 g4 g5;have Ri:ja P {aK with dM:=h}:=⟨hB.aG,hB.xp,hB.vB⟩;have aaH:dt P (Γ.at (jI Ps)) {aK with dM:=h} w0:=gQ;intro ps;induction ps with
 | nil=>
   intro lo st U ph a w F hs hd hb bq hF hk hh;have oy:=cU hd;have rU:∀k,bX.has k=true->st.has k=true:=by rw[Bn,oy];exact cx hb
   simp only[uq]at hh;split at hh
   . rename_i cN aW hr;simp only[xB]at hr;split at hr
     . rename_i qf;simp only[ah,aD]at qf;obtain⟨V6,qf⟩:=qf;split at hr
       . rename_i r T V7;obtain⟨rfl,rfl,bF⟩:=jG hr;have:=(kB (aK:={aK with dM:=h}) (fin:=none) (k:=fun ai=>(CN {r.2 with next:=qX st.next r.2,nD:=[] }).holds Γ R Ps ai F) (G:=Q .normal) (t:=0) (I:=fun _ _ _=>True) (CF Ri aaH J6) (fun {_ _ _ _ _} _=>trivial) (fun f c hf=>(gQ.1 f c hf).2) Gc Gg Eo A8.names hQ ⟨rfl,fun _ _ h=>h⟩ (fun n m st r h=>by simp at h) V7).2 _ _ _ _ (uy Gg V6) hs (by rw[Bn];exact bq) rU hk trivial (lI hh)
           (fun ai aJ a' w' iX iM hm _ cK=>hK ai aJ {r.2 with next:=qX st.next r.2,nD:=[] } a' w' F (kM bq (gR (by rw[<- oy];exact iM) hb)) hF (iX.close rfl rfl rfl rfl bF) rfl (jS hb (ow _ _).1) cK)
         rw[fP,si qf]at this;exact this
       cases hr
     cases hr
   exact hh.elim
 | cons p ps ih=>
   intro lo st U ph a w F hs hd hb bq hF hk hh;have oy:=cU hd;have rU:∀k,bX.has k=true->st.has k=true:=by rw[Bn,oy];exact cx hb
   simp only[uq]at hh;split at hh
   . rename_i cN aW hr;simp only[xB]at hr;split at hr
     . rename_i hc;simp only[ah,aD]at hc;obtain⟨⟨⟨V6,hp⟩,qf⟩,z7⟩:=hc;rw[El Gg,si (by omega)]at z7;split at hr
       . rename_i r T V7;obtain⟨rfl,rfl,bF⟩:=jG hr;have he:=lI hh;have hlen:ops.size-lo=(ops.size-p)+(p-lo):=by omega
         rw[hlen,<- si (show lo<=ops.size by omega)];refine(kB (aK:={aK with dM:=h}) (fin:=some (Nat.pow 2 p-1)) (G:=fun a' w'=>gB P .any ops Q (iz bX eS pS ⟨[],some W⟩ wR) (ops.size-p) (nJ p ops.size).toArray a' w') (t:=ops.size-p) (I:=fun _ _ _=>True) (CF Ri aaH J6) (fun {_ _ _ _ _} _=>trivial) (fun f c hf=>(gQ.1 f c hf).2) Gc Gg Eo A8.names hQ (fun a' w' hG=>?_) (fun n m st r h=>by simp at h) V7).2 _ _ _ _ (uy Gg V6) hs (by rw[Bn];exact bq) rU hk trivial he
           (fun ai aJ a' w' iX iM hm _ cK=>?_)
         rw[si (by omega)];exact hG
         ·
           split at cK
           . rename_i o ho;have J0:=iX.close (aW:={r.2 with next:=qX st.next r.2,nD:=[] }) rfl rfl rfl rfl bF;have lH:=kM bq (gR (n:=bX.next) (by rw[<- oy];exact iM) hb);have nF:=sZ (Q:=fun e a2 w2=>match e with| .normal=>Kept bX eS pS W wR w2/\gB P .any ops Q (iz bX eS pS ⟨[],some W⟩ wR) (ops.size-(p+1)) (nJ (p+1) ops.size).toArray a2 w2|e=>Q e a2 w2) (base:=bX.next) (e0:=eS) (p0:=pS) (F0:=F0) (Ps:=Ps) hB gQ hex oc
               (fun il Ln tt a2 w2 F2 g1 g2 g3 g4 g5 g6=>by
                 split at g6;rename_i hkb;have RG:=R9 A8 g3 (by rw[Bn];exact g1) hkb;exact⟨RG,ih g3 g4 g5 g1 g2 RG g6⟩;exact g6.elim) (fun il Ln tt a2 w2 e g1 g2 g3 g4 g5=>hP il Ln tt a2 w2 e g1 g2 g3 g4 g5) (l:=[o]) J0 rfl (jS hb (ow _ _).1) lH hF cK
             have e1:ops.size-p=(ops.size-(p+1))+1:=by omega
             rw[e1];refine yL z7 (by simp) fun i hi=>?_;obtain rfl:i=p:=by simpa using hi
             unfold wpOp;simp only[ho];rw[Gq hp];exact nF
           exact cK.elim
       cases hr
     cases hr
   exact hh.elim
end
end
section
open Go.RowKit
variable {U ai:aA}{ph aJ:Ph}{P:Program}
theorem CO{aK:jA}{ops:Array Oper}{st aW:St}{cN:List Ev}(h:uo P aK ops st=some (cN,aW)):aW.nD=[]/\st.next<=aW.next:=by
 unfold uo at h;split at h;split at h;split at h;obtain⟨_,rfl,_⟩:=jG h;exact⟨rfl,(ow _ _).1⟩;cases h;cases h;cases h
theorem J7{no:List (Nat×Int)}{p:BE}(h:Ma no p=true)(oc:∀q∈no,(U q.1).int≠q.2):p.ae U=false:=by
 unfold Ma at h;split at h;rename_i k n;have:=oc (k,n) (by simpa using h);exact decide_eq_false this;cases h
theorem AM{Γ:bK}{R:List DV->Prop}{Ps:List (Int->Prop)}{F:Nat->List DV->Prop}{go:St->ar}{w0 w:World}{a:Act}{X:Prop}:∀ {ps:List (Nat×Nat×Nat)} {st:St},Sat w0 U ph st a w->(Cp go ps st).holds Γ R Ps U F->
   (∀jB:St,Sat w0 U ph jB a w->jB.nD=st.nD->jB.next=st.next->(go jB).holds Γ R Ps U F->X)->X:=by
 intro ps;induction ps with
 |nil=>intro st hs h hX;exact hX st hs rfl rfl h
 | cons p ps ih=>
   intro st hs h hX;obtain⟨r,x,m⟩:=p;obtain⟨v,hv,h⟩:=CL h;exact ih (hs.fix hv) h (fun jB h1 h2 h3 h4=>hX jB h1 h2 h3 h4)
section
variable {aK:jA}{Γ:bK}{R:List DV->Prop}{w0:World}
theorem Gr(hB:ja P aK)(gQ:dt P Γ aK w0):∀ {n:Nat} {h:Option St} {L:List Nat} {f:FuncId} {fn:Func} {k:List K} {st:St} {kr:List V1->St->ar} {U:aA} {ph:Ph} {a:Act} {w:World} {F:Nat->List DV->Prop} {Ps:List (Int->Prop)}
   {E:Act->World->Prop} {EP:Int->World->Prop} {b:Frame} {cs:List Frame} {base:Nat} {e0:aA} {p0:Ph} {F0:Nat->List DV->Prop},
   (∀p∈aK.no,p.1<base/\(e0 p.1).int≠p.2)->Sat w0 U ph st a w->st.nD=[]->base<=st.next->a8 (aX base) e0 U p0 ph->(∀j∈L,F j=F0 j)->Ey P aK.cw b cs w0 E EP F U ph st.next k->
   (∀ai aJ aW a' w' rv F',a8 (aX base) e0 ai p0 aJ->(∀j∈L,F' j=F0 j)->Sat w0 ai aJ aW a' w'->aW.nD=[]->base<=aW.next->qV P aW fn.results.toList=some rv->cV aW.has rv=true->(kr rv aW).holds Γ R Ps ai F'->E a' w')->
   (∀ai aJ aW w' e,a8 (aX base) e0 ai p0 aJ->q9 w0 ai aJ aW w'->mg h aW=true->jI Ps e->EP e w')->
   (exec P aK n h L f fn k st kr).holds Γ R Ps U F->Reach P aK.cw b cs E EP (lone (b.at a (cz k)) cs w):=by
 intro n;induction n with
 |zero=>intro h L f fn k st kr U ph a w F Ps E EP b cs base e0 p0 F0 oc hs hd hb bq hF hk hR hP hh;exact hh.elim
 | succ n ih=>
   intro h L f fn k st kr U ph a w F Ps E EP b cs base e0 p0 F0 oc hs hd hb bq hF hk hR hP hh;have Cu:∀p∈aK.no,p.1<st.next/\(U p.1).int≠p.2:=fun p hp=>by
     obtain⟨h1,h2⟩:=oc p hp;exact⟨by omega,by rw[<- bq.e p.1 (by simp only[aX,aD];exact h1)];exact h2⟩
   have JX:(RP P fn st kr).holds Γ R Ps U F->E a w:=fun hh=>by
     unfold RP at hh;split at hh;rename_i vs kW;split at hh;rename_i b6;exact hR U ph st a w vs F bq hF hs hd hb kW b6 hh;exact hh.elim;exact hh.elim
   cases k with
   | nil=>
     simp only[exec]at hh;exact⟨a,w,[],.inl ⟨JX hh,.one step_end⟩⟩
   | cons x k=>
     cases x with
     | lP id=>
       simp only[exec]at hh;exact Reach.step step_inBlock (ih oc hs hd hb bq hF hk hR hP hh)
     | loop c=>
       simp only[exec]at hh;exact Reach.step step_inLoop (ih (k:=.code c :: .loop c::k) oc hs hd hb bq hF hk hR hP hh)
     | xq c id gO hd' ks=>
       simp only[exec]at hh;split at hh;rename_i bO Uh;obtain⟨⟨h1,e1,p1,h2,h3⟩,_⟩:=hk;exact h3 U ph st a w bO h2 hs Uh hh;exact hh.elim
     | code c=>
       cases c with
       | skip=>
         simp only[exec]at hh;exact Reach.step step_skip (ih oc hs hd hb bq hF hk hR hP hh)
       | label l=>
         simp only[exec]at hh;exact Reach.step step_label (ih oc hs hd hb bq hF hk hR hP hh)
       | seq x y=>
         simp only[exec]at hh;exact Reach.step step_seq (ih (k:=.code x :: .code y::k) oc hs hd hb bq hF hk hR hP hh)
       | cond x y z=>
         simp only[exec]at hh;split at hh;rename_i hl;have:=aq hl bU hs.tmps;exact Reach.step (step_cond (t:=true) (by rw[this];rfl)) (ih (k:=.code y::k) oc hs hd hb bq hF hk hR hP hh);rename_i hl;have:=aq hl bU hs.tmps;exact Reach.step (step_cond (t:=false) (by rw[this];rfl)) (ih (k:=.code z::k) oc hs hd hb bq hF hk hR hP hh);rename_i p _ _ hl;have:=aq hl bU hs.tmps;simp only[ag.ae]at this;split at hh;rename_i ck;have hp:=J7 ck (fun q hq=>(Cu q hq).2);exact Reach.step (step_cond (t:=false) (by rw[this,hp])) (ih (k:=.code z::k) oc hs hd hb bq hF hk hR hP hh);obtain⟨h1,h2⟩:=hh;cases hp:p.ae U;exact Reach.step (step_cond (t:=false) (by rw[this,hp])) (ih (k:=.code z::k) oc hs hd hb bq hF hk hR hP (h2 hp));exact Reach.step (step_cond (t:=true) (by rw[this,hp])) (ih (k:=.code y::k) oc hs hd hb bq hF hk hR hP (h1 hp));exact hh.elim
       | block id c=>
         simp only[exec]at hh;exact Reach.step step_block (ih (k:=.code c :: .lP id::k) oc hs hd hb bq hF hk hR hP hh)
       | exit id=>
         simp only[exec]at hh;split at hh
         . rename_i k' hp;obtain⟨h1,h2⟩:=Gn (P:=P) (T:=aK.cw) (b:=b) (cs:=cs) (w0:=w0) (E:=E) (EP:=EP) (F:=F) (U:=U) (ph:=ph) (next:=st.next) hp;exact Reach.step (step_exit h1) (ih oc hs hd hb bq hF (h2 hk) hR hP hh)
         exact hh.elim
       | ret=>
         simp only[exec]at hh;exact⟨a,w,_,.inl ⟨JX hh,.one step_ret⟩⟩
       | region id ops draw=>
         simp only[exec]at hh;have hex:V5 P aK Γ R w0 (L++mj k) (RQ P (fun h' g Li c aW ZB=>exec P aK n h' (L++mj k) g Li [.code c] aW ZB)):=by
           intro h' g vs aW ZB CA Bh w1 F1 Ps1 J5 hM xD V8 hv Ui ZK hKP;unfold RQ at Ui;split at Ui
           . rename_i Li kQ;split at Ui
             . rename_i c Bo;split at Ui;exact Ui.elim
               . rename_i Gh;have Gh:(Li.name == "runtime.NumGoroutine")=false:=by simpa using Gh
                 refine⟨da kQ Bo Gh,fun Mu=>?_⟩;have oy:=cU xD;obtain⟨a',w',todo,vF⟩:=ih (b:={fn:=g,tmps:=#[],todo:=[],defers:=[],mode:=.run,kind:=.normal}) (cs:=Mu) (k:=[.code c]) (base:=aW.next) (e0:=CA) (p0:=Bh) (F0:=F1)
                   (E:=fun a' w'=>a'.defers=[]/\∃v,(results Li a'.tmps).run P w' = .ok v w'/\J5 (.returned v) w') (EP:=fun e w'=>J5 (.panicked [eJ aK.cw e]) w')
                   V8 (Bi (fn:=Li) hM hv) xD (eZ _) cc (fun _ _=>rfl) trivial
                   (fun ai aJ tt a2 w2 rv F' g1 g2 g3 g4 g5 g6 g7 g8=>⟨g3.defers,_,jl g3 g6,ZK ai aJ tt w2 rv F' (by rw[oy];exact g1) g2 g3.VP g4 g5 g7 g8⟩)
                   (fun ai aJ tt w2 e g1 g2 g3 g4=>hKP ai aJ tt w2 e (by rw[oy];exact g1) g2 g3 g4) Ui
                 have MD:Frame.enter P g (vs.map (V1.ae CA Bh)).toArray .normal=Frame.at {fn:=g,tmps:=#[],todo:=[],defers:=[],mode:=.run,kind:=.normal} ⟨(vs.map (V1.ae CA Bh)).toArray++Array.replicate (Li.ntmps-(vs.map (V1.ae CA Bh)).length) undef,[]⟩ (cz [.code c]):=by
                   simp[Frame.enter,Frame.at,kQ,Bo,cz]
                 rcases vF with⟨⟨Sa,v,sL,EB⟩,dM⟩|⟨e,Sa,EB,dM⟩;refine⟨.returned v,w',{Frame.at {fn:=g,tmps:=#[],todo:=[],defers:=[],mode:=.run,kind:=.normal} a' todo with mode:=.returning},EB,?_,rfl,⟨rfl,Sa,rfl,Li,kQ,sL⟩⟩;show Steps P (lone (Frame.enter P g _ .normal) Mu w1) _;rw[MD];exact dM;refine⟨.panicked [eJ aK.cw e],w',{Frame.at {fn:=g,tmps:=#[],todo:=[],defers:=[],mode:=.run,kind:=.normal} a' todo with mode:=.panicking [eJ aK.cw e] },EB,?_,rfl,⟨rfl,Sa,Li,kQ⟩⟩;show Steps P (lone (Frame.enter P g _ .normal) Mu w1) _;rw[MD];exact dM
             exact Ui.elim
           exact Ui.elim
         have go:∀jB:St,Sat w0 U ph jB a w->jB.nD=[]->jB.next=st.next->(Cq P aK h ops draw ((aK.T4.find? fun p=>p.1==gid f id).map (·.2)) (RQ P (fun h' g Li c aW ZB=>exec P aK n h' (L++mj k) g Li [.code c] aW ZB)) jB (fun aW=>exec P aK n h L f fn k aW kr)).holds Γ R Ps U F->Reach P aK.cw b cs E EP (lone (b.at a (cz (.code (.region id ops draw)::k))) cs w):=by
           intro jB AY xD ZI Rl;have Uj:=cU xD;have ME:∀ai aJ aW a' w' F',a8 (aX jB.next) U ai ph aJ->(∀j∈L++mj k,F' j=F j)->Sat w0 ai aJ aW a' w'->aW.nD=[]->jB.next<=aW.next->(exec P aK n h L f fn k aW kr).holds Γ R Ps ai F'->Reach P aK.cw b cs E EP (lone (b.at a' (cz k)) cs w'):=by
             intro ai aJ aW a' w' F' g1 g2 g3 g4 g5 g6;rw[ZI]at g1 g5;exact ih oc g3 g4 (jS hb g5) (kM bq (gR g1 hb)) (fun j hj=>(g2 j (yb _ hj)).trans (hF j hj)) (Ey.mono g1 g5 (Ey.MA (fun j hj=>g2 j (Ci _ hj)) hk)) hR hP g6
           have J6:∀ai aJ aW (a':Act) w' e,a8 (aX jB.next) U ai ph aJ->a'.defers=[]->q9 w0 ai aJ aW w'->mg h aW=true->jI Ps e->EP e w':=by
             intro ai aJ aW a' w' e g1 _ g3 g4 g5;rw[ZI]at g1;exact hP ai aJ aW w' e (kM bq (gR g1 hb)) g3 g4 g5
           have hwp:(Code.region id ops draw).wp P (fun e a' w'=>(e = .normal/\Reach P aK.cw b cs E EP (lone (b.at a' (cz k)) cs w'))\/(∃c,e = .panic [eJ aK.cw c]/\a'.defers=[]/\EP c w')) a w:=by
             have hQ:∀(c:List PanicEntry) (a':Act) (d:Option Tmp) (v:Value) (w':World),((Exit.panic c = .normal/\Reach P aK.cw b cs E EP (lone (b.at (a'.put d v) (cz k)) cs w'))\/(∃c',Exit.panic c = .panic [eJ aK.cw c']/\(a'.put d v).defers=[]/\EP c' w'))->
                 ((Exit.panic c = .normal/\Reach P aK.cw b cs E EP (lone (b.at a' (cz k)) cs w'))\/(∃c',Exit.panic c = .panic [eJ aK.cw c']/\a'.defers=[]/\EP c' w')):=by
               intro c a' d v w' hq;rcases hq with⟨h1,_⟩|⟨c',h1,h2,h3⟩;cases h1;exact .inr ⟨c',h1,by rw[cg]at h2;exact h2,h3⟩
             unfold Cq at Rl;split at Rl;rename_i Rj;subst Rj;split at Rl;rename_i ps kb _;split at Rl;rename_i lu;simp only[ah]at lu;refine q7 (S:=iz jB U ph ⟨[],some ((FV jB).filter fun i=>!kb.contains i)⟩ {w with drawn:=w.drawn+1}) lu.1.2 ?_;have:=AL (Q:=fun e a' w'=>(e = .normal/\Reach P aK.cw b cs E EP (lone (b.at a' (cz k)) cs w'))\/(∃c,e = .panic [eJ aK.cw c]/\a'.defers=[]/\EP c w')) (F0:=F) (CN:=fun aW=>exec P aK n h L f fn k aW kr) (W:=(FV jB).filter fun i=>!kb.contains i) (ops:=ops) (h:=h) (Ps:=Ps) hB gQ hex (fun p hp=>by rw[ZI];exact Cu p hp) AY.drew xD lu.1.1 lu.2 hQ (fun ai aJ aW a' w' F' g1 g2 g3 g4 g5 g6=>.inl ⟨rfl,ME ai aJ aW a' w' F' g1 g2 g3 g4 g5 g6⟩)
               (fun ai aJ aW a' w' e g1 g2 g3 g4 g5=>.inr ⟨e,rfl,g2,J6 ai aJ aW a' w' e g1 g2 g3 g4 g5⟩) AY.drew xD (eZ _) cc (fun _ _=>rfl) ⟨fun _ _ _=>rfl,fun _ _ _ _ _ _=>rfl⟩ Rl
             simpa[nJ]using this;exact Rl.elim;split at Rl;rename_i cN aW hr;obtain⟨eX,hn2⟩:=CO hr;exact AE (aK:={aK with dM:=h}) (Γ:=Γ.at (jI Ps)) (Q:=fun e a' w'=>(e = .normal/\Reach P aK.cw b cs E EP (lone (b.at a' (cz k)) cs w'))\/(∃c,e = .panic [eJ aK.cw c]/\a'.defers=[]/\EP c w')) ⟨hB.aG,hB.xp,hB.vB⟩ (fun ai aJ aW a' w' e g1 g2 g3 g4 g5=>.inr ⟨e,rfl,g2,J6 ai aJ aW a' w' e (by rw[<- Uj];exact g1) g2 g3 g4 g5⟩) gQ AY hQ hr (lI Rl) (fun ai aJ a' w' g1 g2 g3=>.inl ⟨rfl,ME ai aJ aW a' w' F (by rw[<- Uj];exact g2) (fun _ _=>rfl) g1 eX hn2 g3⟩);exact Rl.elim
             . rename_i Rj;have:draw=false:=by simpa using Rj
               subst this;exact wp_region_list (sZ (Q:=fun e a' w'=>(e = .normal/\Reach P aK.cw b cs E EP (lone (b.at a' (cz k)) cs w'))\/(∃c,e = .panic [eJ aK.cw c]/\a'.defers=[]/\EP c w')) (base:=jB.next) (e0:=U) (p0:=ph) (F0:=F) hB gQ hex (fun p hp=>by rw[ZI];exact Cu p hp)
                 (fun ai aJ aW a' w' F' g1 g2 g3 g4 g5 g6=>.inl ⟨rfl,ME ai aJ aW a' w' F' g1 g2 g3 g4 g5 g6⟩) (fun ai aJ aW a' w' e g1 g2 g3 g4 g5=>.inr ⟨e,rfl,g2,J6 ai aJ aW a' w' e g1 g2 g3 g4 g5⟩) AY xD (eZ _) cc (fun _ _=>rfl) Rl)
           obtain⟨e,a',w',hq,Jl⟩:=hwp b (cz k) cs;rcases hq with⟨rfl,hG⟩|⟨c,rfl,Sa,hep⟩;exact Reach.steps Jl hG;obtain⟨todo,dM⟩:=Jl;exact⟨a',w',todo,.inr ⟨c,Sa,hep,dM⟩⟩
         exact AM hs hh fun jB h1 h2 h3 h4=>go jB h1 (h2.trans hd) h3 h4
       | loop c=>
         simp only[exec]at hh;split at hh;exact Reach.step step_loop (ih (k:=.code c :: .loop c::k) oc hs hd hb bq hF hk hR hP hh)
         . rename_i i hint hf;split at hh
           . rename_i Ab hm;split at hh;exact hh.elim
             . rename_i hnl;simp only[fU,not_or,Bool.not_eq_true]at hnl;obtain⟨hnl,hnL⟩:=hnl;have hnL:∀j∈L,j≠i:=fun j hj e=>by
                 subst e;simp[hj]at hnL
               obtain⟨inv,ox,te,Bo⟩:=hh;obtain⟨g1,g2,g3,jq,g5,g4⟩:=CH hs hd hm;have rounds:∀N ds (a:Act) (w:World) (aJ:Ph),ox ds=N->inv ds->kinds Ab.ks ds=true->a8 (aX st.next) U (U.ay st.next ds) ph aJ->Sat w0 (U.ay st.next ds) aJ Ab.st a w->Reach P aK.cw b cs E EP (lone (b.at a (.code c :: .inLoop c::cz k)) cs w):=by
                 intro N;induction N using Nat.strongRecOn with
                 | _ N ihN=>
                   intro ds a w aJ hN hi hkd iM iX;refine ih (k:=.code c :: .xq c i st.next Ab.st Ab.ks::k) oc iX g1 (by rw[g2];exact jS hb (qS _ _)) (kM bq (gR iM hb)) (fun j hj=>?_) ⟨⟨by omega,U,ph,iM,?_⟩,?_⟩ hR hP (Bo ds hkd hi);funext vs;simp only[oN,if_neg (hnL j hj),hF j hj]
                   . intro ai Ln aW a' w' bO he J0 Uh hFF;obtain⟨vE,ph3,aaI,hs3⟩:=Gl J0 iX.names iX.nest.nm Uh;simp only[oN,if_true]at hFF;have hs4:Sat w0 (U.ay st.next (bO.map (DE.ae ai))) ph3 Ab.st a' w':=by
                       refine hs3.J3 g1 fun j hj=>?_;have hl:=vI vE;rcases pf j st.next with h1|h1
                       rw[aA.bn h1,aA.bn h1,he.e j (by simpa[aX]using h1)]
                       . have cF:j-st.next<(bO.map (DE.ae ai)).length:=by omega
                         obtain⟨d,hd⟩:∃d,(bO.map (DE.ae ai))[j-st.next]?=some d:=⟨_,fV cF⟩;have hj':j=st.next+(j-st.next):=by omega
                         rw[hj',aA.dr hd,aA.dr hd]
                     have adT:a8 (aX st.next) U (U.ay st.next (bO.map (DE.ae ai))) ph ph3:=by
                       refine⟨fun j hj=>?_,fun j hj=>(he.r j hj).trans (aaI.r j hj),fun j hj=>(he.v j hj).trans (aaI.v j hj)⟩;simp only[aX,aD]at hj;rw[aA.bn hj]
                     exact Reach.step step_inLoop (ihN (ox (bO.map (DE.ae ai))) (by omega) _ a' w' ph3 rfl hFF.1 vE adT hs4)
                   refine Ey.MA (F:=F) (fun j hj=>?_) (Ey.mono iM (by omega) hk);funext vs;have:j≠i:=fun e=>Ez hnl (e▸hj);simp only[oN,if_neg this]
               exact Reach.step step_loop (rounds _ _ a w jq rfl te g3 g5 g4)
           exact hh.elim
       |_=>exact hh.elim
end
def Uk(P:Program)(fn:Func)(res:List VT)(w0:World)(R:List DV->Prop)(a:Act)(w:World):Prop:=
 a.defers=[]/\∃bL fE,(results fn a.tmps).run P w = .ok (packed (bQ res bL)) w/\Below w0.heap.size w0 w/\fitAll (j4 w w0.heap.size) (bt res) bL fE/\fM bL/\R fE
theorem J8{Γ:bK}{R:List DV->Prop}{Ps:List (Int->Prop)}{F:Nat->List DV->Prop}{w0 w:World}{st:St}{a:Act}{fn:Func}{res:List VT}{vs:List V1}(hs:Sat w0 U ph st a w)(kW:qV P st fn.results.toList=some vs)(h:(pq res vs st).holds Γ R Ps U F):Uk P fn res w0 R a w:=by
 unfold pq at h;split at h;rename_i e ks id;split at h;rename_i b hb;split at h;rename_i hc;simp only[ah,aD]at hc;obtain⟨rfl,h0⟩:=hc;split at h;rename_i xs qe;obtain⟨a6,rfl⟩:=dm hb;obtain⟨hB,hh⟩:=hs.mem.lP b a6;have vx:=qJ (U:=U) (ph:=ph) qe [] 0 rfl;simp only[kG]at vx;refine⟨hs.defers,[.slice (some ⟨ph.r b.id,0,none⟩) 1 1],[(DE.kn xs).ae U],jl hs kW,hs.below,⟨⟨h0,?_⟩,trivial⟩,?_,h⟩;have e:av ks [xs.map (bV U)]=bG ks 0 (xs.map (bV U)):=by simp[av]
 have hl:=(mR qe).1;show w.ownsRow w0.heap.size b.ty ks.length _ 1 (av ks [xs.map (bV U)]);rw[e,<- vx];refine⟨by simp[hl],.inr ⟨ph.r b.id,1,_,rfl,hB,hh,eZ _,by decide,by simp[hl],?_⟩⟩;simp[hl,oV];intro i j u v Cf hu hv k hk cK
 match i,j with
 |0,0=>exact Cf rfl
 |0,j+1=>simp at hv
 |i+1,_=>simp at hu
 exact h.elim;exact h.elim;exact h.elim
 ·
   split at h;rename_i ds tS;split at h;rename_i hc;simp only[ah]at hc;obtain⟨⟨F8,n9⟩,bA⟩:=hc;rw[Bm]at n9 bA;have n9:=wQ n9;have ho:∀row∈ch (bj vs),∃r,r∈st.rows/\r.id=row/\bp st row=some r/\r.own=true/\r.g.ae U=true:=fun row aY=>by
     have:=k7.1 bA row aY;split at this;rename_i r hr;simp only[ah,aD]at this;obtain⟨hm,kF⟩:=aT hr;exact⟨r,hm,kF,hr,this.1,by rw[this.2];rfl⟩;cases this
   obtain⟨RS,e1,e2,e7⟩:=q6 (U:=U) (ph:=ph) (R:=j4 w w0.heap.size) (pC _ _) (fun h=>by rw[lT F8]at h;cases h) tS (fun row aY r hr _=>by
     obtain⟨r',hm,_,cq,cD,hg⟩:=ho row aY;rw[hr,af]at cq;subst cq;obtain⟨h0,iQ⟩:=hs.mem.row r hm hg;rw[if_pos cD]at iQ;exact⟨h0,iQ⟩) (fun h=>by rw[jg F8]at h;cases h)
   have e7:=e7 (jg F8);subst e7;refine⟨hs.defers,_,_,by rw[<- e1];exact jl hs kW,hs.below,e2,?_,h⟩;intro i j u v Cf hu hv k hk cK;rw[gJ]at hu hv;simp only[bl]at hu hv;obtain⟨l,hl,rfl⟩:=hu;obtain⟨l',tV,rfl⟩:=hv;have D2:∀(i:Nat) (l:ag) k,(bj vs)[i]?=some l->(l.ae U ph).ownBlock=some k->∃r,l = .s r:=fun i l k hl h=>by
     obtain⟨c,d,_,yI⟩:=lF (lD (jg F8) tS) hl;exact pF yI h
   obtain⟨r,rfl⟩:=D2 i l k hl hk;obtain⟨r',rfl⟩:=D2 j l' k tV cK;have Ry:r∈ch (bj vs):=vA.2 ⟨_,qi hl,rfl⟩;have adU:r'∈ch (bj vs):=vA.2 ⟨_,qi tV,rfl⟩;obtain⟨x,hx,HU,_,xv,JO⟩:=ho r Ry;obtain⟨x',V2,aaJ,_,adV,adW⟩:=ho r' adU;simp only[ag.ae,<- HU,<- aaJ]at hk cK;exact hs.mem.rr x hx x' V2 (fun e=>Cf (Gm n9 hl (by rw[tV,<- aaJ,<- e,HU]))) xv JO adW k (by simp[Row.bM,xv,hk]) (by simp[Row.bM,adV,cK]);split at h;rename_i hc;simp only[ah]at hc;obtain⟨⟨⟨F8,hN⟩,Cr⟩,bA⟩:=hc;rw[Bm]at bA;unfold pg at Cr;rw[hN]at Cr;simp only[Bool.not_true,Bool.false_or,ah,mG,aD]at Cr;obtain⟨hS,Ct⟩:=Cr;have ho:∀row∈ch (bj vs),bp st row=none/\∃n,dV st row=some n/\n.own=true:=fun row aY=>by
     have:=k7.1 bA row aY;split at this;rename_i x h1 h2;exact⟨h1,x,h2,this⟩;cases this
   obtain⟨RS,e1,e2,e7⟩:=q6 (U:=U) (ph:=ph) (R:=j4 w w0.heap.size) (pC _ _) (fun _ row aY n hn _=>by
     obtain⟨_,n',mT,oc⟩:=ho row aY;rw[hn,af]at mT;subst mT;obtain⟨hm,_⟩:=cH hn;obtain⟨_,h0,L0⟩:=hs.nest.own hm oc;exact⟨h0,_,fun k hk=>⟨hk.2,hs.nest.lt k hk.1⟩,fun k hk hz=>((hs.nest.oz n hm oc).2 k hk).1 hz.1,L0⟩) tS (fun row aY r hr _=>by
     rw[(ho row aY).1]at hr;cases hr) (fun h=>by rw[F8]at h;cases h)
   have e7:=e7 F8;subst e7;refine⟨hs.defers,_,_,by rw[<- e1];exact jl hs kW,hs.below,e2,?_,h⟩;intro i j u v Cf hu hv k hk cK;rw[gJ]at hu hv;simp only[bl]at hu hv;obtain⟨l,hl,rfl⟩:=hu;obtain⟨l',tV,rfl⟩:=hv;have D2:∀(i:Nat) (l:ag) k,(bj vs)[i]?=some l->(l.ae U ph).ownBlock=some k->∃c,(bt res)[i]?=some c/\c.u5=true:=fun i l k hl h=>by
     obtain⟨c,d,hc,yI⟩:=lF (lD F8 tS) hl;obtain⟨r,rfl⟩:=pF yI h;refine⟨c,hc,(JN yI).resolve_left fun hs=>?_⟩;rw[List.any_eq_false]at hS;exact hS c (qi hc) hs
   obtain⟨c,hc,hcn⟩:=D2 i l k hl hk;obtain⟨c',CP,adX⟩:=D2 j l' k tV cK;exact Cf (Mc Ct hc CP hcn adX);exact h.elim;exact h.elim
def bB:aA:=fun _=>.i 0
def jq:Ph:=⟨fun _=>0,fun _=>(none,0,0),fun _=>False⟩
def Bh(w:World)(bL:List Value):Ph:={jq.cX 0 bL with z:=fun k=>k<w.heap.size}
theorem Bp{w:World}{fn:Func}{args:List VT}{bL:List Value}{ds:List DV}(hf:fitAll (kX w) (bt args) bL ds) :
   Sat w (bB.ay 0 ds) (Bh w bL) (start fn args) ⟨(bQ args bL).toArray++Array.replicate (fn.ntmps-(bQ args bL).length) undef,[]⟩ w:=by
 obtain⟨Fz,FF⟩:=ml hf;have sX:=tv (U:=bB.ay 0 ds) (ph:=Bh w bL) false (.c true) (bt args) 0 bL ds hf (fun i d hd=>aA.dr hd) (fun i v hv e ks hc=>by
   have VE:∃a b c,v = .slice a b c:=by
     rcases hc with hc|⟨aH,hc⟩;obtain⟨v',d,tR,hd,cY⟩:=iZ hf hc;rw[hv]at tR;simp only[af]at tR;subst tR;cases d with
     |i n=>simp[jE]at cY
     |b x=>simp[jE]at cY
     | l xs=>
       obtain⟨_,base,cap,rfl,_⟩:=cY;exact⟨_,_,_,rfl⟩
     obtain⟨v',d,tR,hd,cY⟩:=iZ hf hc;rw[hv]at tR;simp only[af]at tR;subst tR;cases d with
     |i n=>simp[jE]at cY
     |b x=>simp[jE]at cY
     | l xs=>
       obtain⟨_,b0,c0,rfl,_⟩:=cY;exact⟨_,_,_,rfl⟩
   obtain⟨a0,b0,c0,rfl⟩:=VE;exact sc (ph:=jq) hv)
 obtain⟨e1,e2,e3⟩:=sX;have vx:=pz (U:=bB.ay 0 ds) (ph:=Bh w bL) (.c true) args 0 bL e1;rw[<- dW]at e2;have iP:∀i,i<(bt args).length->aX (bt args).length (0+i)=true:=fun i hi=>by simpa[aX]using hi
 have b6:=gk (q:=aX (bt args).length) (.c true) rfl (bt args) 0 iP;have aaK:=lC (q:=aX (bt args).length) (.c true) rfl args 0 iP;have oy:(start fn args).has=aX (bt args).length:=by rw[cU rfl];rfl
 have hlen:(bR (.c true) 0 args).1.length=(bQ args bL).length:=by rw[<- vx,kT]
 refine⟨⟨?_,fun t s ht=>?_⟩,⟨?_,?_,?_,?_,?_⟩,Below.refl _ _,rfl,⟨fun t s ht=>?_,?_,?_⟩,?_⟩;simp[start,kK,hlen];simp only[start,kK]at ht;rw[List.getElem?_append]at ht;split at ht;rename_i cF;rw[gJ]at ht;simp only[bl,af]at ht;obtain⟨v,hv,rfl⟩:=ht;have tR:(bQ args bL)[t]?=some (v.ae (bB.ay 0 ds) (Bh w bL)):=by rw[<- vx,gJ,hv];rfl
 have JJ:=(cC.1 tR).1;rw[Array.getElem?_append,if_pos (by simpa using JJ)];simp only[List.getElem?_toArray,tR,aN.ae,BE.ae,if_true,SV.ae];rw[DS]at ht;split at ht<;>cases ht;intro b hb;simp[start]at hb;intro b hb;simp[start]at hb;intro r hr hg;simp only[start,kK,kE]at hr;obtain⟨r0,dg,rfl⟩:=hr;obtain⟨i,_,_,_,h0,hR⟩:=e2 r0 dg;exact⟨h0,hR⟩;intro b hb;simp[start]at hb;intro r hr r' cq ck ho;simp only[start,kK,kE]at hr;obtain⟨r0,dg,rfl⟩:=hr;cases ho;rw[oy];simp only[start,kK]at ht;rw[List.getElem?_append]at ht;split at ht;rw[gJ]at ht;simp only[bl,af]at ht;obtain⟨v,hv,rfl⟩:=ht;have:∀ {vs:List V1} {t:Nat} {v:V1},cV (aX (bt args).length) vs=true->vs[t]?=some v->v.all (aX (bt args).length)=true:=by
   intro vs;induction vs with
   |nil=>intro t v _ h;simp at h
   | cons x vs ih=>
     intro t v h hv;simp only[cV,ah]at h;cases t with
     |zero=>simp at hv;subst hv;exact h.1
     |succ t=>exact ih h.2 (by simpa using hv)
 simp only[aN.all,BE.all,SV.all,Bool.true_and];exact this aaK hv;rw[DS]at ht;split at ht<;>cases ht;intro b hb;simp[start]at hb;intro r hr;rw[oy];simp only[start,kK,kE]at hr;obtain⟨r0,dg,rfl⟩:=hr;rw[dW]at dg;exact b6.2 r0 dg;refine⟨fun k hk=>hk,fun b hb=>by simp[start]at hb,fun r hr ho=>?_,fun n hn _=>?_,fun n hn=>?_,fun n hn ho=>?_⟩;simp only[start,kK,kE]at hr;obtain⟨r0,dg,rfl⟩:=hr;cases ho;obtain⟨i,_,_,_,hR,_⟩:=e3 n hn;refine⟨hR.1,?_⟩;unfold eH;rw[if_neg (by rw[(ou _ _ _ _ n hn).2];simp)];exact hR.2;rw[oy];exact tw _ (.c true) rfl (bt args) 0 iP n hn;rw[(ou _ _ _ _ n hn).2]at ho;cases ho
def MF(P:Program)(fn:Func)(sg:bJ)(w0:World)(B:Nat)(fe:List Value)(R:List DV->Prop)(a:Act)(w:World):Prop:=
 a.defers=[]/\∃bL fE,(results fn a.tmps).run P w = .ok (packed (bQ sg.res bL)) w/\Below w0.heap.size w0 w/\fitAll (j4 w B) (bt sg.res) bL fE/\fM bL/\
   (∀(i:Nat) (u:Value) (k:Nat),bL[i]?=some u->u.ownBlock=some k->w0.heap.size<=k\/∃(j:Nat) (v:Value),j<sg.cons/\fe[j]?=some v/\v.ownBlock=some k)/\R fE
theorem Gs{Γ:bK}{R:List DV->Prop}{Ps:List (Int->Prop)}{F:Nat->List DV->Prop}{w0 w:World}{st:St}{a:Act}{fn:Func}{sg:bJ}{vs:List V1}{B:Nat}{fe:List Value}{ZP:List DV}(hs:Sat w0 U ph st a w)(kW:qV P st fn.results.toList=some vs)
   (hA:Uc sg w0 B fe ZP) (bq:a8 (aX (bt sg.args).length) (bB.ay 0 ZP) U (Bh w0 fe) ph) (h:(mi sg vs st).holds Γ R Ps U F):MF P fn sg w0 B fe R a w:=by
 unfold mi at h;split at h;rename_i ds tS;split at h;rename_i hc;simp only[ah]at hc;obtain⟨⟨F8,n9⟩,bA⟩:=hc;have n9:=wI n9;have akj:=ml hA.fit;have ho:∀row∈ch (bj vs),∃r,r∈st.rows/\r.id=row/\bp st row=some r/\r.g.ae U=true/\j4 w B r.e (.inl r.ks) (ph.val r.id) (U r.lv).list/\
     ((r.own=true/\∀k,(ph.val r.id).ownBlock=some k->w0.heap.size<=k)\/(r.id<sg.cons/\fe[r.id]?=some (ph.val r.id)/\∀k,(ph.val r.id).ownBlock=some k->k<w0.heap.size)):=fun row aY=>by
   have:=k7.1 bA row aY;split at this;rename_i r hr;simp only[ah,fU,aD]at this;obtain⟨hg,vF⟩:=this;obtain⟨hm,kF⟩:=aT hr;have ky:r.g.ae U=true:=by rw[hg];rfl
   obtain⟨h0,iQ⟩:=hs.mem.row r hm ky;rcases vF with ho|⟨⟨cF,xg⟩,ZE⟩;rw[if_pos ho]at iQ;exact⟨r,hm,kF,hr,ky,⟨h0,pB iQ hA.base⟩,.inl ⟨ho,fun k hk=>(iQ.lt k hk).1⟩⟩;have AN:=(cC.1 ZE).1;have hb:aX (bt sg.args).length r.id=true:=by simpa[aX]using AN
   obtain⟨v,d,hv,hd,cY⟩:=iZ (i:=r.id) hA.own (by rw[xW,if_pos cF];exact ZE);rw[xW,if_pos cF]at hv hd;cases d with
   |i n=>simp[jE]at cY
   |b x=>simp[jE]at cY
   | l xs=>
     obtain⟨h1,h2⟩:=cY;obtain⟨sl,rfl⟩:=kg h2;have ev:ph.val r.id = .slice sl.1 sl.2.1 sl.2.2:=by
       have hz:(Bh w0 fe).val (0+r.id) = .slice sl.1 sl.2.1 sl.2.2:=sc (ph:=jq) hv;rw[fP]at hz;rw[<- hz];simp only[Ph.val,<- bq.v _ hb]
     have ed:(U r.lv).list=xs:=by
       rw[xg,<- bq.e _ hb];have:=aA.dr (U:=bB) (k:=0) hd;rw[fP]at this;rw[this];rfl
     refine⟨r,hm,kF,hr,ky,?_,.inr ⟨cF,by rw[ev];exact hv,fun k hk=>?_⟩⟩;rw[ev,ed];exact⟨h1,sT h2 (ke hs.below) (fun k _=>by simp)⟩;rw[ev]at hk;exact(h2.lt k hk).2
   cases this
 obtain⟨RS,e1,e2,e7⟩:=q6 (U:=U) (ph:=ph) (R:=j4 w B) (pC _ _) (fun h=>by rw[lT F8]at h;cases h) tS (fun row aY r hr _=>by
   obtain⟨r',_,_,cq,_,cD,_⟩:=ho row aY;rw[hr,af]at cq;subst cq;exact cD) (fun h=>by rw[jg F8]at h;cases h)
 have e7:=e7 (jg F8);subst e7;have D2:∀(i:Nat) (l:ag) k,(bj vs)[i]?=some l->(l.ae U ph).ownBlock=some k->∃r,l = .s r:=fun i l k hl h=>by
   obtain⟨c,d,_,yI⟩:=lF (lD (jg F8) tS) hl;exact pF yI h
 have uw:∀(i:Nat) (u:Value) (k:Nat),((bj vs).map (ag.ae U ph))[i]?=some u->u.ownBlock=some k->∃r∈st.rows,(bj vs)[i]?=some (.s r.id)/\(ph.val r.id).ownBlock=some k/\r.g.ae U=true/\
     ((r.own=true/\w0.heap.size<=k)\/(r.id<sg.cons/\fe[r.id]?=some (ph.val r.id)/\k<w0.heap.size)):=fun i u k hi hu=>by
   rw[gJ]at hi;simp only[bl]at hi;obtain⟨l,hl,rfl⟩:=hi;obtain⟨r,rfl⟩:=D2 i l k hl hu;have a6:r∈ch (bj vs):=vA.2 ⟨_,qi hl,rfl⟩;obtain⟨x,hx,HU,_,JO,_,vF⟩:=ho r a6;subst HU;exact⟨x,hx,hl,hu,JO,vF.imp (fun a=>⟨a.1,a.2 k hu⟩) (fun a=>⟨a.1,a.2.1,a.2.2 k hu⟩)⟩
 refine⟨hs.defers,_,_,by rw[<- e1];exact jl hs kW,hs.below,e2,fun i j u v Cf hu hv k hk cK=>?_,fun i u k hu hk=>?_,h⟩;obtain⟨r,hr,h1,h2,h3,h4⟩:=uw i u k hu hk;obtain⟨r',cq,HB,h2',h3',h4'⟩:=uw j v k hv cK;by_cases he:r.id=r'.id;rw[he]at h1;exact Cf (Bf n9 h1 HB);rcases h4 with⟨a1,a2⟩|⟨a1,a2,a3⟩<;>rcases h4' with⟨b1,b2⟩|⟨b1,b2,b3⟩;exact hs.mem.rr r hr r' cq he a1 h3 h3' k (by simp[Row.bM,a1,h2]) (by simp[Row.bM,b1,h2']);omega;omega;exact hA.apart r.id r'.id _ _ he (by rw[xW,if_pos a1];exact a2) (by rw[xW,if_pos b1];exact b2) k h2 h2';obtain⟨r,hr,h1,h2,h3,⟨_,a2⟩|⟨a1,a2,_⟩⟩:=uw i u k hu hk;exact .inl a2;exact .inr ⟨r.id,_,a1,a2,h2⟩;exact h.elim;exact h.elim
def eD(P:Program)(Wd:World->Prop)(f:FuncId)(c:cL):Prop:=
 (∀w args,(callFunc f args).run P w = .ok (.enter f args) w)/\
 ∀w vs ds,Wd w->yB w c.sig.args vs ds->c.pre ds->Calls P f vs.toArray w (fun e w'=>∃bL fE,e = .returned (packed (bQ c.sig.res bL))/\Below w.heap.size w w'/\
   fitAll (j4 w' w.heap.size) (bt c.sig.res) bL fE/\fM bL/\c.rel ds fE)
theorem eD.at{Wd:World->Prop}{f:FuncId}{c:cL}{w0:World}(h:eD P Wd f c)(hw:∀w,Below w0.heap.size w0 w->Wd w):pD P w0 f c:=⟨h.1,fun w vs ds hb ha hp=>h.2 w vs ds (hw w hb) ha hp⟩
theorem MG{Γ:bK}{aK:jA}{f:FuncId}{fn:Func}{c:Code}{sg:bJ}{fuel:Nat}{X:List DV->Prop}{ret:List V1->St->ar}{w:World}{fe:List Value}{ds:List DV}(hB:ja P aK)(gQ:dt P Γ aK w)(oc:aK.no=[]){E:Act->World->Prop}{cs:List Frame}
   (hs:Sat w (bB.ay 0 ds) (Bh w fe) (start fn sg.args) ⟨(bQ sg.args fe).toArray++Array.replicate (fn.ntmps-(bQ sg.args fe).length) undef,[]⟩ w) (hb:fn.body=some c) (J2:(if sg.cons=0 then pq sg.res else mi sg)=ret)
   (hE:∀ai aJ aW a' w' rv F',a8 (aX (bt sg.args).length) (bB.ay 0 ds) ai (Bh w fe) aJ->Sat w ai aJ aW a' w'->qV P aW fn.results.toList=some rv->(ret rv aW).holds Γ X [] ai F'->E a' w')
   (h:(qZ P aK f fn sg fuel).holds Γ X [] (bB.ay 0 ds) (fun _ _=>False)) :
   Reach P aK.cw {fn:=f,tmps:=#[],todo:=[],defers:=[],mode:=.run,kind:=.normal} cs E (fun _ _=>False) (lone (Frame.at {fn:=f,tmps:=#[],todo:=[],defers:=[],mode:=.run,kind:=.normal} ⟨(bQ sg.args fe).toArray++Array.replicate (fn.ntmps-(bQ sg.args fe).length) undef,[]⟩ (cz [.code c])) cs w):=by
 subst J2;have main:∀(J9:jA) (jB:St),ja P J9->dt P Γ J9 w->J9.cw=aK.cw->(∀p∈J9.no,p.1<(bt sg.args).length/\((bB.ay 0 ds) p.1).int≠p.2)->Sat w (bB.ay 0 ds) (Bh w fe) jB ⟨(bQ sg.args fe).toArray++Array.replicate (fn.ntmps-(bQ sg.args fe).length) undef,[]⟩ w->jB.nD=[]->jB.next=(bt sg.args).length->
     (exec P J9 fuel none [] f fn [.code c] jB (if sg.cons=0 then pq sg.res else mi sg)).holds Γ X [] (bB.ay 0 ds) (fun _ _=>False)->Reach P aK.cw {fn:=f,tmps:=#[],todo:=[],defers:=[],mode:=.run,kind:=.normal} cs E (fun _ _=>False) (lone (Frame.at {fn:=f,tmps:=#[],todo:=[],defers:=[],mode:=.run,kind:=.normal} ⟨(bQ sg.args fe).toArray++Array.replicate (fn.ntmps-(bQ sg.args fe).length) undef,[]⟩ (cz [.code c])) cs w):=by
   intro J9 jB hB1 adY hg V8 AY xD eX hh;rw[<- hg];exact Gr (b:={fn:=f,tmps:=#[],todo:=[],defers:=[],mode:=.run,kind:=.normal}) (cs:=cs) (base:=(bt sg.args).length) (e0:=bB.ay 0 ds) (p0:=Bh w fe) (F0:=fun _ _=>False) (E:=E) (EP:=fun _ _=>False) (Ps:=[]) (k:=[.code c]) hB1 adY V8 AY xD (by omega) cc (fun _ _=>rfl) trivial
     (fun ai aJ aW a' w' rv F' g1 _ g3 _ _ g6 _ g8=>hE ai aJ aW a' w' rv F' g1 g3 g6 g8) (fun _ _ _ _ _ _ _ _ g=>g) hh
 unfold qZ at h;rw[hb]at h;simp only at h;split at h;exact main aK _ hB gQ rfl (by rw[oc];intro p hp;simp at hp) hs rfl rfl h;rename_i x m _;split at h;rename_i hx;have hx:x<(bt sg.args).length:=qt hx;rcases CJ h with⟨v,hv,h⟩|⟨ck,h⟩;exact main aK _ hB gQ rfl (by rw[oc];intro p hp;simp at hp) (hs.fix hv) rfl rfl h;refine main {aK with no:=(List.range m).map fun(v:Nat)=>(x,(v:Int)) } _ ⟨hB.aG,hB.xp,hB.vB⟩ gQ rfl (fun p hp=>?_) hs rfl rfl h;obtain⟨v,hv,rfl⟩:=kE.1 hp;exact⟨hx,ck v hv⟩;exact h.elim
theorem EC{Γ:bK}{aK:jA}{f:FuncId}{fn:Func}{c:Code}{fuel:Nat}{ct:cL}(hB:ja P aK){Wd:World->Prop}(gQ:∀w,Wd w->dt P Γ aK w)(hf:P.funcs[f]?=some fn)(hb:fn.body=some c)(hn:(fn.name == "runtime.NumGoroutine")=false)(oc:aK.no=[])
   {T:ar} (hT:qZ P aK f fn ct.sig fuel=T) (h:∀ds,kinds (bt ct.sig.args) ds=true->ct.pre ds->T.holds Γ (ct.rel ds) [] (bB.ay 0 ds) (fun _ _=>False)):if ct.sig.cons=0 then eD P Wd f ct else ij P Wd f ct:=by
 subst hT;have MD:∀fe:List Value,Frame.enter P f (bQ ct.sig.args fe).toArray .normal=Frame.at {fn:=f,tmps:=#[],todo:=[],defers:=[],mode:=.run,kind:=.normal} ⟨(bQ ct.sig.args fe).toArray++Array.replicate (fn.ntmps-(bQ ct.sig.args fe).length) undef,[]⟩ (cz [.code c]):=fun fe=>by
   simp[Frame.enter,Frame.at,hf,hb,cz]
 split;rename_i u6;refine⟨da hf hb hn,fun w vs ds V9 ha hp cs=>?_⟩;obtain⟨fe,rfl,cY⟩:=ha;have hs:=Bp (fn:=fn) cY;have hh:=h ds (ie cY) hp;obtain⟨a',w',todo,vF⟩:=MG (cs:=cs) (E:=Uk P fn ct.sig.res w (ct.rel ds)) (ret:=pq ct.sig.res) hB (gQ w V9) oc hs hb (by rw[if_pos u6]) (fun ai aJ aW a' w' rv F' _ g3 g6 g8=>J8 g3 g6 g8) hh;rcases vF with⟨⟨Sa,bL,fE,e1,e2,e3,e4,e5⟩,dM⟩|⟨_,_,hf,_⟩;refine⟨.returned (packed (bQ ct.sig.res bL)),w',{Frame.at {fn:=f,tmps:=#[],todo:=[],defers:=[],mode:=.run,kind:=.normal} a' todo with mode:=.returning},⟨bL,fE,rfl,e2,e3,e4,e5⟩,?_,?_,⟨rfl,Sa,rfl,fn,hf,e1⟩⟩;show Steps P (lone (Frame.enter P f (bQ ct.sig.args fe).toArray .normal) cs w) _;rw[MD];exact dM;rfl;exact hf.elim;rename_i u6;refine⟨da hf hb hn,fun w B fe ds V9 ha hp cs=>?_⟩;have hs:=Bp (fn:=fn) ha.fit;have hh:=h ds (ie ha.fit) hp;obtain⟨a',w',todo,vF⟩:=MG (cs:=cs) (E:=MF P fn ct.sig w B fe (ct.rel ds)) (ret:=mi ct.sig) hB (gQ w V9) oc hs hb (by rw[if_neg u6]) (fun ai aJ aW a' w' rv F' g1 g3 g6 g8=>Gs g3 g6 ha g1 g8) hh;rcases vF with⟨⟨Sa,bL,fE,e1,e2,e3,e4,e5,e6⟩,dM⟩|⟨_,_,hf,_⟩;refine⟨.returned (packed (bQ ct.sig.res bL)),w',{Frame.at {fn:=f,tmps:=#[],todo:=[],defers:=[],mode:=.run,kind:=.normal} a' todo with mode:=.returning},⟨bL,fE,rfl,e2,e3,e4,e5,e6⟩,?_,?_,⟨rfl,Sa,rfl,fn,hf,e1⟩⟩;show Steps P (lone (Frame.enter P f (bQ ct.sig.args fe).toArray .normal) cs w) _;rw[MD];exact dM;rfl;exact hf.elim
end
section
theorem Bq{U:aA}{ks:List BE}(h:∀k∈ks,k.ae U=true):∀ {p:BE},gP ks p=true->p.ae U=true:=by
 have hc:∀p,ks.contains p=true->p.ae U=true:=fun p hp=>h p (by simpa using hp);intro p;induction p with
 | and a b et eP=>
   intro hp;simp only[gP,fU,ah]at hp;rcases hp with hp|⟨h1,h2⟩;exact hc _ hp;simp[BE.ae,et h1,eP h2]
 | or a b et eP=>
   intro hp;simp only[gP,fU]at hp;rcases hp with hp|h1|h2;exact hc _ hp;simp[BE.ae,et h1];simp[BE.ae,eP h2]
 | c b=>
   intro hp;cases b with
   |true=>rfl
   |false=>exact hc _ (by simpa[gP]using hp)
 |_=>intro hp;exact hc _ (by simpa[gP]using hp)
theorem uB{U:aA}{ks:List BE}(h:∀k∈ks,k.ae U=true){p:BE}:(q3 ks p).ae U=p.ae U:=by
 unfold q3;split;rename_i g n;split;rename_i hg;simp[BE.ae,Bq h hg];rfl;rfl
theorem uC{U:aA}{p:BE}:∀ {ks:List BE},(∀k∈ks,k.ae U=true)->p.ae U=true->∀k∈iL p ks,k.ae U=true:=by
 induction p with
 | and a b et eP=>
   intro ks h hp k hk;simp only[iL,bh]at hk;have yM:=hp;simp only[BE.ae,ah]at yM;rcases hk with rfl|hk;exact hp;exact et (eP h yM.2) yM.1 k hk
 | _=>
   intro ks h hp k hk;simp only[iL,bh]at hk;rcases hk with rfl|hk;exact hp;exact h k hk
def AO:List (Int->Prop)->List (Int->Prop)->Prop
 | [],[]=>True
 |p::ps,q::qs=>(∀e,p e->q e)/\AO ps qs
 |_,_=>False
theorem AO.refl:∀ {ps:List (Int->Prop)},AO ps ps
 | []=>trivial
 |_::_=>⟨fun _ h=>h,AO.refl⟩
theorem AO.head{ps qs:List (Int->Prop)}(h:AO ps qs){e:Int}(hp:jI ps e):jI qs e:=by
 cases ps with
 |nil=>exact hp.elim
 | cons p ps=>cases qs with
   |nil=>exact h.elim
   |cons q qs=>exact h.1 e hp
theorem yT{Γ:bK}{fl fl':Int->Prop}{e:Ev}{k k':aA->Prop}{U:aA}(hf:∀e,fl e->fl' e)(hk:∀U,k U->k' U)(h:e.holds (Γ.at fl) k U):e.holds (Γ.at fl') k' U:=by
 cases e with
 |dh p e=>exact⟨fun hp=>hk _ (h.1 hp),fun hp=>hf _ (h.2 hp)⟩
 |aG p=>exact⟨h.1,hk _ h.2⟩
 |call f g args res base=>exact Ev.iY (Γ:=Γ.at fl) (e:=.call f g args res base) hk h
 |cu id op=>exact hk _ h
theorem MH{Γ:bK}{R:List DV->Prop}:∀ {t:ar} {U:aA} {F:Nat->List DV->Prop} {Ps Qs:List (Int->Prop)},AO Ps Qs->t.holds Γ R Ps U F->t.holds Γ R Qs U F:=by
 intro t;induction t with
 |ret vs=>intro U F Ps Qs _ h;exact h
 |stuck s=>intro U F Ps Qs _ h;exact h
 |again id vs=>intro U F Ps Qs _ h;exact h
 |ev e t ih=>intro U F Ps Qs hl h;exact yT (fun e he=>hl.head he) (fun U h=>ih hl h) h
 |ite c a b et eP=>intro U F Ps Qs hl h;exact⟨fun hc=>et hl (h.1 hc),fun hc=>eP hl (h.2 hc)⟩
 | loop id es kd base body ih=>
   intro U F Ps Qs hl h;obtain⟨inv,ox,h1,h2⟩:=h;exact⟨inv,ox,h1,fun ds hd hi=>ih hl (h2 ds hd hi)⟩
 |fail e=>intro U F Ps Qs hl h;exact hl.head h
 |gi x tp t AP ih=>intro U F Ps Qs hl h;exact ih (Ps:=_::Ps) (Qs:=_::Qs) ⟨fun e he=>AP hl he,hl⟩ h
 | pop t ih=>
   intro U F Ps Qs hl h;cases Ps with
   |nil=>exact h.elim
   | cons p ps=>cases Qs with
     |nil=>exact hl.elim
     |cons q qs=>exact ih hl.2 h
theorem ED{Γ:bK}{R:List DV->Prop}:∀ {t:ar} {ks:List BE} {U:aA} {F:Nat->List DV->Prop} {Ps:List (Int->Prop)},(∀k∈ks,k.ae U=true)->(prune ks t).holds Γ R Ps U F->t.holds Γ R Ps U F:=by
 intro t;induction t with
 |ret vs=>intro ks U F Ps _ h;exact h
 |stuck s=>intro ks U F Ps _ h;exact h
 |again id vs=>intro ks U F Ps _ h;exact h
 | ev e t ih=>
   intro ks U F Ps hk h;cases e with
   | aG p=>
     simp only[prune]at h;split at h;rename_i ZH;exact⟨by rw[<- uB hk];exact Bq hk ZH,ih hk h⟩;obtain⟨h1,h2⟩:=h;exact⟨by rw[<- uB hk];exact h1,ih (uC hk h1) h2⟩
   |call f g args res base=>exact Ev.iY (e:=.call f g args res base) (fun _ h=>ih (ks:=[]) (fun k hk=>by simp at hk) h) h
   |cu id op=>exact ih (ks:=[]) (fun k hk=>by simp at hk) h
   |dh p e=>exact⟨fun hp=>ih (ks:=[]) (fun k hk=>by simp at hk) (h.1 hp),h.2⟩
 | ite c a b et eP=>
   intro ks U F Ps hk h;refine⟨fun hc=>et (uC hk hc) (h.1 hc),fun hc=>eP ?_ (h.2 hc)⟩;intro k cK;rcases bh.1 cK with rfl|cK;rw[BE.bY];simp[BE.ae,hc];exact hk k cK
 | loop id es kd base body ih=>
   intro ks U F Ps hk h;obtain⟨inv,ox,h1,h2⟩:=h;exact⟨inv,ox,h1,fun ds hd hi=>ih (fun k hk=>by simp at hk) (h2 ds hd hi)⟩
 |fail e=>intro ks U F Ps _ h;exact h
 | gi x tp t AP ih=>
   intro ks U F Ps hk h;have h2:t.holds Γ R ((fun n=>(prune [] tp).holds Γ R Ps (U.set x (.i n)) F)::Ps) U F:=ih hk h;show t.holds Γ R ((fun n=>tp.holds Γ R Ps (U.set x (.i n)) F)::Ps) U F;refine MH (Ps:=(fun n=>(prune [] tp).holds Γ R Ps (U.set x (.i n)) F)::Ps) ?_ h2;exact⟨fun e he=>AP (fun k hk=>by simp at hk) he,AO.refl⟩
 | pop t ih=>
   intro ks U F Ps hk h;cases Ps with
   |nil=>exact h.elim
   |cons p ps=>exact ih hk h
variable {P:Program}
theorem wU{Γ:bK}{aK:jA}{f:FuncId}{fn:Func}{c:Code}{fuel:Nat}{ct:cL}(hB:ja P aK){Wd:World->Prop}(gQ:∀w,Wd w->dt P Γ aK w)(hf:P.funcs[f]?=some fn)(hb:fn.body=some c)(hn:(fn.name == "runtime.NumGoroutine")=false)(oc:aK.no=[])
   {T:ar} (hT:prune [] (qZ P aK f fn ct.sig fuel)=T) (h:∀ds,kinds (bt ct.sig.args) ds=true->ct.pre ds->T.holds Γ (ct.rel ds) [] (bB.ay 0 ds) (fun _ _=>False)):if ct.sig.cons=0 then eD P Wd f ct else ij P Wd f ct:=
 EC hB gQ hf hb hn oc rfl fun ds hk hp=>ED (ks:=[]) (fun k hk=>by simp at hk) (by rw[hT];exact h ds hk hp)
end
section
variable {Γ:bK}{R:List DV->Prop}{Ps:List (Int->Prop)}{U:aA}{F:Nat->List DV->Prop}{t t':ar}
end
section
open Go.RowKit
abbrev bD:=Nat->List DV->Option (List DV)
abbrev qa:=Nat->List DV->Option (List DV)
def Ev.run(C:bD)(e:Ev)(k:aA->Option (List DV))(U:aA):Option (List DV):=
 match e with
 |.aG p=>if p.ae U=true then k U else none
 |.call f g args res base=>if g.ae U=true then(match C f (args.map (DE.ae U))with
     |some rs=>k (U.ay base rs)
     |none=>none)else k (U.ay base (defs (bt res)))
 |.cu id op=>k (U.set id (.l (op.ae U)))
 |.dh _ _=>none
def iter(step:(List DV->Option (List DV))->List DV->Option (List DV)):Nat->List DV->Option (List DV)
 |0,_=>none
 |n+1,ds=>step (iter step n) ds
def yY(F:qa)(id:Nat)(G:List DV->Option (List DV)):qa:=fun j vs=>if j=id then G vs else F j vs
def ar.run(C:bD)(N:Nat):ar->List (Int->Option (List DV))->aA->qa->Option (List DV)
 |.ret bO,_,U,_=>some (bO.map (DE.ae U))
 |.stuck _,_,_,_=>none
 |.ev e t,Ps,U,F=>e.run C (fun ai=>t.run C N Ps ai F) U
 |.ite c a b,Ps,U,F=>if c.ae U=true then a.run C N Ps U F else b.run C N Ps U F
 |.loop id entry _ base body,Ps,U,F=>iter (fun rec ds=>body.run C N Ps (U.ay base ds) (yY F id rec)) N (entry.map (DE.ae U))
 |.again id bO,_,U,F=>F id (bO.map (DE.ae U))
 | .fail e,Ps,U,_=>match Ps with
   |p::_=>p (e.ae U)
   | []=>none
 |.gi x tp t,Ps,U,F=>t.run C N ((fun n=>tp.run C N Ps (U.set x (.i n)) F)::Ps) U F
 | .pop t,Ps,U,F=>match Ps with
   |_::R8=>t.run C N R8 U F
   | []=>none
def Un(r:List DV):List (Int->Option (List DV))->List (Int->Prop)->Prop
 | [],[]=>True
 |p::ps,q::qs=>(∀e,p e=some r->q e)/\Un r ps qs
 |_,_=>False
theorem Ki{Γ:bK}{C:bD}{N:Nat}{r:List DV}(hC:∀f ds rs,C f ds=some rs->∃c,Γ f=some c/\c.pre ds/\∀fq,c.rel ds fq->fq=rs) :
   ∀ {t:ar} {Ps:List (Int->Option (List DV))} {Qs:List (Int->Prop)} {U:aA} {F:qa} {G:Nat->List DV->Prop},Un r Ps Qs->(∀j vs,F j vs=some r->G j vs)->t.run C N Ps U F=some r->t.holds Γ (fun rs=>rs=r) Qs U G:=by
 intro t;induction t with
 |ret vs=>intro Ps Qs U F G _ _ h;show _=r;simpa[ar.run]using h
 |stuck s=>intro Ps Qs U F G _ _ h;cases h
 | ev e t ih=>
   intro Ps Qs U F G hP hF h;cases e with
   | aG p=>
     simp only[ar.run,Ev.run]at h;split at h;rename_i hp;exact⟨hp,ih hP hF h⟩;cases h
   | call f g args res base=>
     simp only[ar.run,Ev.run]at h;split at h;rename_i hg;refine⟨fun _=>?_,fun hn=>(by rw[hg]at hn;cases hn)⟩;split at h;rename_i rs vr;obtain⟨c,h1,h2,h3⟩:=hC f _ rs vr;exact⟨c,h1,h2,fun fq _ hr=>by rw[h3 fq hr];exact ih hP hF h⟩;cases h;rename_i hg;exact⟨fun hn=>absurd hn hg,fun _=>ih hP hF h⟩
   |cu id op=>exact ih hP hF h
   |dh p e=>cases h
 | ite c a b et eP=>
   intro Ps Qs U F G hP hF h;simp only[ar.run]at h;split at h;rename_i hc;exact⟨fun _=>et hP hF h,fun hn=>(by rw[hc]at hn;cases hn)⟩;rename_i hc;exact⟨fun hn=>absurd hn hc,fun _=>eP hP hF h⟩
 | loop id es kd base body ih=>
   intro Ps Qs U F G hP hF h;simp only[ar.run]at h;let step:(List DV->Option (List DV))->List DV->Option (List DV):=fun rec ds=>body.run C N Ps (U.ay base ds) (yY F id rec)
   classical
   have EF:∀ds,(∃n,iter step n ds=some r)->∃n,iter step n ds=some r/\∀m,iter step m ds=some r->n<=m:=by
     intro ds ⟨n,hn⟩;induction n using Nat.strongRecOn with
     | _ n Wb=>
       by_cases hx:∃m,m<n/\iter step m ds=some r;obtain⟨m,hm,jW⟩:=hx;exact Wb m hm jW;refine⟨n,hn,fun m hm=>?_⟩;by_cases cF:m<n;exact absurd ⟨m,cF,hm⟩ hx;omega
   refine⟨fun ds=>∃n,iter step n ds=some r,fun ds=>if hx:∃n,iter step n ds=some r then(EF ds hx).choose else 0,⟨N,h⟩,fun ds _ hi=>?_⟩;have Rh:=(EF ds hi).choose_spec;have hme:(if hx:∃n,iter step n ds=some r then(EF ds hx).choose else 0)=(EF ds hi).choose:=by rw[dif_pos hi]
   obtain⟨h1,h2⟩:=Rh;generalize hk:(EF ds hi).choose=k at h1 h2 hme;cases k with
   |zero=>cases h1
   | succ k=>
     refine ih (F:=yY F id (iter step k)) hP ?_ h1;intro j vs hj;unfold oN;unfold yY at hj;split;rename_i e;rw[if_pos e]at hj;refine⟨⟨k,hj⟩,?_⟩;have hx:∃n,iter step n vs=some r:=⟨k,hj⟩;simp only[hme,dif_pos hx];have:=(EF vs hx).choose_spec.2 k hj;omega;rename_i e;rw[if_neg e]at hj;exact hF j vs hj
 |again id vs=>intro Ps Qs U F G hP hF h;exact hF _ _ h
 | fail e=>
   intro Ps Qs U F G hP hF h;cases Ps with
   |nil=>cases h
   | cons p ps=>cases Qs with
     |nil=>exact hP.elim
     |cons q qs=>exact hP.1 _ h
 | gi x tp t AP ih=>
   intro Ps Qs U F G hP hF h;exact ih (Ps:=_::Ps) (Qs:=_::Qs) ⟨fun e he=>AP hP hF he,hP⟩ hF h
 | pop t ih=>
   intro Ps Qs U F G hP hF h;cases Ps with
   |nil=>cases h
   | cons p ps=>cases Qs with
     |nil=>exact hP.elim
     |cons q qs=>exact ih hP.2 hF h
def Se(a b:Option (List DV)):Prop:=∀r,a=some r->b=some r
def s5:List (Int->Option (List DV))->List (Int->Option (List DV))->Prop
 | [],[]=>True
 |p::ps,q::qs=>(∀e,Se (p e) (q e))/\s5 ps qs
 |_,_=>False
theorem s5.refl:∀ {ps:List (Int->Option (List DV))},s5 ps ps
 | []=>trivial
 |_::_=>⟨fun _ _ h=>h,s5.refl⟩
theorem mu{C C':bD}{N N':Nat}(hC:∀f ds,Se (C f ds) (C' f ds))(hN:N<=N') :
   ∀ {t:ar} {Ps Qs:List (Int->Option (List DV))} {U:aA} {F G:qa},s5 Ps Qs->(∀j vs,Se (F j vs) (G j vs))->Se (t.run C N Ps U F) (t.run C' N' Qs U G):=by
 intro t;induction t with
 |ret vs=>intro Ps Qs U F G _ _ r h;exact h
 |stuck s=>intro Ps Qs U F G _ _ r h;cases h
 | ev e t ih=>
   intro Ps Qs U F G hP hF r h;cases e with
   | aG p=>
     simp only[ar.run,Ev.run]at h ⊢;split at h;rename_i hp;rw[if_pos hp];exact ih hP hF r h;cases h
   | call f g args res base=>
     simp only[ar.run,Ev.run]at h ⊢;split at h;rename_i hg;rw[if_pos hg];split at h;rename_i rs vr;rw[hC _ _ _ vr];exact ih hP hF r h;cases h;rename_i hg;rw[if_neg hg];exact ih hP hF r h
   |cu id op=>exact ih hP hF r h
   |dh p e=>cases h
 | ite c a b et eP=>
   intro Ps Qs U F G hP hF r h;simp only[ar.run]at h ⊢;split at h;rename_i hc;rw[if_pos hc];exact et hP hF r h;rename_i hc;rw[if_neg hc];exact eP hP hF r h
 | loop id es kd base body ih=>
   intro Ps Qs U F G hP hF r h;simp only[ar.run]at h ⊢;have key:∀n n' ds,n<=n'->Se (iter (fun rec ds=>body.run C N Ps (U.ay base ds) (yY F id rec)) n ds) (iter (fun rec ds=>body.run C' N' Qs (U.ay base ds) (yY G id rec)) n' ds):=by
     intro n;induction n with
     |zero=>intro n' ds _ r h;cases h
     | succ n Wb=>
       intro n' ds hn r h;cases n' with
       |zero=>omega
       | succ n'=>
         refine ih hP (fun j vs=>?_) r h;unfold yY;split;exact Wb n' vs (by omega);exact hF j vs
   exact key N N' _ hN r h
 |again id vs=>intro Ps Qs U F G hP hF r h;exact hF _ _ r h
 | fail e=>
   intro Ps Qs U F G hP hF r h;cases Ps with
   |nil=>cases h
   | cons p ps=>cases Qs with
     |nil=>exact hP.elim
     |cons q qs=>exact hP.1 _ r h
 | gi x tp t AP ih=>
   intro Ps Qs U F G hP hF r h;exact ih (Ps:=_::Ps) (Qs:=_::Qs) ⟨fun e=>AP hP hF,hP⟩ hF r h
 | pop t ih=>
   intro Ps Qs U F G hP hF r h;cases Ps with
   |nil=>cases h
   | cons p ps=>cases Qs with
     |nil=>exact hP.elim
     |cons q qs=>exact ih hP.2 hF r h
def ar.jm(E:Nat->List DV->List DV->Prop)(R:List DV->Prop):ar->List (Int->Prop)->aA->(Nat->List DV->Prop)->Prop
 |.ret bO,_,U,_=>R (bO.map (DE.ae U))
 |.stuck _,_,_,_=>False
 |.ev (.aG p) t,Ps,U,F=>p.ae U=true/\t.jm E R Ps U F
 |.ev (.call f g args res base) t,Ps,U,F=>(g.ae U=true->∃rs,E f (args.map (DE.ae U)) rs/\t.jm E R Ps (U.ay base rs) F)/\(g.ae U=false->t.jm E R Ps (U.ay base (defs (bt res))) F)
 |.ev (.cu id op) t,Ps,U,F=>t.jm E R Ps (U.set id (.l (op.ae U))) F
 |.ev (.dh _ _) _,_,_,_=>False
 |.ite c a b,Ps,U,F=>(c.ae U=true->a.jm E R Ps U F)/\(c.ae U=false->b.jm E R Ps U F)
 |.loop id entry _ base body,Ps,U,F=>∃(inv:List DV->Prop) (ox:List DV->Nat),inv (entry.map (DE.ae U))/\
     ∀ds,inv ds->body.jm E R Ps (U.ay base ds) (oN F id (fun vs=>inv vs/\ox vs<ox ds))
 |.again id bO,_,U,F=>F id (bO.map (DE.ae U))
 |.fail e,Ps,U,_=>jI Ps (e.ae U)
 |.gi x tp t,Ps,U,F=>t.jm E R ((fun n=>tp.jm E R Ps (U.set x (.i n)) F)::Ps) U F
 | .pop t,Ps,U,F=>match Ps with
   |_::R8=>t.jm E R R8 U F
   | []=>False
def MO(C:Nat->bD):Prop:=∀n m f ds,n<=m->Se (C n f ds) (C m f ds)
def Wc(F:Nat->qa):Prop:=∀n m j vs,n<=m->Se (F n j vs) (F m j vs)
def CQ(P:Nat->List (Int->Option (List DV))):Prop:=∀n m,n<=m->s5 (P n) (P m)
def Uo(R:List DV->Prop)(P:Nat->List (Int->Option (List DV))):List (Int->Prop)->Prop
 | []=>∀n,P n=[]
 |q::qs=>(∀n,P n≠[])/\(∀e,q e->∃n r,((P n).headD (fun _=>none)) e=some r/\R r)/\Uo R (fun n=>(P n).tail) qs
theorem CQ.tail{P:Nat->List (Int->Option (List DV))}(h:CQ P):CQ fun n=>(P n).tail:=by
 intro n m hn;have:=h n m hn;show s5 (P n).tail (P m).tail;cases h1:P n with
 | nil=>cases h2:P m with
   |nil=>trivial
   |cons q qs=>rw[h1,h2]at this;exact this.elim
 | cons p ps=>cases h2:P m with
   |nil=>rw[h1,h2]at this;exact this.elim
   |cons q qs=>rw[h1,h2]at this;exact this.2
theorem Sf{C:Nat->bD}{E:Nat->List DV->List DV->Prop}{R:List DV->Prop}(hC:MO C)(hE:∀f ds rs,E f ds rs->∃n,C n f ds=some rs) :
   ∀ {t:ar} {P:Nat->List (Int->Option (List DV))} {Qs:List (Int->Prop)} {U:aA} {F:Nat->qa} {G:Nat->List DV->Prop},CQ P->Wc F->Uo R P Qs->(∀j vs,G j vs->∃n r,F n j vs=some r/\R r)->
     t.jm E R Qs U G->∃n r,t.run (C n) n (P n) U (F n)=some r/\R r:=by
 intro t;induction t with
 |ret vs=>intro P Qs U F G _ _ _ _ h;exact⟨0,_,rfl,h⟩
 |stuck s=>intro P Qs U F G _ _ _ _ h;exact h.elim
 | ev e t ih=>
   intro P Qs U F G hP hF hQ hG h;cases e with
   | aG p=>
     obtain⟨n,r,h1,h2⟩:=ih hP hF hQ hG h.2;exact⟨n,r,by simp only[ar.run,Ev.run,if_pos h.1];exact h1,h2⟩
   | call f g args res base=>
     by_cases hg:g.ae U=true;obtain⟨rs,he,ht⟩:=h.1 hg;obtain⟨n1,eX⟩:=hE _ _ _ he;obtain⟨n,r,h1,h2⟩:=ih hP hF hQ hG ht;refine⟨max n n1,r,?_,h2⟩;simp only[ar.run,Ev.run,if_pos hg,hC n1 (max n n1) _ _ (Nat.le_max_right ..) _ eX];exact mu (hC n _ · · (Nat.le_max_left ..)) (Nat.le_max_left ..) (hP _ _ (Nat.le_max_left ..)) (hF _ _ · · (Nat.le_max_left ..)) r h1;have A5:g.ae U=false:=by simpa using hg
     obtain⟨n,r,h1,h2⟩:=ih hP hF hQ hG (h.2 A5);exact⟨n,r,by simp only[ar.run,Ev.run,if_neg hg];exact h1,h2⟩
   |cu id op=>exact ih hP hF hQ hG h
   |dh p e=>exact h.elim
 | ite c a b et eP=>
   intro P Qs U F G hP hF hQ hG h;by_cases hc:c.ae U=true;obtain⟨n,r,h1,h2⟩:=et hP hF hQ hG (h.1 hc);exact⟨n,r,by simp only[ar.run,if_pos hc];exact h1,h2⟩;obtain⟨n,r,h1,h2⟩:=eP hP hF hQ hG (h.2 (by simpa using hc));exact⟨n,r,by simp only[ar.run,if_neg hc];exact h1,h2⟩
 | loop id es kd base body ih=>
   intro P Qs U F G hP hF hQ hG h;obtain⟨inv,ox,h0,hb⟩:=h;let lp:Nat->Nat->List DV->Option (List DV):=fun n=>iter (fun rec ds=>body.run (C n) n (P n) (U.ay base ds) (yY (F n) id rec))
   have mono:∀k n m ds,n<=m->∀k',k<=k'->Se (lp n k ds) (lp m k' ds):=by
     intro k;induction k with
     |zero=>intro n m ds _ k' _ r h;cases h
     | succ k ihk=>
       intro n m ds hn k' hk r h;cases k' with
       |zero=>omega
       | succ k'=>
         refine mu (hC n m · · hn) hn (hP n m hn) (fun j vs=>?_) r h;unfold yY;split;exact ihk n m vs hn k' (by omega);exact hF n m j vs hn
   have key:∀x ds,inv ds->ox ds=x->∃n r,lp n n ds=some r/\R r:=by
     intro x;induction x using Nat.strongRecOn with
     | _ x nw=>
       intro ds hi hx;obtain⟨n,r,h1,h2⟩:=ih (F:=fun n=>yY (F n) id (lp n n)) hP (fun n m j vs hn=>by
         show Se (yY (F n) id (lp n n) j vs) (yY (F m) id (lp m m) j vs);unfold yY;split;exact mono n n m vs hn m hn;exact hF n m j vs hn) hQ (fun j vs hj=>by
         unfold oN at hj;split at hj;rename_i e;subst e;obtain⟨n,r,h1,h2⟩:=nw _ (by omega) vs hj.1 rfl;exact⟨n,r,by simp only[yY,if_pos];exact h1,h2⟩;rename_i e;obtain⟨n,r,h1,h2⟩:=hG j vs hj;exact⟨n,r,by simp only[yY,if_neg e];exact h1,h2⟩) (hb ds hi)
       refine⟨n+1,r,?_,h2⟩;show body.run (C (n+1)) (n+1) (P (n+1)) (U.ay base ds) (yY (F (n+1)) id (lp (n+1) n))=some r;refine mu (hC n (n+1) · · (by omega)) (by omega) (hP n (n+1) (by omega)) (fun j vs=>?_) r h1;unfold yY;split;exact mono n n (n+1) vs (by omega) n (eZ _);exact hF n (n+1) j vs (by omega)
   obtain⟨n,r,h1,h2⟩:=key _ _ h0 rfl;exact⟨n,r,h1,h2⟩
 |again id vs=>intro P Qs U F G hP hF hQ hG h;exact hG _ _ h
 | fail e=>
   intro P Qs U F G hP hF hQ hG h;cases Qs with
   |nil=>exact h.elim
   | cons q qs=>
     obtain⟨n,r,h1,h2⟩:=hQ.2.1 _ h;refine⟨n,r,?_,h2⟩;simp only[ar.run];cases hp:P n with
     |nil=>exact absurd hp (hQ.1 n)
     |cons p ps=>rw[hp]at h1;exact h1
 | gi x tp t AP ih=>
   intro P Qs U F G hP hF hQ hG h;refine ih (P:=fun n=>(fun e=>tp.run (C n) n (P n) (U.set x (.i e)) (F n))::P n) (Qs:=_::Qs) ?_ hF ⟨fun n=>by simp,fun e he=>?_,hQ⟩ hG h;intro n m hn;exact⟨fun e=>mu (hC n m · · hn) hn (hP n m hn) (hF n m · · hn),hP n m hn⟩;exact AP hP hF hQ hG he
 | pop t ih=>
   intro P Qs U F G hP hF hQ hG h;cases Qs with
   |nil=>exact h.elim
   | cons q qs=>
     obtain⟨n,r,h1,h2⟩:=ih (P:=fun n=>(P n).tail) hP.tail hF hQ.2.2 hG h;refine⟨n,r,?_,h2⟩;simp only[ar.run];cases hp:P n with
     |nil=>exact absurd hp (hQ.1 n)
     |cons p ps=>rw[hp]at h1;exact h1
theorem Kj{Γ:bK}{R R':List DV->Prop}(hR:∀rs,R rs->R' rs):∀ {t:ar} {Ps:List (Int->Prop)} {U:aA} {F:Nat->List DV->Prop},t.holds Γ R Ps U F->t.holds Γ R' Ps U F:=by
 have gen:∀ {t:ar} {Ps Qs:List (Int->Prop)} {U:aA} {F:Nat->List DV->Prop},AO Ps Qs->t.holds Γ R Ps U F->t.holds Γ R' Qs U F:=by
   intro t;induction t with
   |ret vs=>intro Ps Qs U F _ h;exact hR _ h
   |stuck s=>intro Ps Qs U F _ h;exact h
   |again id vs=>intro Ps Qs U F _ h;exact h
   |ev e t ih=>intro Ps Qs U F hP h;exact yT (fun e he=>hP.head he) (fun _ h=>ih hP h) h
   |ite c a b et eP=>intro Ps Qs U F hP h;exact⟨fun hc=>et hP (h.1 hc),fun hc=>eP hP (h.2 hc)⟩
   | loop id es kd base body ih=>
     intro Ps Qs U F hP h;obtain⟨inv,ox,h1,h2⟩:=h;exact⟨inv,ox,h1,fun ds hd hi=>ih hP (h2 ds hd hi)⟩
   |fail e=>intro Ps Qs U F hP h;exact hP.head h
   |gi x tp t AP ih=>intro Ps Qs U F hP h;exact ih (Ps:=_::Ps) (Qs:=_::Qs) ⟨fun e he=>AP hP he,hP⟩ h
   | pop t ih=>
     intro Ps Qs U F hP h;cases Ps with
     |nil=>exact h.elim
     | cons p ps=>cases Qs with
       |nil=>exact hP.elim
       |cons q qs=>exact ih hP.2 h
 intro t Ps U F h;exact gen AO.refl h
structure gb where
 f:FuncId
 tree:ar
 sub:List (FuncId×Nat)
def gb.key(e:gb)(g:FuncId):Nat:=match e.sub.find? (fun p=>p.1==g)with
 |some p=>p.2
 |none=>g
def ev(T:Nat->Option gb)(X:bD):Nat->bD
 |0,_,_=>none
 | n+1,k,ds=>match T k with
   |some e=>e.tree.run (fun g=>ev T X n (e.key g)) n [] (bB.ay 0 ds) (fun _ _=>none)
   |none=>X k ds
theorem gy{T:Nat->Option gb}{X:bD}:MO (ev T X):=by
 intro n;induction n with
 |zero=>intro m f ds _ r h;cases h
 | succ n ih=>
   intro m k ds hm r h;cases m with
   |zero=>omega
   | succ m=>
     simp only[ev]at h ⊢;split at h;exact mu (fun g ds=>ih m _ ds (by omega)) (by omega) s5.refl (fun _ _ _ h=>h) r h;exact h
def cm(T:Nat->Option gb)(X:bD)(k:Nat)(ds rs:List DV):Prop:=∃n,ev T X n k ds=some rs
theorem cm.det{T:Nat->Option gb}{X:bD}{k:Nat}{ds rs fq:List DV}(h:cm T X k ds rs)(h':cm T X k ds fq):rs=fq:=by
 obtain⟨n,hn⟩:=h;obtain⟨m,hm⟩:=h';have a:=gy n (max n m) k ds (Nat.le_max_left ..) rs hn;have b:=gy m (max n m) k ds (Nat.le_max_right ..) fq hm;rw[a]at b;simpa using b
theorem EG{T:Nat->Option gb}{X:bD}{k:Nat}{e:gb}{ds:List DV}{R:List DV->Prop}(hk:T k=some e)(h:e.tree.jm (fun g=>cm T X (e.key g)) R [] (bB.ay 0 ds) (fun _ _=>False)):∃rs,cm T X k ds rs/\R rs:=by
 obtain⟨n,r,h1,h2⟩:=Sf (C:=fun n g=>ev T X n (e.key g)) (E:=fun g=>cm T X (e.key g)) (R:=R) (fun n m f ds hn=>gy n m _ ds hn) (fun f ds rs h=>h) (t:=e.tree) (P:=fun _=>[]) (Qs:=[]) (U:=bB.ay 0 ds) (F:=fun _ _ _=>none) (G:=fun _ _=>False)
   (fun _ _ _=>trivial) (fun _ _ _ _ _ _ h=>h) (fun _=>rfl) (fun _ _ h=>h.elim) h
 exact⟨r,⟨n+1,by simp only[ev,hk];exact h1⟩,h2⟩
theorem im{T:Nat->Option gb}{X:bD}{k:Nat}{ds rs:List DV}(hk:T k=none)(h:X k ds=some rs):cm T X k ds rs:=⟨1,by simp only[ev,hk];exact h⟩
variable {P:Program}
def mX(T:Nat->Option gb)(k:Nat):FuncId:=match T k with
 |some e=>e.f
 |none=>k
def s6(T:Nat->Option gb)(Xd:Nat->Bool)(k:Nat):Bool:=(T k).isSome||Xd k
def Has(P:Program)(Wd:World->Prop)(f:FuncId)(c:cL):Prop:=if c.sig.cons=0 then eD P Wd f c\/sf P f c else ij P Wd f c
def Sg:CT->DE->Bool
 |.s _ _,.rows _=>true
 |.s _ _,.kn _=>true
 |c,d=>qY c d
def Bu:List CT->List DE->Bool
 | [],[]=>true
 |c::cs,d::ds=>Sg c d&&Bu cs ds
 |_,_=>false
def ar.lJ(ks:List CT):ar->Bool
 |.ret bO=>Bu ks bO
 |.ev _ t=>t.lJ ks
 |.ite _ a b=>a.lJ ks&&b.lJ ks
 |.loop _ _ _ _ t=>t.lJ ks
 |.gi _ a b=>a.lJ ks&&b.lJ ks
 |.pop t=>t.lJ ks
 |_=>true
theorem Kk{U:aA}:∀ {ks:List CT} {ds:List DE},Bu ks ds=true->kinds ks (ds.map (DE.ae U))=true:=by
 intro ks;induction ks with
 |nil=>intro ds h;cases ds<;>simp_all[Bu,kinds]
 | cons c ks ih=>intro ds h;cases ds with
   |nil=>simp[Bu]at h
   | cons d ds=>
     simp only[Bu,ah]at h;simp only[jt,kinds,ih h.2,Bool.and_true];have:=h.1;cases c with
     |c k=>cases k<;>cases d<;>simp_all[Sg,qY,DE.ae,DV.kind]
     |s e ks=>cases d<;>simp_all[Sg,qY,DE.ae,DV.kind]
     |n e aH=>cases d<;>simp_all[Sg,qY,DE.ae,DV.kind]
theorem Kl{C:bD}{N:Nat}{ks:List CT}:∀ {t:ar} {Ps:List (Int->Option (List DV))} {U:aA} {F:qa} {r:List DV},t.lJ ks=true->(∀p∈Ps,∀e r,p e=some r->kinds ks r=true)->(∀j vs r,F j vs=some r->kinds ks r=true)->t.run C N Ps U F=some r->kinds ks r=true:=by
 intro t;induction t with
 |ret vs=>intro Ps U F r ht _ _ h;simp only[ar.run,af]at h;subst h;exact Kk ht
 |stuck s=>intro Ps U F r _ _ _ h;cases h
 | ev e t ih=>
   intro Ps U F r ht hP hF h;have ht:t.lJ ks=true:=ht;cases e with
   | aG p=>
     simp only[ar.run,Ev.run]at h;split at h;exact ih ht hP hF h;cases h
   | call f g args res base=>
     simp only[ar.run,Ev.run]at h;split at h;split at h;exact ih ht hP hF h;cases h;exact ih ht hP hF h
   |cu id op=>exact ih ht hP hF h
   |dh p e=>cases h
 | ite c a b et eP=>
   intro Ps U F r ht hP hF h;simp only[ar.lJ,ah]at ht;simp only[ar.run]at h;split at h;exact et ht.1 hP hF h;exact eP ht.2 hP hF h
 | loop id es kd base body ih=>
   intro Ps U F r ht hP hF h;have ht:body.lJ ks=true:=ht;simp only[ar.run]at h;have key:∀n ds r,iter (fun rec ds=>body.run C N Ps (U.ay base ds) (yY F id rec)) n ds=some r->kinds ks r=true:=by
     intro n;induction n with
     |zero=>intro ds r h;cases h
     | succ n Wb=>
       intro ds r h;refine ih ht hP (fun j vs r hj=>?_) h;unfold yY at hj;split at hj;exact Wb vs r hj;exact hF j vs r hj
   exact key N _ r h
 |again id vs=>intro Ps U F r _ _ hF h;exact hF _ _ _ h
 | fail e=>
   intro Ps U F r _ hP _ h;cases Ps with
   |nil=>cases h
   |cons p ps=>exact hP p (aM ..) _ _ h
 | gi x tp t AP ih=>
   intro Ps U F r ht hP hF h;simp only[ar.lJ,ah]at ht;refine ih (Ps:=_::Ps) ht.2 (fun p hp e r he=>?_) hF h;rcases bh.1 hp with rfl|hp;exact AP ht.1 hP hF he;exact hP p hp e r he
 | pop t ih=>
   intro Ps U F r ht hP hF h;have ht:t.lJ ks=true:=ht;cases Ps with
   |nil=>cases h
   |cons p ps=>exact ih ht (fun q hq=>hP q (aZ _ hq)) hF h
def Up(P:Program)(Wd:World->Prop)(T:Nat->Option gb)(Xd:Nat->Bool)(sg:Nat->Option bJ)(k:Nat)(e:gb):Prop:=
 ∃aK fn c fuel s,(aK.no=[]/\e.tree.lJ (bt s.res)=true)/\sg k=some s/\ja P aK/\(∀g s',aK.sig g=some s'->sg (e.key g)=some s'/\mX T (e.key g)=g)/\(∀g,s6 T Xd (e.key g)=true->(aK.sig g).isSome=true)/\
   P.funcs[e.f]?=some fn/\fn.body=some c/\(fn.name == "runtime.NumGoroutine")=false/\prune [] (qZ P aK e.f fn s fuel)=e.tree/\
   (∀w,Wd w->∀g cs,(g,cs)∈aK.wE->∃T z,w.heap[g]?=some (.cells (cs.map fun n=>Value.int .i64 n).toArray T z))
structure yZ(P:Program)(Wd:World->Prop)(T:Nat->Option gb)(X:bD)(Xd:Nat->Bool)(sg:Nat->Option bJ):Prop where
 stays:∀w w',Wd w->Below w.heap.size w w'->Wd w'
 ent:∀k e,T k=some e->Up P Wd T Xd sg k e
 aaN:∀k s,T k=none->sg k=some s->∀ds rs,X k ds=some rs->kinds (bt s.res) rs=true
 ext:∀k s,T k=none->Xd k=true->sg k=some s->Has P Wd k ⟨s,fun ds=>∃rs,kinds (bt s.res) rs=true/\X k ds=some rs,fun ds rs=>X k ds=some rs,fun _ h=>h⟩
 non:∀k ds,Xd k=false->X k ds=none
theorem ij.weaken{Wd:World->Prop}{f:FuncId}{c c':cL}(h:ij P Wd f c)(hs:c'.sig=c.sig)(hp:∀ds,c'.pre ds->c.pre ds)(hr:∀ds rs,c'.pre ds->c.rel ds rs->c'.rel ds rs):ij P Wd f c':=by
 obtain⟨s,pre,rel,ne⟩:=c;obtain⟨s',CR,EH,ne'⟩:=c';simp only at hs;subst hs;exact⟨h.1,fun w B fe ds hw ha hd=>(h.2 w B fe ds hw ha (hp ds hd)).mono fun e w' he=>by
   obtain⟨bL,fE,e1,e2,e3,e4,e5,e6⟩:=he;exact⟨bL,fE,e1,e2,e3,e4,e5,hr _ _ hd e6⟩⟩
theorem eD.weaken{Wd:World->Prop}{f:FuncId}{c c':cL}(h:eD P Wd f c)(hs:c'.sig=c.sig)(hp:∀ds,c'.pre ds->c.pre ds)(hr:∀ds rs,c'.pre ds->c.rel ds rs->c'.rel ds rs):eD P Wd f c':=by
 obtain⟨s,pre,rel,ne⟩:=c;obtain⟨s',CR,EH,ne'⟩:=c';simp only at hs;subst hs;exact⟨h.1,fun w vs ds hw ha hd=>(h.2 w vs ds hw ha (hp ds hd)).mono fun e w' he=>by
   obtain⟨bL,fE,e1,e2,e3,e4,e5⟩:=he;exact⟨bL,fE,e1,e2,e3,e4,hr _ _ hd e5⟩⟩
theorem sf.weaken{f:FuncId}{c c':cL}(h:sf P f c)(hs:c'.sig=c.sig)(hp:∀ds,c'.pre ds->c.pre ds)(hr:∀ds rs,c'.pre ds->c.rel ds rs->c'.rel ds rs):sf P f c':=by
 obtain⟨s,pre,rel,ne⟩:=c;obtain⟨s',CR,EH,ne'⟩:=c';simp only at hs;subst hs;exact fun w vs ds ha hd=>by
   obtain⟨bL,fE,e1,e2,e3,e4⟩:=h w vs ds ha (hp ds hd);exact⟨bL,fE,e1,e2,e3,hr _ _ hd e4⟩
theorem Has.weaken{Wd:World->Prop}{f:FuncId}{c c':cL}(h:Has P Wd f c)(hs:c'.sig=c.sig)(hp:∀ds,c'.pre ds->c.pre ds)(hr:∀ds rs,c'.pre ds->c.rel ds rs->c'.rel ds rs):Has P Wd f c':=by
 unfold Has at h ⊢;rw[hs];split at h;rename_i hc;rw[if_pos hc];exact h.imp (fun a=>a.weaken hs hp hr) (fun a=>a.weaken hs hp hr);rename_i hc;rw[if_neg hc];exact h.weaken hs hp hr
theorem MP{Wd:World->Prop}{f:FuncId}{c:cL}(h:if c.sig.cons=0 then eD P Wd f c else ij P Wd f c):Has P Wd f c:=by
 unfold Has;split at h;rename_i hc;rw[if_pos hc];exact .inl h;rename_i hc;rw[if_neg hc];exact h
theorem Has.known{Wd:World->Prop}{f:FuncId}{c:cL}{w0:World}(h:Has P Wd f c)(hw:∀w,Below w0.heap.size w0 w->Wd w):if c.sig.cons=0 then pD P w0 f c\/sf P f c else ij P (Below w0.heap.size w0) f c:=by
 unfold Has at h;split at h;rename_i hc;rw[if_pos hc];exact h.imp (fun a=>a.at hw) (fun a=>a);rename_i hc;rw[if_neg hc];exact⟨h.1,fun w B fe ds hb ha hp=>h.2 w B fe ds (hw w hb) ha hp⟩
abbrev evC(T:Nat->Option gb)(X:bD)(n k:Nat)(s:bJ):cL:=⟨s,fun ds=>∃rs,kinds (bt s.res) rs=true/\ev T X n k ds=some rs,fun ds rs=>ev T X n k ds=some rs,fun _ h=>h⟩
theorem rj{Wd:World->Prop}{T:Nat->Option gb}{X:bD}{Xd:Nat->Bool}{sg:Nat->Option bJ}(h:yZ P Wd T X Xd sg){n k:Nat}{s:bJ}{ds rs:List DV}(hs:sg k=some s)(hr:ev T X n k ds=some rs):kinds (bt s.res) rs=true:=by
 cases n with
 |zero=>cases hr
 | succ n=>
   simp only[ev]at hr;cases hT:T k with
   |none=>rw[hT]at hr;exact h.aaN k s hT hs ds rs hr
   | some e=>
     rw[hT]at hr;obtain⟨aK,fn,c,fuel,s',h0,h1,_⟩:=h.ent k e hT;rw[hs,af]at h1;subst h1;exact Kl h0.2 (fun p hp=>by simp at hp) (fun j vs r hj=>by cases hj) hr
theorem MQ{Wd:World->Prop}{T:Nat->Option gb}{X:bD}{Xd:Nat->Bool}{sg:Nat->Option bJ}(h:yZ P Wd T X Xd sg) :
   ∀n k s,sg k=some s->s6 T Xd k=true->Has P Wd (mX T k) (evC T X n k s):=by
 intro n;induction n with
 | zero=>
   intro k s hs hd;cases hT:T k with
   | none=>
     have hx:Xd k=true:=by simpa[s6,hT]using hd
     have hf:mX T k=k:=by simp[mX,hT]
     rw[hf];refine(h.ext k s hT hx hs).weaken rfl (fun ds hp=>?_) (fun ds rs hp _=>?_)<;>(obtain⟨rs,_,vr⟩:=hp;cases vr)
   | some e=>
     obtain⟨aK,fn,c,fuel,s',h0,h1,h2,_,_,h5,h6,h7,h8,h9⟩:=h.ent k e hT;rw[hs,af]at h1;subst h1;have hf:mX T k=e.f:=by simp[mX,hT]
     rw[hf];refine MP (wU (Γ:=⟨fun _=>none,fun _=>False⟩) h2 (fun w hw=>⟨fun f c hc=>(by cases hc),h9 w hw⟩) h5 h6 h7 h0.1 h8 fun ds hk hp=>?_);obtain⟨rs,_,vr⟩:=hp;cases vr
 | succ n ih=>
   intro k s hs hd;cases hT:T k with
   | none=>
     have hx:Xd k=true:=by simpa[s6,hT]using hd
     have hf:mX T k=k:=by simp[mX,hT]
     rw[hf];refine(h.ext k s hT hx hs).weaken rfl (fun ds hp=>?_) (fun ds rs hp hr=>?_)<;>simp only[ev,hT]at * <;>assumption
   | some e=>
     obtain⟨aK,fn,c,fuel,s',h0,h1,h2,h3,h4,h5,h6,h7,h8,h9⟩:=h.ent k e hT;rw[hs,af]at h1;subst h1;have hf:mX T k=e.f:=by simp[mX,hT]
     rw[hf];let Γ:bK:=⟨fun g=>match aK.sig g with
       |some s'=>if s6 T Xd (e.key g)=true then some (evC T X n (e.key g) s')else none
       |none=>none,fun _=>False⟩
     have gQ:∀w,Wd w->dt P Γ aK w:=by
       refine fun w hw=>⟨fun g c hc=>?_,h9 w hw⟩;simp only[Γ]at hc;split at hc;rename_i s' iX;split at hc;rename_i hdg;simp only[af]at hc;subst hc;obtain⟨g1,g2⟩:=h3 g s' iX;have:=ih (e.key g) s' g1 hdg;rw[g2]at this;exact⟨this.known fun w' hb=>h.stays w w' hw hb,iX⟩;cases hc;cases hc
     refine MP (wU (Γ:=Γ) h2 gQ h5 h6 h7 h0.1 h8 fun ds hk hp=>?_);obtain⟨r,_,hr⟩:=hp;have cq:=hr;simp only[ev,hT]at hr;have:=Ki (Γ:=Γ) (C:=fun g=>ev T X n (e.key g)) (N:=n) (r:=r) (fun g ds rs hg=>by
       have hdg:s6 T Xd (e.key g)=true:=by
         unfold s6;cases hTg:T (e.key g)with
         |some _=>rfl
         | none=>
           cases n with
           |zero=>cases hg
           | succ n=>
             simp only[ev,hTg]at hg;cases hx:Xd (e.key g)with
             |true=>rfl
             |false=>rw[h.non _ _ hx]at hg;cases hg
       obtain⟨s',iX⟩:=xT.1 (h4 g hdg);refine⟨evC T X n (e.key g) s',by simp only[Γ,iX,hdg,if_true],⟨rs,rj h (h3 g s' iX).1 hg,hg⟩,fun fq cq=>?_⟩;have cq:ev T X n (e.key g) ds=some fq:=cq;rw[hg]at cq;simpa using cq.symm) (Ps:=[]) (Qs:=[]) (G:=fun _ _=>False) trivial (fun j vs hj=>by cases hj) hr
     refine Kj (fun rs vr=>?_) this;subst vr;exact cq
theorem uF{Wd:World->Prop}{T:Nat->Option gb}{X:bD}{Xd:Nat->Bool}{sg:Nat->Option bJ}(h:yZ P Wd T X Xd sg){k:Nat}{e:gb}{ct:cL}(hT:T k=some e)(hs:sg k=some ct.sig)(u6:ct.sig.cons=0)(hp:∀ds,kinds (bt ct.sig.args) ds=true->ct.pre ds->∃rs,cm T X k ds rs/\ct.rel ds rs) :
   eD P Wd e.f ct:=by
 have hd:s6 T Xd k=true:=by simp[s6,hT]
 have hf:mX T k=e.f:=by simp[mX,hT]
 obtain⟨aK,fn,c,fuel,s',h0,h1,h2,h3,h4,h5,h6,h7,h8,h9⟩:=h.ent k e hT;refine⟨da h5 h6 h7,fun w vs ds V9 ha Az=>?_⟩;have hk:kinds (bt ct.sig.args) ds=true:=by obtain⟨_,_,hf⟩:=ha;exact ie hf
 obtain⟨rs,⟨n,hn⟩,hr⟩:=hp ds hk Az;have hc:=MQ h n k ct.sig hs hd;rw[hf]at hc;unfold Has at hc;rw[if_pos u6]at hc;rcases hc with hc|hc;refine(hc.2 w vs ds V9 ha ⟨rs,rj h hs hn,hn⟩).mono fun ex w' he=>?_;obtain⟨bL,fE,e1,e2,e3,e4,e5⟩:=he;have e5:ev T X n k ds=some fE:=e5;rw[hn,af]at e5;subst e5;exact⟨bL,rs,e1,e2,e3,e4,hr⟩;obtain⟨bL,fE,e1,_,_,_⟩:=hc w vs ds ha ⟨rs,rj h hs hn,hn⟩;have:=(da h5 h6 h7) w vs.toArray;rw[this]at e1;cases e1
end
section
def qn(T:Nat->Option gb)(X:bD)(k:Nat)(pre:List DV->Prop)(rel:List DV->List DV->Prop):Prop:=∀ds,pre ds->∃rs,cm T X k ds rs/\rel ds rs
theorem qn.weaken{T:Nat->Option gb}{X:bD}{k:Nat}{pre CR:List DV->Prop}{rel EH:List DV->List DV->Prop}(h:qn T X k pre rel)(hp:∀ds,CR ds->pre ds)(hr:∀ds rs,CR ds->rel ds rs->EH ds rs):qn T X k CR EH:=
 fun ds hd=>let⟨rs,h1,h2⟩:=h ds (hp ds hd);⟨rs,h1,hr ds rs hd h2⟩
theorem qn.and{T:Nat->Option gb}{X:bD}{k:Nat}{pre CR:List DV->Prop}{rel EH:List DV->List DV->Prop}(h:qn T X k pre rel)(h':qn T X k CR EH):qn T X k (fun ds=>pre ds/\CR ds) (fun ds rs=>rel ds rs/\EH ds rs):=
 fun ds hd=>by
   obtain⟨rs,h1,h2⟩:=h ds hd.1;obtain⟨fq,HB,h2'⟩:=h' ds hd.2;cases h1.det HB;exact⟨rs,h1,h2,h2'⟩
theorem vJ{T:Nat->Option gb}{X:bD}{k:Nat}{f:FuncId}{tr:ar}{sub:List (FuncId×Nat)}{pre:List DV->Prop}{rel:List DV->List DV->Prop}(hk:T k=some ⟨f,tr,sub⟩)
   (h:∀ds,pre ds->tr.jm (fun g=>cm T X ((gb.mk f tr sub).key g)) (rel ds) [] (bB.ay 0 ds) (fun _ _=>False)):qn T X k pre rel:=fun ds hd=>EG hk (h ds hd)
variable {E:Nat->List DV->List DV->Prop}{R:List DV->Prop}{Ps:List (Int->Prop)}{U:aA}{F:Nat->List DV->Prop}{t t':ar}
theorem pM{p:BE}(h:p.ae U=true)(ht:t.jm E R Ps U F):(ar.ev (.aG p) t).jm E R Ps U F:=⟨h,ht⟩
theorem mv{id:Nat}{op:cT}{M:List (List Int)}(e:op.ae U=M)(ht:t.jm E R Ps (U.set id (.l M)) F):(ar.ev (.cu id op) t).jm E R Ps U F:=by subst e;exact ht
theorem vK{f:FuncId}{args:List DE}{res:List VT}{base:Nat}{pre:List DV->Prop}{rel:List DV->List DV->Prop}(hc:∀ds,pre ds->∃rs,E f ds rs/\rel ds rs)(hp:pre (args.map (DE.ae U)))
   (ht:∀rs,E f (args.map (DE.ae U)) rs->rel (args.map (DE.ae U)) rs->t.jm E R Ps (U.ay base rs) F):(ar.ev (.call f (.c true) args res base) t).jm E R Ps U F:=
 ⟨fun _=>let⟨rs,h1,h2⟩:=hc _ hp;⟨rs,h1,ht rs h1 h2⟩,fun h=>by simp[BE.ae]at h⟩
theorem rk{c:BE}(h1:c.ae U=true->t.jm E R Ps U F)(h2:c.ae U=false->t'.jm E R Ps U F):(ar.ite c t t').jm E R Ps U F:=⟨h1,h2⟩
theorem vL{id:Nat}{entry:List DE}{ks:List CT}{base:Nat}{body:ar}(inv:List DV->Prop)(ox:List DV->Nat)(h0:inv (entry.map (DE.ae U)))
   (hb:∀ds,inv ds->body.jm E R Ps (U.ay base ds) (oN F id (fun vs=>inv vs/\ox vs<ox ds))):(ar.loop id entry ks base body).jm E R Ps U F:=⟨inv,ox,h0,hb⟩
theorem uG{id:Nat}{bO:List DE}{G:List DV->Prop}(h:G (bO.map (DE.ae U))):(ar.again id bO).jm E R Ps U (oN F id G):=by
 simpa[ar.jm,oN]using h
end
section
def ar.par(E:Nat->List DV->List DV->Prop)(R:List DV->Prop):ar->List (Int->Prop)->aA->(Nat->List DV->Prop)->Prop
 |.ret bO,_,U,_=>R (bO.map (DE.ae U))
 |.stuck _,_,_,_=>True
 |.ev (.aG p) t,Ps,U,F=>p.ae U=true->t.par E R Ps U F
 |.ev (.call f g args res base) t,Ps,U,F=>(g.ae U=true->∀rs,E f (args.map (DE.ae U)) rs->t.par E R Ps (U.ay base rs) F)/\(g.ae U=false->t.par E R Ps (U.ay base (defs (bt res))) F)
 |.ev (.cu id op) t,Ps,U,F=>t.par E R Ps (U.set id (.l (op.ae U))) F
 |.ev (.dh _ _) _,_,_,_=>True
 |.ite c a b,Ps,U,F=>(c.ae U=true->a.par E R Ps U F)/\(c.ae U=false->b.par E R Ps U F)
 |.loop id entry _ base body,Ps,U,F=>∃inv:List DV->Prop,inv (entry.map (DE.ae U))/\∀ds,inv ds->body.par E R Ps (U.ay base ds) (oN F id inv)
 |.again id bO,_,U,F=>F id (bO.map (DE.ae U))
 |.fail e,Ps,U,_=>jI Ps (e.ae U)
 |.gi x tp t,Ps,U,F=>t.par E R ((fun n=>tp.par E R Ps (U.set x (.i n)) F)::Ps) U F
 |.pop t,Ps,U,F=>t.par E R Ps.tail U F
def Uy(R:List DV->Prop):List (Int->Option (List DV))->List (Int->Prop)->Prop
 | [],_=>True
 |p::ps,q::qs=>(∀e,q e->∀r,p e=some r->R r)/\Uy R ps qs
 |_::_,[]=>False
theorem Sz{C:bD}{N:Nat}{E:Nat->List DV->List DV->Prop}{R:List DV->Prop}(hC:∀f ds rs,C f ds=some rs->E f ds rs) :
   ∀ {t:ar} {Ps:List (Int->Option (List DV))} {Qs:List (Int->Prop)} {U:aA} {F:qa} {G:Nat->List DV->Prop},Uy R Ps Qs->(∀j vs,G j vs->∀r,F j vs=some r->R r)->t.par E R Qs U G->∀r,t.run C N Ps U F=some r->R r:=by
 intro t;induction t with
 |ret bO=>intro Ps Qs U F G _ _ h r e;cases e;exact h
 |stuck s=>intro Ps Qs U F G _ _ h r e;cases e
 | ev e t ih=>
   intro Ps Qs U F G hP hF h r er;cases e with
   | aG p=>
     simp only[ar.run,Ev.run]at er;split at er;rename_i hp;exact ih hP hF (h hp) r er;cases er
   | call f g args res base=>
     simp only[ar.run,Ev.run]at er;split at er;rename_i hg;split at er;rename_i rs vr;exact ih hP hF (h.1 hg rs (hC _ _ _ vr)) r er;cases er;rename_i hg;exact ih hP hF (h.2 (by simpa using hg)) r er
   |cu id op=>exact ih hP hF h r er
   |dh p e=>cases er
 | ite c a b et eP=>
   intro Ps Qs U F G hP hF h r er;simp only[ar.run]at er;split at er;rename_i hc;exact et hP hF (h.1 hc) r er;rename_i hc;exact eP hP hF (h.2 (by simpa using hc)) r er
 | loop id es kd base body ih=>
   intro Ps Qs U F G hP hF h r er;obtain⟨inv,h0,hb⟩:=h;simp only[ar.run]at er;have key:∀n ds,inv ds->∀r,iter (fun rec ds=>body.run C N Ps (U.ay base ds) (yY F id rec)) n ds=some r->R r:=by
     intro n;induction n with
     |zero=>intro ds _ r e;cases e
     | succ n Wb=>
       intro ds hi r e;refine ih hP (fun j vs hj r hr=>?_) (hb ds hi) r e;unfold oN at hj;unfold yY at hr;split at hj;rename_i e;rw[if_pos e]at hr;exact Wb vs hj r hr;rename_i e;rw[if_neg e]at hr;exact hF j vs hj r hr
   exact key N _ h0 r er
 |again id vs=>intro Ps Qs U F G hP hF h r er;exact hF _ _ h r er
 | fail e=>
   intro Ps Qs U F G hP hF h r er;cases Ps with
   |nil=>cases er
   | cons p ps=>cases Qs with
     |nil=>exact hP.elim
     |cons q qs=>exact hP.1 _ h r er
 | gi x tp t AP ih=>
   intro Ps Qs U F G hP hF h r er;exact ih (Ps:=_::Ps) (Qs:=_::Qs) ⟨fun e he r hr=>AP hP hF he r hr,hP⟩ hF h r er
 | pop t ih=>
   intro Ps Qs U F G hP hF h r er;cases Ps with
   |nil=>cases er
   | cons p ps=>cases Qs with
     |nil=>exact hP.elim
     |cons q qs=>exact ih hP.2 hF h r er
theorem cR{T:Nat->Option gb}{X:bD}{k:Nat}{e:gb}{ds rs:List DV}{R:List DV->Prop}(hk:T k=some e)(h:e.tree.par (fun g=>cm T X (e.key g)) R [] (bB.ay 0 ds) (fun _ _=>True))(hg:cm T X k ds rs):R rs:=by
 obtain⟨n,hn⟩:=hg;cases n with
 |zero=>cases hn
 | succ n=>
   simp only[ev,hk]at hn;exact Sz (E:=fun g=>cm T X (e.key g)) (Ps:=[]) (Qs:=[]) (G:=fun _ _=>True) (fun f ds rs hf=>⟨n,hf⟩) trivial (fun j vs _ r hr=>by cases hr) h rs hn
variable {E:Nat->List DV->List DV->Prop}{R:List DV->Prop}{Ps:List (Int->Prop)}{U:aA}{F:Nat->List DV->Prop}{t t':ar}
theorem aP{p:BE}(ht:p.ae U=true->t.par E R Ps U F):(ar.ev (.aG p) t).par E R Ps U F:=ht
theorem ET{id:Nat}{op:cT}(ht:t.par E R Ps (U.set id (.l (op.ae U))) F):(ar.ev (.cu id op) t).par E R Ps U F:=ht
theorem ej{f:FuncId}{args:List DE}{res:List VT}{base:Nat}(ht:∀rs,E f (args.map (DE.ae U)) rs->t.par E R Ps (U.ay base rs) F):(ar.ev (.call f (.c true) args res base) t).par E R Ps U F:=
 ⟨fun _=>ht,fun h=>by simp[BE.ae]at h⟩
theorem xH{f:FuncId}{g:BE}{args:List DE}{res:List VT}{base:Nat}(ht:g.ae U=true->∀rs,E f (args.map (DE.ae U)) rs->t.par E R Ps (U.ay base rs) F)(hn:g.ae U=false->t.par E R Ps (U.ay base (defs (bt res))) F):(ar.ev (.call f g args res base) t).par E R Ps U F:=⟨ht,hn⟩
theorem iB{c:BE}(h1:c.ae U=true->t.par E R Ps U F)(h2:c.ae U=false->t'.par E R Ps U F):(ar.ite c t t').par E R Ps U F:=⟨h1,h2⟩
theorem rF{id:Nat}{entry:List DE}{ks:List CT}{base:Nat}{body:ar}(inv:List DV->Prop)(h0:inv (entry.map (DE.ae U)))
   (hb:∀ds,inv ds->body.par E R Ps (U.ay base ds) (oN F id inv)):(ar.loop id entry ks base body).par E R Ps U F:=⟨inv,h0,hb⟩
theorem nc{id:Nat}{bO:List DE}{G:List DV->Prop}(h:G (bO.map (DE.ae U))):(ar.again id bO).par E R Ps U (oN F id G):=by
 simpa[ar.par,oN]using h
theorem eA{bO:List DE}(h:R (bO.map (DE.ae U))):(ar.ret bO).par E R Ps U F:=h
end
section
def aaY(d:Nat->Bool)(ds xr:List DV):Prop:=ds.length=xr.length/\∀i,d i=true->ds[i]?=xr[i]?
variable {U ai:aA}{p:Nat->Bool}
theorem aaY.eq{d:Nat->Bool}{ds xr:List DV}(h:aaY d ds xr)(hd:∀i,d i=true):ds=xr:=List.ext_getElem? fun i=>h.2 i (hd i)
end
end Go.Sx

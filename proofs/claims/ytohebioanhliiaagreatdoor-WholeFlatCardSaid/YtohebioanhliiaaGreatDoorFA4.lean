/- The symbolic executor: its soundness, and what a table of functions gives. -/
import Derived.Test.YtohebioanhliiaaGreatDoorFA3
set_option linter.unusedVariables false
set_option linter.unusedSimpArgs false
namespace Go.Sx
section
open Go.RowKit
variable {ae aq:aF}{ph aQ:Ph}{P:Program}
variable{st h:St}
theorem E3{w:World}{g:Nat}{v:Value}{T:TypeId}{z:Nat×Nat}(h:w.heap[g]?=some (.cells #[v] T z)):w.setCell ⟨g,0,none⟩ v=w:=by
 obtain⟨heap,tape,drawn,os,output⟩:=w;simp only[World.setCell];congr 1;apply Array.ext_getElem?;intro k;rw[Array.getElem?_modify];split;rename_i e;simp only at h e ⊢;subst e;rw[h];simp;rfl
theorem zW(w:World)(g j:Nat)(v:Value):w.grownBy (w.setCell ⟨g,j,none⟩ v) (some g):=
 ⟨rfl,rfl,rfl,by simp[World.setCell],fun k _ hk=>Below.heap_setCell _ _ _ _ (fun e=>hk (by rw[e]))⟩
theorem mc(hp:oM (some h) st=true){b:iX}(hb:b∈h.bl):b∈st.bl:=by
 simp only[oM,ao,mE,aO]at hp;exact(eW (hp.1.1 b hb)).1
theorem ME(hp:oM (some h) st=true){r:Row}(hr:r∈h.rows):r∈st.rows:=by
 simp only[oM,ao,mE,aO]at hp;exact(bn (hp.1.2 r hr)).1
theorem oS(hp:oM (some h) st=true){r:eO}(hr:r∈h.bp):r∈st.bp:=by
 simp only[oM,ao,mE,aO]at hp;simpa using hp.2 r hr
theorem G2{aR:lg}{w0 w2:World}{vT:St}{c:Int}{o:Obj}(hd:st.qh=[])(hnb:∀b∈st.bl,b.all st.has=true)(rf:∀r∈st.rows,r.all st.has=true)(hnn:∀r∈st.bp,r.all st.has=true)(hM:tH w0 aq aQ vT w2)(hp:oM (some (gm aR st)) vT=true)
   (Uo:aR.GA.contains st.next=false) (bQ:∀k,k<st.next+1->ae k=aq k) :
   tH w0 (ae.set (st.next+1) (.i c)) aQ (mI (gm aR st) st.next (.v (st.next+1))) ((w2.alloc o).setCell ⟨aQ.r st.next,0,none⟩ (.int .i64 c)):=by
 have hh:=dV hd;rw[hh]at hnb rf hnn;have ZB:(⟨st.next,aR.ql,[.i .i64 (.c 0)]⟩:iX)∈(gm aR st).bl:=by
   simp only[gm,qL,UT,jB,gU,true_or,true_and,Uo,Bool.not_false]
 have Kr:=hM.mem.oo _ (mc hp ZB);have bD:∀b∈(gm aR st).bl,b=⟨st.next,aR.ql,[.i .i64 (.c 0)]⟩\/(b∈st.bl/\b.id<st.next):=fun b hb=>by
   simp only[gm,qL,UT,jB,gU]at hb;rcases hb.1 with h|h;exact .inl h;refine .inr ⟨h,?_⟩;have:=hnb b h;simp only[iX.all,ao,bt,aO]at this;exact this.1
 have iw:(gm aR st).rows=st.rows:=rfl;have jW:∀k,bt st.next k=true->aq k=ae.set (st.next+1) (.i c) k:=fun k hk=>by
   simp only[bt,aO]at hk;rw[<- bQ k (by omega),aF.set,if_neg (by omega)]
 have hA:bH (bt st.next) aq (ae.set (st.next+1) (.i c)) aQ aQ:=⟨jW,fun _ _=>rfl,fun _ _=>rfl⟩;have LY:w2.grownBy (w2.alloc o) (some (aQ.r st.next)):=jx (World.grownBy_alloc w2 _ none);have hg:w2.grownBy ((w2.alloc o).setCell ⟨aQ.r st.next,0,none⟩ (.int .i64 c)) (some (aQ.r st.next)):=qg LY (zW _ _ _ _);have hrf:∀r∈st.rows,r.cc (ae.set (st.next+1) (.i c)) aQ=r.cc aq aQ/\r.g.af (ae.set (st.next+1) (.i c))=r.g.af aq/\r∈vT.rows:=fun r hr=>by
   have:=rf r hr;simp only[Row.all,ao]at this;refine⟨by unfold Row.cc;rw[<- jW _ this.2.1],(BE.av jW this.2.2).symm,ME hp (by rw[iw];exact hr)⟩
 have A9:∀b'∈(mI (gm aR st) st.next (.v (st.next+1))).bl,∃b∈(gm aR st).bl,b'.id=b.id/\b∈vT.bl/\((b.id=st.next/\b' = {b with cells:=[.i .i64 (.v (st.next+1))] }/\b=⟨st.next,aR.ql,[.i .i64 (.c 0)]⟩)\/(b.id≠st.next/\b'=b/\b∈st.bl)):=fun b' nC=>by
   simp only[mI,jz]at nC;obtain⟨b,hb,rfl⟩:=nC;refine⟨b,hb,by split<;>rfl,mc hp hb,?_⟩;rcases bD b hb with h|⟨h1,h2⟩;exact .inl ⟨by rw[h],by rw[if_pos (by rw[h])],h⟩;exact .inr ⟨by omega,by rw[if_neg (by omega)],h1⟩
 refine⟨⟨fun b' nC=>?_,fun b' nC b1' agw da=>?_,fun r hr h1=>?_,fun b' nC r hr h1=>?_,fun r hr r' dj da ho h1 h2 k hk dH=>?_⟩,?_,fun b' nC=>?_,fun r hr=>?_,?_⟩
 . obtain⟨b,hb,l7,vL,⟨h1,h2,h3⟩|⟨h1,h2,h3⟩⟩:=A9 b' nC
   . subst h3;subst h2;refine⟨Kr.1,?_⟩;have hx:(w2.alloc o).heap[aQ.r st.next]?=some (.cells #[.int .i64 0] aR.ql (0,0)):=by
       rw[Below.heap_alloc _ _ _ Kr.lt];simpa[ak.af,IE.af]using Kr.2
     simp only[World.setCell,Array.getElem?_modify,if_true,hx];simp[ak.af,IE.af,aF.set,DV.int]
   . subst h2;have Up:=hM.mem.oo _ vL;have da:aQ.r b'.id≠aQ.r st.next:=hM.mem.bb _ vL _ (mc hp ZB) h1
     have h4:=Up.grown hg (fun e=>da (by simpa using e));have cJ:=hnb _ h3;simp only[iX.all,ao]at cJ;refine⟨h4.1,?_⟩;rw[h4.2,kP hA cJ.2]
 obtain⟨b,hb,l7,vL,_⟩:=A9 b' nC;obtain⟨b1,yb,agx,agy,_⟩:=A9 b1' agw;rw[l7,agx]at da ⊢;exact hM.mem.bb b vL b1 agy da;have hr:r∈st.rows:=hr;obtain⟨e1,e2,e3⟩:=hrf r hr;have h4:=(hM.mem.row r e3 (by rw[<- e2];exact h1)).grown hg (fun k hk e=>hM.mem.br _ (mc hp ZB) r e3 (by rw[<- e2];exact h1) (by rw[hk];exact e));have cJ:=rf r hr;simp only[Row.all,ao]at cJ;unfold gZ at *;rw[<- jW _ cJ.2.1];exact h4;obtain⟨b,hb,l7,vL,_⟩:=A9 b' nC;have hr:r∈st.rows:=hr;obtain⟨e1,e2,e3⟩:=hrf r hr;rw[l7,e1];exact hM.mem.br b vL r e3 (by rw[<- e2];exact h1);have hr:r∈st.rows:=hr;have dj:r'∈st.rows:=dj;obtain⟨e1,e2,e3⟩:=hrf r hr;obtain⟨f1,f2,f3⟩:=hrf r' dj;exact hM.mem.rr r e3 r' f3 da ho (by rw[<- e2];exact h1) (by rw[<- f2];exact h2) k (by rw[<- e1];exact hk) (by rw[<- f1];exact dH)
 . refine(hM.below.alloc hM.below.size o).setCell (p:=⟨aQ.r st.next,0,none⟩) Kr.1 _
 . have hn:(mI (gm aR st) st.next (.v (st.next+1))).has=bt (st.next+iB):=dV rfl;rw[hn];obtain⟨b,hb,l7,vL,⟨h1,h2,h3⟩|⟨h1,h2,h3⟩⟩:=A9 b' nC;subst h3;subst h2;simp[iX.all,bt,iB,bG,ak.all,IE.all];subst h2;exact iX.aK (dq (tn _ _)) (hnb _ h3)
 . have hn:(mI (gm aR st) st.next (.v (st.next+1))).has=bt (st.next+iB):=dV rfl;rw[hn];exact Row.aK (dq (tn _ _)) (rf _ hr)
 . have hn:=hM.nest;refine⟨fun k hk=>Eg (hn.lt k hk) hg.size,fun b' nC=>?_,fun r hr ho h1 k hk=>?_,fun n gn h1=>?_,fun n gn=>?_,fun n gn ho=>?_⟩;obtain⟨b,hb,l7,vL,_⟩:=A9 b' nC;rw[l7];exact hn.bz b vL;have hr:r∈st.rows:=hr;obtain⟨e1,e2,e3⟩:=hrf r hr;exact hn.rz r e3 ho (by rw[<- e2];exact h1) k (by rw[<- e1];exact hk)
   . have gn:n∈st.bp:=gn;have cJ:=hnn n gn;simp only[eO.all,ao]at cJ;obtain⟨h2,h3⟩:=hn.rd n (oS hp gn) (by rw[BE.av jW cJ.2.2];exact h1);refine⟨h2,?_⟩;have hgz:∀k,aQ.z k->some k≠some (aQ.r st.next):=fun k hk e=>by
       simp only[ah]at e;subst e;exact hn.bz _ (mc hp ZB) hk
     unfold fS at *;rw[<- jW _ cJ.2.1];split;rename_i ho;rw[if_pos ho]at h3;exact h3.nG (fun k hk=>hg.block k (hn.lt k hk.1) (hgz k hk.1)) (fun _ h=>h) (fun k hk=>hg.block k (hn.qc (oS hp gn) ho hk).2 (fun e=>by
       simp only[ah]at e;exact((hn.oz n (oS hp gn) ho).2 k hk).2.1 _ (mc hp ZB) e.symm))
     rename_i ho;rw[if_neg ho]at h3;exact h3.nG (fun k hk=>hg.block k (hn.lt k hk) (hgz k hk)) (fun _ h=>h)
   . have NU:(mI (gm aR st) st.next (.v (st.next+1))).has=bt (st.next+iB):=dV rfl;rw[NU];exact eO.aK (dq (tn _ _)) (hnn _ gn)
   have gn:n∈st.bp:=gn;obtain⟨f1,f2⟩:=hn.oz n (oS hp gn) ho;refine⟨f1,fun k hk=>?_⟩;obtain⟨g1,g2,g3,g4⟩:=f2 k hk;refine⟨g1,fun b' nC e=>?_,fun r hr h1 hf=>?_,fun n' pG re da=>g4 n' (oS hp pG) re da⟩;obtain⟨b,hb,l7,vL,_⟩:=A9 b' nC;rw[l7]at e;exact g2 b vL e;have hr:r∈st.rows:=hr;obtain⟨e1,e2,e3⟩:=hrf r hr;exact g3 r e3 (by rw[<- e2];exact h1) (by rw[<- e1];exact hf)
end
section
open Go.RowKit
variable {ae aq:aF}{ph aQ:Ph}{P:Program}
def ZC(P:Program)(aR:lg)(Γ:bZ)(R:List DV->Prop)(w0:World)(L:List Nat)(ex:Ex):Prop:=
 ∀(h:Option St) (g:FuncId) (vs:List V1) (st:St) (kr:List V1->St->aA) (ae:aF) (ph:Ph) (w:World) (F:Nat->List DV->Prop) (Ps:List (Int->Prop)) (MF:Ending->World->Prop),
   tH w0 ae ph st w->st.qh=[]->(∀p∈aR.no,p.1<st.next/\(ae p.1).int≠p.2)->ei st.has vs=true->(ex h g vs st kr).holds Γ R Ps ae F->
   (∀aq aQ bq w' rv F',bH st.has ae aq ph aQ->(∀j∈L,F' j=F j)->tH w0 aq aQ bq w'->bq.qh=[]->st.next<=bq.next->ei bq.has rv=true->(kr rv bq).holds Γ R Ps aq F'->MF (.returned (packed (rv.map (V1.af aq aQ)))) w')->
   (∀aq aQ bq w' e,bH st.has ae aq ph aQ->tH w0 aq aQ bq w'->oM h bq=true->kJ Ps e->MF (.panicked [fU aR.dm e]) w')->
   (∀w args,(callFunc g args).run P w = .ok (.enter g args) w)/\Calls P g (vs.map (V1.af ae ph)).toArray w MF
end
section
open Go.RowKit
variable {ae aq:aF}{ph aQ:Ph}{P:Program}
variable{st:St}{s:bc}{v:Bool}{dst:Option Tmp}
theorem Ac:(st.put dst s).qh=st.qh:=by cases dst<;>rfl
theorem xg:(st.put dst s).next=st.next:=by cases dst<;>rfl
theorem IZ{bq:St}(h1:st.qh=[])(h2:bq.qh=[])(h:st.next<=bq.next):∀k,st.has k=true->bq.has k=true:=by
 rw[dV h1,dV h2];exact dq h
theorem bc.Pg{p:BE}(hp:p.af ae=v)(s:bc):(s.know p v).af ae ph=s.af ae ph:=by
 unfold bc.know;split;rename_i x hx;split;rename_i he;subst he;simp only[bc.af,hx,SV.af,V1.af,ak.af,BE.af,hp];split;rename_i he;subst he;simp only[bc.af,hx,SV.af,V1.af,ak.af,BE.cL,BE.af,hp];rfl;rfl
theorem bc.Pj{p:BE}{q:Nat->Bool}(h:s.all q=true):(s.know p v).all q=true:=by
 have hg:s.g.all q=true:=by
   simp only[bc.all,ao]at h;exact h.1
 unfold bc.know;split;split;simp[bc.all,SV.all,V1.all,ak.all,BE.all,hg];split;simp[bc.all,SV.all,V1.all,ak.all,BE.all,hg];exact h;exact h
theorem Sat.know{w0 w:World}{a:Act}{p:BE}(hs:Sat w0 ae ph st a w)(hp:p.af ae=v):Sat w0 ae ph (st.know p v) a w:=by
 have L5:∀(t:Nat) (s:bc),(st.know p v).tmps[t]?=some (some s)->∃s0,st.tmps[t]?=some (some s0)/\s=s0.know p v:=fun t s ht=>by
   simp only[St.know,iS,bN]at ht;obtain⟨x,hx,ht⟩:=ht;obtain⟨s0,rfl,rfl⟩:=ht;exact⟨s0,hx,rfl⟩
 refine⟨⟨by rw[<- hs.tmps.1];simp[St.know],fun t s ht=>?_⟩,hs.mem,hs.below,hs.defers,⟨fun t s ht=>?_,hs.names.bl,hs.names.rows⟩,hs.nest.same (fun _ h=>h) rfl rfl rfl⟩;obtain⟨s0,h0,rfl⟩:=L5 t s ht;rw[bc.Pg hp];exact hs.tmps.2 t s0 h0;obtain⟨s0,h0,rfl⟩:=L5 t s ht;exact bc.Pj (hs.names.tmps t s0 h0)
section
variable {aR:lg}{Γ:bZ}{R:List DV->Prop}{w0:World}{L:List Nat}{ex:Ex}{h:Option St}{ops:Array Oper}{Q:Exit->Act->World->Prop}{E4:St->aA}{base:Nat}{e0:aF}{p0:Ph}{F0:Nat->List DV->Prop}{Ps:List (Int->Prop)}
theorem vv(hB:ki P aR)(ji:eZ P Γ aR w0)(hex:ZC P aR Γ R w0 L ex)(qH:∀p∈aR.no,p.1<base/\(e0 p.1).int≠p.2)
   (hK:∀aq aQ bq a' w' F',bH (bt base) e0 aq p0 aQ->(∀j∈L,F' j=F0 j)->Sat w0 aq aQ bq a' w'->bq.qh=[]->base<=bq.next->(E4 bq).holds Γ R Ps aq F'->Q .normal a' w')
   (hP:∀aq aQ bq (a':Act) w' e,bH (bt base) e0 aq p0 aQ->a'.defers=[]->tH w0 aq aQ bq w'->oM h bq=true->kJ Ps e->Q (.panic [fU aR.dm e]) a' w') :
   ∀ {l:List Oper} {st:St} {ae:aF} {ph:Ph} {a:Act} {w:World} {F:Nat->List DV->Prop},Sat w0 ae ph st a w->st.qh=[]->base<=st.next->bH (bt base) e0 ae p0 ph->(∀j∈L,F j=F0 j)->(ll P aR h ops ex l st E4).holds Γ R Ps ae F->wpList P ops Q l a w:=by
 intro l;induction l with
 | nil=>
   intro st ae ph a w F hs hd hb bQ hF hh;exact hK ae ph st a w F bQ hF hs hd hb hh
 | cons o l ih=>
   intro st ae ph a w F hs hd hb bQ hF hh;simp only[ll]at hh;have qS:=dV hd;have EJ:∀p∈aR.no,p.1<st.next/\(ae p.1).int≠p.2:=fun p hp=>by
     obtain⟨h1,h2⟩:=qH p hp;exact⟨by omega,by rw[<- bQ.e p.1 (by simp only[bt,aO];exact h1)];exact h2⟩
   have hup:∀ {aq aQ},bH st.has ae aq ph aQ->bH (bt base) e0 aq p0 aQ:=fun h=>mM bQ (jk (by rw[<- qS];exact h) hb);split at hh;exact hh.elim
   . rename_i G hg;have acU:=jF hg hs.tmps;show N3 P ops Q o (wpList P ops Q l) a w;split at hh
     . split at hh
       . rename_i r nN;split at hh
         . rename_i dJ bq pc;have he:=nZ hh;obtain⟨rfl,rfl,hm⟩:=ly pc;exact nV (Γ:=Γ.at (kJ Ps)) (dJ:=r.1) (bq:=r.2) hs nN he ji fun EO Di a1 w1 eK y9=>ih (eK.sat.close (bq:={r.2 with next:=tw st.next r.2,qh:=[] }) rfl rfl rfl rfl hm) rfl (lN hb (qQ _ _).1) (hup eK.agree) hF y9
         exact hh.elim
       exact hh.elim
     . rename_i sp Um;have no:(ll P aR h ops ex l (st.put o.dst kT) E4).holds Γ R Ps ae F->wpList P ops Q l (a.put o.dst undef) w:=fun hn=>
         ih (hs.put oE oC.symm) (by rw[Ac];exact hd) (by rw[xg];exact hb) bQ hF hn
       have yes:G.af ae=true->(Kc aR h ex st o.dst (fun bq=>ll P aR h ops ex l bq E4) sp).holds Γ R Ps ae F->o.wp P a w (wpList P ops Q l) Q:=by
         intro hG hy;have vr:=zj (P:=P) hB hG hs.tmps Um;cases sp with
         | inl g vs=>
           obtain⟨hv,cY⟩:=vr;obtain⟨mA,pJ⟩:=hex h g vs st _ ae ph w F Ps (fun e w'=>match e with
             |.returned v=>wpList P ops Q l (a.put o.dst v) w'
             |.panicked c=>Q (.panic c) a w'
             | .outgrown=>LetsOut Q) hs.Zn hd EJ hv hy (fun aq aQ bq w' rv F' g1 g2 g3 g4 g5 g6 g7=>by
               refine ih (g3.back hs g1 (IZ hd g4 g5) ?_ uC.symm) g4 (lN hb g5) (hup g1) (fun j hj=>(g2 j hj).trans (hF j hj)) g7;have:=qN (G:=.c true) (q:=bq.has) rfl g6;simpa[bc.all,BE.all]using this) (fun aq aQ bq w' e g1 g2 g3 g4=>hP aq aQ bq a w' e (hup g1) hs.defers g2 g3 g4)
           unfold Oper.wp;rw[cY mA w,Oper.upon_enter];refine Calls.mono pJ fun e w' he=>?_;cases e<;>exact he
         | val x=>
           obtain⟨hx,cY⟩:=vr;unfold Oper.wp;rw[cY w,Oper.upon_value];exact ih (hs.put (s:=⟨.c true,.v x⟩) (v:=x.af ae ph) (by simp only[bc.all,BE.all,Bool.true_and];exact hx) (by simp[bc.af,BE.af,SV.af])) (by rw[Ac];exact hd) (by rw[xg];exact hb) bQ hF hy
         | aH ok e=>
           obtain⟨f,hf,he,iA,cY⟩:=vr;obtain⟨mA,hc⟩:=hB.aH f hf;unfold Oper.wp;rw[cY mA w,Oper.upon_enter];refine Calls.mono (hc (ok.af ae) (e.af ae) w) ?_;rintro en w' ⟨rfl,⟨iA,rfl⟩|⟨iA,rfl⟩⟩;exact ih (hs.put (s:=⟨.c true,.H5 []⟩) (v:=.tuple #[]) rfl (by simp[bc.af,BE.af,SV.af])) (by rw[Ac];exact hd) (by rw[xg];exact hb) bQ hF (hy.1 iA);have h2:=hy.2 iA;unfold XA at h2;split at h2;rename_i nL;simp only[ao]at nL;exact hP ae ph st a _ _ bQ hs.defers hs.Zn nL.1 h2;exact h2.elim
         | Mf g vs=>
           simp only[Kc]at hy;split at hy;exact hy.elim
           . rename_i Uo;have Uo:aR.GA.contains st.next=false:=by simpa using Uo
             obtain⟨f,hf,hv,cY⟩:=vr;obtain⟨mA,hc⟩:=hB.yn f hf;obtain⟨_,eK⟩:=C4 (dst:=none) (key:=st.next) (e:=aR.ql) (ls:=[.i .i64 (.c 0)]) (dJ:=[]) hs (by unfold qD;rw[if_pos (by simp[St.free,hd,bG,ak.all,IE.all])]);have hw1:(w.alloc (.cells (([ak.i .i64 (.c 0)]).map (ak.af ae ph)).toArray aR.ql))=w.alloc (.cells #[.int .i64 0] aR.ql):=by simp[ak.af,IE.af]
             rw[hw1]at eK;have hT:tH w0 ae (ph.qi st.next w.heap.size) (qL aR st) (w.alloc (.cells #[.int .i64 0] aR.ql)):=(eK.sat.close (bq:=qL aR st) rfl rfl rfl rfl (by
               intro k hk;have hn:(qL aR st).has=bt (st.next+iB):=dV rfl;rw[hn];have hk:(st.bK st.next 1).has k=true:=hk;rw[xZ,qS]at hk;simp only[bt,hZ,ao,aO]at hk;have h64:iB=512:=rfl;simp only[bt,aO];omega)).Zn
             have htn:(qL aR st).has=bt (st.next+iB):=dV rfl;have acV:bH st.has ae ae ph (ph.qi st.next w.heap.size):=eK.agree;have Ks:∀ {aq aQ},bH (qL aR st).has ae aq (ph.qi st.next w.heap.size) aQ->bH st.has ae aq ph aQ:=fun g=>mM acV ⟨fun k hk=>g.e k (by rw[htn];rw[qS]at hk;exact dq (tn _ _) k hk),fun k hk=>g.r k (by rw[htn];rw[qS]at hk;exact dq (tn _ _) k hk),fun k hk=>g.v k (by rw[htn];rw[qS]at hk;exact dq (tn _ _) k hk)⟩;have iM:∀ {aq aQ},bH (qL aR st).has ae aq (ph.qi st.next w.heap.size) aQ->aQ.r st.next=w.heap.size:=fun g=>by
               rw[<- g.r st.next (by rw[htn];simp[bt,iB])];simp[Ph.qi]
             have ZB:(⟨st.next,aR.ql,[.i .i64 (.c 0)]⟩:iX)∈(gm aR st).bl:=by
               simp only[gm,qL,UT,jB,gU,true_or,true_and,Uo,Bool.not_false]
             obtain⟨agz,pJ⟩:=hex (some (gm aR st)) g vs (qL aR st) _ ae (ph.qi st.next w.heap.size) (w.alloc (.cells #[.int .i64 0] aR.ql)) F _ (fun e w2=>w2.heap[w.heap.size]?=some (.cells #[.int .i64 0] aR.ql (0,0))/\((e = .returned (.tuple #[])/\(w2.heap[w.heap.size]?=some (.cells #[.int .i64 0] aR.ql (0,0))/\wpList P ops Q l (a.put o.dst (.int .i64 0)) w2))\/∃c,e = .panicked [fU aR.dm c]/\∀ob,wpList P ops Q l (a.put o.dst (.int .i64 c)) ((w2.alloc ob).setCell ⟨w.heap.size,0,none⟩ (.int .i64 c)))) hT rfl (fun p hp=>⟨Eg (EJ p hp).1 (tn _ _),(EJ p hp).2⟩) (by rw[htn];rw[qS]at hv;exact(yV (dq (tn _ _)) hv)) hy
               (fun aq aQ bq w2 rv F' g1 g2 g3 g4 g5 g6 g7=>by
                 split at g7;rename_i nL;simp only[ao,aO]at nL;obtain⟨rfl,Ep⟩:=nL;have lO:=(g3.mem.oo _ (eW Ep).1).2;simp only[iM g1,kQ,pj,ak.af,IE.af]at lO;refine⟨lO,.inl ⟨rfl,lO,?_⟩⟩;simp only[aA.holds]at g7;exact ih (g3.back hs (Ks g1) (IZ hd g4 (lN (tn _ _) g5)) rfl rfl) g4 (lN hb (lN (tn _ _) g5)) (hup (Ks g1)) (fun j hj=>(g2 j hj).trans (hF j hj)) g7;exact g7.elim)
               (fun aq aQ bq w2 e g1 g2 g3 g4=>by
                 have lO:=(g2.mem.oo _ (mc g3 ZB)).2;simp only[iM g1,kQ,pj,ak.af,IE.af]at lO;refine⟨lO,.inr ⟨e,rfl,fun ob=>?_⟩⟩;have hC:=G2 (c:=e) (o:=ob) (ae:=ae) hd hs.names.bl hs.names.rows hs.nest.nm g2 g3 Uo (fun k hk=>g1.e k (by
                   have h64:iB=512:=rfl;rw[htn];simp only[bt,aO];omega))
                 rw[iM g1]at hC;have nY:bH st.has ae (ae.set (st.next+1) (.i e)) ph aQ:=by
                   refine⟨fun k hk=>?_,(Ks g1).r,(Ks g1).v⟩;rw[qS]at hk;simp only[bt,aO]at hk;rw[aF.set,if_neg (by omega)]
                 refine ih (hC.back hs nY (IZ hd rfl (tn _ _)) (by
                   have hn:(mI (gm aR st) st.next (.v (st.next+1))).has=bt (st.next+iB):=dV rfl;rw[hn];simp[SV.all,V1.all,ak.all,IE.all,bt,iB]) (by simp[SV.af,V1.af,ak.af,IE.af,aF.set,DV.int])) rfl (lN hb (tn _ _)) (hup nY) hF g4)
             rw[<- CU acV hv]at pJ;unfold Oper.wp;rw[cY mA w,Oper.upon_enter];refine Calls.mono (hc g _ w _ _ (fun w=>agz w _) pJ) ?_;rintro en w' ⟨w2,⟨rfl,⟨XK,hw⟩,rfl⟩|⟨c,rfl,hw,rfl⟩⟩;simp only;rw[E3 XK];exact hw;exact hw _
       unfold N3;rw[acU];split at hh;simp only[BE.af,if_true];exact .inl (yes rfl hh);simp only[BE.af,jU,if_false];exact no hh;rename_i G' _ _;cases hG:G.af ae;simp only[jU,if_false];exact ih (((hs.know hG)).put oE oC.symm) (by rw[Ac];exact hd) (by rw[xg];exact hb) bQ hF (hh.2 hG);simp only[if_true];exact .inl (yes hG (hh.1 hG))
end
end
section
open Go.RowKit
variable {ae aq:aF}{ph aQ:Ph}{P:Program}
theorem Vb{w0 wR w:World}{cH st:St}{eS:aF}{pS:Ph}{W:List Nat}{aS a:Act}(C7:Sat w0 eS pS cH aS wR)(hs:Sat w0 ae ph st a w)(bQ:bH cH.has eS ae pS ph)(hk:Iz cH W st=true):Kept cH eS pS W wR w:=by
 simp only[Iz,ao,mE,hZ,aO]at hk;refine⟨fun b hb hw=>?_,fun r hr hw=>?_⟩;have CV:=(eW ((hk.1 b hb).resolve_left (by rw[hw];simp))).1;have h1:=(C7.mem.oo b hb).2;have h2:=(hs.mem.oo b CV).2;have hn:=C7.names.bl b hb;simp only[iX.all,ao]at hn;rw[<- bQ.r _ hn.1,<- kP bQ hn.2]at h2;rw[h1,h2];exact absurd (hk.2 r hr) (by rw[hw];simp)
section
variable {aR:lg}{Γ:bZ}{R:List DV->Prop}{w0:World}{L:List Nat}{ex:Ex}{h:Option St}{ops:Array Oper}{Q:Exit->Act->World->Prop}{E4:St->aA}{F0:Nat->List DV->Prop}{Ps:List (Int->Prop)}
theorem I0{m n:Nat}(h:m<n):(qn m n).toArray.setIfInBounds m true=(qn (m+1) n).toArray:=by
 apply kS;rw[Array.toList_setIfInBounds];simp only[qn];apply List.ext_getElem?;intro j;rw[List.getElem?_set];simp only[List.getElem?_append,fE,List.length_replicate,Gj];grind
theorem CJ(hB:ki P aR)(ji:eZ P Γ aR w0)(hex:ZC P aR Γ R w0 L ex){cH:St}{eS:aF}(qH:∀p∈aR.no,p.1<cH.next/\(eS p.1).int≠p.2){pS:Ph}{W:List Nat}{wR:World}{aS:Act}(C7:Sat w0 eS pS cH aS wR)(Cc:cH.qh=[])(IN:Region.noSelect ops=true)(IS:qm ops=true)(hQ:∀c a d v w,Q (.panic c) (a.put d v) w->Q (.panic c) a w)
   (hK:∀aq aQ bq a' w' F',bH (bt cH.next) eS aq pS aQ->(∀j∈L,F' j=F0 j)->Sat w0 aq aQ bq a' w'->bq.qh=[]->cH.next<=bq.next->(E4 bq).holds Γ R Ps aq F'->Q .normal a' w')
   (hP:∀aq aQ bq (a':Act) w' e,bH (bt cH.next) eS aq pS aQ->a'.defers=[]->tH w0 aq aQ bq w'->oM h bq=true->kJ Ps e->Q (.panic [fU aR.dm e]) a' w') :
   ∀ {ps:List Nat} {lo:Nat} {st:St} {ae:aF} {ph:Ph} {a:Act} {w:World} {F:Nat->List DV->Prop},Sat w0 ae ph st a w->st.qh=[]->cH.next<=st.next->bH (bt cH.next) eS ae pS ph->(∀j∈L,F j=F0 j)->Kept cH eS pS W wR w->
     (wY P aR h ops ex cH W ps lo st E4).holds Γ R Ps ae F->iT P .any ops Q (jL cH eS pS ⟨[],some W⟩ wR) (ops.size-lo) (qn lo ops.size).toArray a w:=by
 have Dp:=dV Cc;have MG:nc {aR with eK:=h} (Γ.at (kJ Ps)) w0 cH.has eS pS Q:=fun aq aQ bq a' w' e g1 g2 g3 g4 g5=>hP aq aQ bq a' w' e (by rw[<- Dp];exact g1) g2 g3 g4 g5;have Un:ki P {aR with eK:=h}:=⟨hB.aH,hB.zR,hB.yn⟩;have acW:eZ P (Γ.at (kJ Ps)) {aR with eK:=h} w0:=ji;intro ps;induction ps with
 | nil=>
   intro lo st ae ph a w F hs hd hb bQ hF hk hh;have qS:=dV hd;have ur:∀k,cH.has k=true->st.has k=true:=by rw[Dp,qS];exact dq hb
   simp only[wY]at hh;split at hh
   . rename_i dJ bq hr;simp only[z7]at hr;split at hr
     . rename_i wD;simp only[ao,aO]at wD;obtain⟨ZD,wD⟩:=wD;split at hr
       . rename_i r T ZE;obtain⟨rfl,rfl,bT⟩:=ly hr;have:=(mB (aR:={aR with eK:=h}) (fin:=none) (k:=fun aq=>(E4 {r.2 with next:=tw st.next r.2,qh:=[] }).holds Γ R Ps aq F) (G:=Q .normal) (t:=0) (I:=fun _ _ _=>True) (EV Un acW MG) (fun {_ _ _ _ _} _=>trivial) (fun f c hf=>(ji.1 f c hf).2) IN IS GQ C7.names hQ ⟨rfl,fun _ _ h=>h⟩ (fun n m st r h=>by simp at h) ZE).2 _ _ _ _ (xe IS ZD) hs (by rw[Dp];exact bQ) ur hk trivial (nZ hh)
           (fun aq aQ a' w' ke jW hm _ dH=>hK aq aQ {r.2 with next:=tw st.next r.2,qh:=[] } a' w' F (mM bQ (jk (by rw[<- qS];exact jW) hb)) hF (ke.close rfl rfl rfl rfl bT) rfl (lN hb (qQ _ _).1) dH)
         rw[fR,uG wD]at this;exact this
       cases hr
     cases hr
   exact hh.elim
 | cons p ps ih=>
   intro lo st ae ph a w F hs hd hb bQ hF hk hh;have qS:=dV hd;have ur:∀k,cH.has k=true->st.has k=true:=by rw[Dp,qS];exact dq hb
   simp only[wY]at hh;split at hh
   . rename_i dJ bq hr;simp only[z7]at hr;split at hr
     . rename_i hc;simp only[ao,aO]at hc;obtain⟨⟨⟨ZD,hp⟩,wD⟩,Ca⟩:=hc;rw[GM IS,uG (by omega)]at Ca;split at hr
       . rename_i r T ZE;obtain⟨rfl,rfl,bT⟩:=ly hr;have he:=nZ hh;have hlen:ops.size-lo=(ops.size-p)+(p-lo):=by omega
         rw[hlen,<- uG (show lo<=ops.size by omega)];refine(mB (aR:={aR with eK:=h}) (fin:=some (Nat.pow 2 p-1)) (G:=fun a' w'=>iT P .any ops Q (jL cH eS pS ⟨[],some W⟩ wR) (ops.size-p) (qn p ops.size).toArray a' w') (t:=ops.size-p) (I:=fun _ _ _=>True) (EV Un acW MG) (fun {_ _ _ _ _} _=>trivial) (fun f c hf=>(ji.1 f c hf).2) IN IS GQ C7.names hQ (fun a' w' hG=>?_) (fun n m st r h=>by simp at h) ZE).2 _ _ _ _ (xe IS ZD) hs (by rw[Dp];exact bQ) ur hk trivial he
           (fun aq aQ a' w' ke jW hm _ dH=>?_)
         rw[uG (by omega)];exact hG
         ·
           split at dH
           . rename_i o ho;have MA:=ke.close (bq:={r.2 with next:=tw st.next r.2,qh:=[] }) rfl rfl rfl rfl bT;have nY:=mM bQ (jk (n:=cH.next) (by rw[<- qS];exact jW) hb);have nN:=vv (Q:=fun e a2 w2=>match e with| .normal=>Kept cH eS pS W wR w2/\iT P .any ops Q (jL cH eS pS ⟨[],some W⟩ wR) (ops.size-(p+1)) (qn (p+1) ops.size).toArray a2 w2|e=>Q e a2 w2) (base:=cH.next) (e0:=eS) (p0:=pS) (F0:=F0) (Ps:=Ps) hB ji hex qH
               (fun gD N5 vT a2 w2 F2 g1 g2 g3 g4 g5 g6=>by
                 split at g6;rename_i hkb;have UM:=Vb C7 g3 (by rw[Dp];exact g1) hkb;exact⟨UM,ih g3 g4 g5 g1 g2 UM g6⟩;exact g6.elim) (fun gD N5 vT a2 w2 e g1 g2 g3 g4 g5=>hP gD N5 vT a2 w2 e g1 g2 g3 g4 g5) (l:=[o]) MA rfl (lN hb (qQ _ _).1) nY hF dH
             have e1:ops.size-p=(ops.size-(p+1))+1:=by omega
             rw[e1];refine A3 Ca (by simp) fun i hi=>?_;obtain rfl:i=p:=by simpa using hi
             unfold wpOp;simp only[ho];rw[I0 hp];exact nN
           exact dH.elim
       cases hr
     cases hr
   exact hh.elim
end
end
section
open Go.RowKit
variable {ae aq:aF}{ph aQ:Ph}{P:Program}
variable{fn:Func}{w:World}{Γ:bZ}{w0:World}{F:Nat->List DV->Prop}{Ps:List (Int->Prop)}{R:List DV->Prop}{f:FuncId}{st:St}{c:Code}{ds:List DV}{gC:List Value}{sg:bX}{vs:List V1}
theorem E5{aR:lg}{ops:Array Oper}{bq:St}{dJ:List Ev}(h:wX P aR ops st=some (dJ,bq)):bq.qh=[]/\st.next<=bq.next:=by
 unfold wX at h;split at h;split at h;split at h;obtain⟨_,rfl,_⟩:=ly h;exact⟨rfl,(qQ _ _).1⟩;cases h;cases h;cases h
theorem MH{no:List (Nat×Int)}{p:BE}(h:OP no p=true)(qH:∀q∈no,(ae q.1).int≠q.2):p.af ae=false:=by
 unfold OP at h;split at h;rename_i k n;have:=qH (k,n) (by simpa using h);exact decide_eq_false this;cases h
theorem CL{go:St->aA}{a:Act}{X:Prop}:∀ {ps:List (Nat×Nat×Nat)} {st:St},Sat w0 ae ph st a w->(ED go ps st).holds Γ R Ps ae F->
   (∀lh:St,Sat w0 ae ph lh a w->lh.qh=st.qh->lh.next=st.next->(go lh).holds Γ R Ps ae F->X)->X:=by
 intro ps;induction ps with
 |nil=>intro st hs h hX;exact hX st hs rfl rfl h
 | cons p ps ih=>
   intro st hs h hX;obtain⟨r,x,m⟩:=p;obtain⟨v,hv,h⟩:=E2 h;exact ih (hs.fix hv) h (fun lh h1 h2 h3 h4=>hX lh h1 h2 h3 h4)
section
variable {aR:lg}{Γ:bZ}{R:List DV->Prop}{w0:World}
theorem I1(hB:ki P aR)(ji:eZ P Γ aR w0):∀ {n:Nat} {h:Option St} {L:List Nat} {f:FuncId} {fn:Func} {k:List K} {st:St} {kr:List V1->St->aA} {ae:aF} {ph:Ph} {a:Act} {w:World} {F:Nat->List DV->Prop} {Ps:List (Int->Prop)}
   {E:Act->World->Prop} {EP:Int->World->Prop} {b:Frame} {cs:List Frame} {base:Nat} {e0:aF} {p0:Ph} {F0:Nat->List DV->Prop},
   (∀p∈aR.no,p.1<base/\(e0 p.1).int≠p.2)->Sat w0 ae ph st a w->st.qh=[]->base<=st.next->bH (bt base) e0 ae p0 ph->(∀j∈L,F j=F0 j)->G0 P aR.dm b cs w0 E EP F ae ph st.next k->
   (∀aq aQ bq a' w' rv F',bH (bt base) e0 aq p0 aQ->(∀j∈L,F' j=F0 j)->Sat w0 aq aQ bq a' w'->bq.qh=[]->base<=bq.next->tu P bq fn.results.toList=some rv->ei bq.has rv=true->(kr rv bq).holds Γ R Ps aq F'->E a' w')->
   (∀aq aQ bq w' e,bH (bt base) e0 aq p0 aQ->tH w0 aq aQ bq w'->oM h bq=true->kJ Ps e->EP e w')->
   (exec P aR n h L f fn k st kr).holds Γ R Ps ae F->Reach P aR.dm b cs E EP (lone (b.at a (du k)) cs w):=by
 intro n;induction n with
 |zero=>intro h L f fn k st kr ae ph a w F Ps E EP b cs base e0 p0 F0 qH hs hd hb bQ hF hk hR hP hh;exact hh.elim
 | succ n ih=>
   intro h L f fn k st kr ae ph a w F Ps E EP b cs base e0 p0 F0 qH hs hd hb bQ hF hk hR hP hh;have EJ:∀p∈aR.no,p.1<st.next/\(ae p.1).int≠p.2:=fun p hp=>by
     obtain⟨h1,h2⟩:=qH p hp;exact⟨by omega,by rw[<- bQ.e p.1 (by simp only[bt,aO];exact h1)];exact h2⟩
   have Mx:(UW P fn st kr).holds Γ R Ps ae F->E a w:=fun hh=>by
     unfold UW at hh;split at hh;rename_i vs mH;split at hh;rename_i cJ;exact hR ae ph st a w vs F bQ hF hs hd hb mH cJ hh;exact hh.elim;exact hh.elim
   cases k with
   | nil=>
     simp only[exec]at hh;exact⟨a,w,[],.inl ⟨Mx hh,.one step_end⟩⟩
   | cons x k=>
     cases x with
     | oo id=>
       simp only[exec]at hh;exact Reach.step step_inBlock (ih qH hs hd hb bQ hF hk hR hP hh)
     | loop c=>
       simp only[exec]at hh;exact Reach.step step_inLoop (ih (k:=.code c :: .loop c::k) qH hs hd hb bQ hF hk hR hP hh)
     | zS c id jg ZF ks=>
       simp only[exec]at hh;split at hh;rename_i bM XK;obtain⟨⟨h1,e1,p1,h2,h3⟩,_⟩:=hk;exact h3 ae ph st a w bM h2 hs XK hh;exact hh.elim
     | code c=>
       cases c with
       | skip=>
         simp only[exec]at hh;exact Reach.step step_skip (ih qH hs hd hb bQ hF hk hR hP hh)
       | label l=>
         simp only[exec]at hh;exact Reach.step step_label (ih qH hs hd hb bQ hF hk hR hP hh)
       | seq x y=>
         simp only[exec]at hh;exact Reach.step step_seq (ih (k:=.code x :: .code y::k) qH hs hd hb bQ hF hk hR hP hh)
       | cond x y z=>
         simp only[exec]at hh;split at hh;rename_i hl;have:=aG hl cC hs.tmps;exact Reach.step (step_cond (t:=true) (by rw[this];rfl)) (ih (k:=.code y::k) qH hs hd hb bQ hF hk hR hP hh);rename_i hl;have:=aG hl cC hs.tmps;exact Reach.step (step_cond (t:=false) (by rw[this];rfl)) (ih (k:=.code z::k) qH hs hd hb bQ hF hk hR hP hh);rename_i p _ _ hl;have:=aG hl cC hs.tmps;simp only[ak.af]at this;split at hh;rename_i da;have hp:=MH da (fun q hq=>(EJ q hq).2);exact Reach.step (step_cond (t:=false) (by rw[this,hp])) (ih (k:=.code z::k) qH hs hd hb bQ hF hk hR hP hh);obtain⟨h1,h2⟩:=hh;cases hp:p.af ae;exact Reach.step (step_cond (t:=false) (by rw[this,hp])) (ih (k:=.code z::k) qH hs hd hb bQ hF hk hR hP (h2 hp));exact Reach.step (step_cond (t:=true) (by rw[this,hp])) (ih (k:=.code y::k) qH hs hd hb bQ hF hk hR hP (h1 hp));exact hh.elim
       | block id c=>
         simp only[exec]at hh;exact Reach.step step_block (ih (k:=.code c :: .oo id::k) qH hs hd hb bQ hF hk hR hP hh)
       | exit id=>
         simp only[exec]at hh;split at hh
         . rename_i k' hp;obtain⟨h1,h2⟩:=IY (P:=P) (T:=aR.dm) (b:=b) (cs:=cs) (w0:=w0) (E:=E) (EP:=EP) (F:=F) (ae:=ae) (ph:=ph) (next:=st.next) hp;exact Reach.step (step_exit h1) (ih qH hs hd hb bQ hF (h2 hk) hR hP hh)
         exact hh.elim
       | ret=>
         simp only[exec]at hh;exact⟨a,w,_,.inl ⟨Mx hh,.one step_ret⟩⟩
       | region id ops draw=>
         simp only[exec]at hh;have hex:ZC P aR Γ R w0 (L++oP k) (UX P (fun h' g NZ c bq kr'=>exec P aR n h' (L++oP k) g NZ [.code c] bq kr')):=by
           intro h' g vs bq kr' EO Di w1 F1 Ps1 MF hM Aa ZG hv XL hKR hKP;unfold UX at XL;split at XL
           . rename_i NZ mA;split at XL
             . rename_i c Dq;split at XL;exact XL.elim
               . rename_i IT;have IT:(NZ.name == "runtime.NumGoroutine")=false:=by simpa using IT
                 refine⟨eI mA Dq IT,fun O9=>?_⟩;have qS:=dV Aa;obtain⟨a',w',todo,A0⟩:=ih (b:={fn:=g,tmps:=#[],todo:=[],defers:=[],mode:=.run,kind:=.normal}) (cs:=O9) (k:=[.code c]) (base:=bq.next) (e0:=EO) (p0:=Di) (F0:=F1)
                   (E:=fun a' w'=>a'.defers=[]/\∃v,(results NZ a'.tmps).run P w' = .ok v w'/\MF (.returned v) w') (EP:=fun e w'=>MF (.panicked [fU aR.dm e]) w')
                   ZG (Dj (fn:=NZ) hM hv) Aa (ga _) cW (fun _ _=>rfl) trivial
                   (fun aq aQ vT a2 w2 rv F' g1 g2 g3 g4 g5 g6 g7 g8=>⟨g3.defers,_,kH g3 g6,hKR aq aQ vT w2 rv F' (by rw[qS];exact g1) g2 g3.Zn g4 g5 g7 g8⟩)
                   (fun aq aQ vT w2 e g1 g2 g3 g4=>hKP aq aQ vT w2 e (by rw[qS];exact g1) g2 g3 g4) XL
                 have Pk:Frame.enter P g (vs.map (V1.af EO Di)).toArray .normal=Frame.at {fn:=g,tmps:=#[],todo:=[],defers:=[],mode:=.run,kind:=.normal} ⟨(vs.map (V1.af EO Di)).toArray++Array.replicate (NZ.ntmps-(vs.map (V1.af EO Di)).length) undef,[]⟩ (du [.code c]):=by
                   simp[Frame.enter,Frame.at,mA,Dq,du]
                 rcases A0 with⟨⟨Vd,v,uZ,G3⟩,eK⟩|⟨e,Vd,G3,eK⟩;refine⟨.returned v,w',{Frame.at {fn:=g,tmps:=#[],todo:=[],defers:=[],mode:=.run,kind:=.normal} a' todo with mode:=.returning},G3,?_,rfl,⟨rfl,Vd,rfl,NZ,mA,uZ⟩⟩;show Steps P (lone (Frame.enter P g _ .normal) O9 w1) _;rw[Pk];exact eK;refine⟨.panicked [fU aR.dm e],w',{Frame.at {fn:=g,tmps:=#[],todo:=[],defers:=[],mode:=.run,kind:=.normal} a' todo with mode:=.panicking [fU aR.dm e] },G3,?_,rfl,⟨rfl,Vd,NZ,mA⟩⟩;show Steps P (lone (Frame.enter P g _ .normal) O9 w1) _;rw[Pk];exact eK
             exact XL.elim
           exact XL.elim
         have go:∀lh:St,Sat w0 ae ph lh a w->lh.qh=[]->lh.next=st.next->(EE P aR h ops draw ((aR.Xy.find? fun p=>p.1==gid f id).map (·.2)) (UX P (fun h' g NZ c bq kr'=>exec P aR n h' (L++oP k) g NZ [.code c] bq kr')) lh (fun bq=>exec P aR n h L f fn k bq kr)).holds Γ R Ps ae F->Reach P aR.dm b cs E EP (lone (b.at a (du (.code (.region id ops draw)::k))) cs w):=by
           intro lh F9 Aa hnx Uq;have XM:=dV Aa;have Pm:∀aq aQ bq a' w' F',bH (bt lh.next) ae aq ph aQ->(∀j∈L++oP k,F' j=F j)->Sat w0 aq aQ bq a' w'->bq.qh=[]->lh.next<=bq.next->(exec P aR n h L f fn k bq kr).holds Γ R Ps aq F'->Reach P aR.dm b cs E EP (lone (b.at a' (du k)) cs w'):=by
             intro aq aQ bq a' w' F' g1 g2 g3 g4 g5 g6;rw[hnx]at g1 g5;exact ih qH g3 g4 (lN hb g5) (mM bQ (jk g1 hb)) (fun j hj=>(g2 j (zO _ hj)).trans (hF j hj)) (G0.mono g1 g5 (G0.Pf (fun j hj=>g2 j (Es _ hj)) hk)) hR hP g6
           have MG:∀aq aQ bq (a':Act) w' e,bH (bt lh.next) ae aq ph aQ->a'.defers=[]->tH w0 aq aQ bq w'->oM h bq=true->kJ Ps e->EP e w':=by
             intro aq aQ bq a' w' e g1 _ g3 g4 g5;rw[hnx]at g1;exact hP aq aQ bq w' e (mM bQ (jk g1 hb)) g3 g4 g5
           have hwp:(Code.region id ops draw).wp P (fun e a' w'=>(e = .normal/\Reach P aR.dm b cs E EP (lone (b.at a' (du k)) cs w'))\/(∃c,e = .panic [fU aR.dm c]/\a'.defers=[]/\EP c w')) a w:=by
             have hQ:∀(c:List PanicEntry) (a':Act) (d:Option Tmp) (v:Value) (w':World),((Exit.panic c = .normal/\Reach P aR.dm b cs E EP (lone (b.at (a'.put d v) (du k)) cs w'))\/(∃c',Exit.panic c = .panic [fU aR.dm c']/\(a'.put d v).defers=[]/\EP c' w'))->
                 ((Exit.panic c = .normal/\Reach P aR.dm b cs E EP (lone (b.at a' (du k)) cs w'))\/(∃c',Exit.panic c = .panic [fU aR.dm c']/\a'.defers=[]/\EP c' w')):=by
               intro c a' d v w' hq;rcases hq with⟨h1,_⟩|⟨c',h1,h2,h3⟩;cases h1;exact .inr ⟨c',h1,by rw[c8]at h2;exact h2,h3⟩
             unfold EE at Uq;split at Uq;rename_i Uo;subst Uo;split at Uq;rename_i ps kb _;split at Uq;rename_i nL;simp only[ao]at nL;refine tF (S:=jL lh ae ph ⟨[],some ((Iy lh).filter fun i=>!kb.contains i)⟩ {w with drawn:=w.drawn+1}) nL.1.2 ?_;have:=CJ (Q:=fun e a' w'=>(e = .normal/\Reach P aR.dm b cs E EP (lone (b.at a' (du k)) cs w'))\/(∃c,e = .panic [fU aR.dm c]/\a'.defers=[]/\EP c w')) (F0:=F) (E4:=fun bq=>exec P aR n h L f fn k bq kr) (W:=(Iy lh).filter fun i=>!kb.contains i) (ops:=ops) (h:=h) (Ps:=Ps) hB ji hex (fun p hp=>by rw[hnx];exact EJ p hp) F9.drew Aa nL.1.1 nL.2 hQ (fun aq aQ bq a' w' F' g1 g2 g3 g4 g5 g6=>.inl ⟨rfl,Pm aq aQ bq a' w' F' g1 g2 g3 g4 g5 g6⟩)
               (fun aq aQ bq a' w' e g1 g2 g3 g4 g5=>.inr ⟨e,rfl,g2,MG aq aQ bq a' w' e g1 g2 g3 g4 g5⟩) F9.drew Aa (ga _) cW (fun _ _=>rfl) ⟨fun _ _ _=>rfl,fun _ _ _ _ _ _=>rfl⟩ Uq
             simpa[qn]using this;exact Uq.elim;split at Uq;rename_i dJ bq hr;obtain⟨gn,hn2⟩:=E5 hr;exact CC (aR:={aR with eK:=h}) (Γ:=Γ.at (kJ Ps)) (Q:=fun e a' w'=>(e = .normal/\Reach P aR.dm b cs E EP (lone (b.at a' (du k)) cs w'))\/(∃c,e = .panic [fU aR.dm c]/\a'.defers=[]/\EP c w')) ⟨hB.aH,hB.zR,hB.yn⟩ (fun aq aQ bq a' w' e g1 g2 g3 g4 g5=>.inr ⟨e,rfl,g2,MG aq aQ bq a' w' e (by rw[<- XM];exact g1) g2 g3 g4 g5⟩) ji F9 hQ hr (nZ Uq) (fun aq aQ a' w' g1 g2 g3=>.inl ⟨rfl,Pm aq aQ bq a' w' F (by rw[<- XM];exact g2) (fun _ _=>rfl) g1 gn hn2 g3⟩);exact Uq.elim
             . rename_i Uo;have:draw=false:=by simpa using Uo
               subst this;exact wp_region_list (vv (Q:=fun e a' w'=>(e = .normal/\Reach P aR.dm b cs E EP (lone (b.at a' (du k)) cs w'))\/(∃c,e = .panic [fU aR.dm c]/\a'.defers=[]/\EP c w')) (base:=lh.next) (e0:=ae) (p0:=ph) (F0:=F) hB ji hex (fun p hp=>by rw[hnx];exact EJ p hp)
                 (fun aq aQ bq a' w' F' g1 g2 g3 g4 g5 g6=>.inl ⟨rfl,Pm aq aQ bq a' w' F' g1 g2 g3 g4 g5 g6⟩) (fun aq aQ bq a' w' e g1 g2 g3 g4 g5=>.inr ⟨e,rfl,g2,MG aq aQ bq a' w' e g1 g2 g3 g4 g5⟩) F9 Aa (ga _) cW (fun _ _=>rfl) Uq)
           obtain⟨e,a',w',hq,LR⟩:=hwp b (du k) cs;rcases hq with⟨rfl,hG⟩|⟨c,rfl,Vd,hep⟩;exact Reach.steps LR hG;obtain⟨todo,eK⟩:=LR;exact⟨a',w',todo,.inr ⟨c,Vd,hep,eK⟩⟩
         exact CL hs hh fun lh h1 h2 h3 h4=>go lh h1 (h2.trans hd) h3 h4
       | loop c=>
         simp only[exec]at hh;split at hh;exact Reach.step step_loop (ih (k:=.code c :: .loop c::k) qH hs hd hb bQ hF hk hR hP hh)
         . rename_i i hint hf;split at hh
           . rename_i Cc hm;split at hh;exact hh.elim
             . rename_i hnl;simp only[hZ,not_or,Bool.not_eq_true]at hnl;obtain⟨hnl,hnL⟩:=hnl;have hnL:∀j∈L,j≠i:=fun j hj e=>by
                 subst e;simp[hj]at hnL
               obtain⟨inv,qR,sA,Dq⟩:=hh;obtain⟨g1,g2,g3,kN,g5,g4⟩:=EX hs hd hm;have rounds:∀N ds (a:Act) (w:World) (aQ:Ph),qR ds=N->inv ds->kinds Cc.ks ds=true->bH (bt st.next) ae (ae.au st.next ds) ph aQ->Sat w0 (ae.au st.next ds) aQ Cc.st a w->Reach P aR.dm b cs E EP (lone (b.at a (.code c :: .inLoop c::du k)) cs w):=by
                 intro N;induction N using Nat.strongRecOn with
                 | _ N ihN=>
                   intro ds a w aQ hN hi zo jW ke;refine ih (k:=.code c :: .zS c i st.next Cc.st Cc.ks::k) qH ke g1 (by rw[g2];exact lN hb (tn _ _)) (mM bQ (jk jW hb)) (fun j hj=>?_) ⟨⟨by omega,ae,ph,jW,?_⟩,?_⟩ hR hP (Dq ds zo hi);funext vs;simp only[kO,if_neg (hnL j hj),hF j hj]
                   . intro aq N5 bq a' w' bM he MA XK hFF;obtain⟨y9,ph3,acX,hs3⟩:=IW MA ke.names ke.nest.nm XK;simp only[kO,if_true]at hFF;have hs4:Sat w0 (ae.au st.next (bM.map (DE.af aq))) ph3 Cc.st a' w':=by
                       refine hs3.MD g1 fun j hj=>?_;have hl:=yv y9;rcases oH j st.next with h1|h1
                       rw[aF.aT h1,aF.aT h1,he.e j (by simpa[bt]using h1)]
                       . have cM:j-st.next<(bM.map (DE.af aq)).length:=by omega
                         obtain⟨d,hd⟩:∃d,(bM.map (DE.af aq))[j-st.next]?=some d:=⟨_,eN cM⟩;have hj':j=st.next+(j-st.next):=by omega
                         rw[hj',aF.eL hd,aF.eL hd]
                     have agA:bH (bt st.next) ae (ae.au st.next (bM.map (DE.af aq))) ph ph3:=by
                       refine⟨fun j hj=>?_,fun j hj=>(he.r j hj).trans (acX.r j hj),fun j hj=>(he.v j hj).trans (acX.v j hj)⟩;simp only[bt,aO]at hj;rw[aF.aT hj]
                     exact Reach.step step_inLoop (ihN (qR (bM.map (DE.af aq))) (by omega) _ a' w' ph3 rfl hFF.1 y9 agA hs4)
                   refine G0.Pf (F:=F) (fun j hj=>?_) (G0.mono jW (by omega) hk);funext vs;have:j≠i:=fun e=>G1 hnl (e▸hj);simp only[kO,if_neg this]
               exact Reach.step step_loop (rounds _ _ a w kN rfl sA g3 g5 g4)
           exact hh.elim
       |_=>exact hh.elim
end
def XO(P:Program)(fn:Func)(res:List VT)(w0:World)(R:List DV->Prop)(a:Act)(w:World):Prop:=
 a.defers=[]/\∃b9 iq,(results fn a.tmps).run P w = .ok (packed (cw res b9)) w/\Below w0.heap.size w0 w/\fitAll (mK w w0.heap.size) (bP res) b9 iq/\iR b9/\R iq
theorem MI{a:Act}{res:List VT}(hs:Sat w0 ae ph st a w)(mH:tu P st fn.results.toList=some vs)(h:(rL res vs st).holds Γ R Ps ae F):XO P fn res w0 R a w:=by
 unfold rL at h;split at h;rename_i e ks id;split at h;rename_i b hb;split at h;rename_i hc;simp only[ao,aO]at hc;obtain⟨rfl,h0⟩:=hc;split at h;rename_i xs qA;obtain⟨bD,rfl⟩:=eW hb;obtain⟨hB,hh⟩:=hs.mem.oo b bD;have yj:=tc (ae:=ae) (ph:=ph) qA [] 0 rfl;simp only[nM]at yj;refine⟨hs.defers,[.slice (some ⟨ph.r b.id,0,none⟩) 1 1],[(DE.vP xs).af ae],kH hs mH,hs.below,⟨⟨h0,?_⟩,trivial⟩,?_,h⟩;have e:aJ ks [xs.map (cg ae)]=bU ks 0 (xs.map (cg ae)):=by simp[aJ]
 have hl:=(pC qA).1;show w.ownsRow w0.heap.size b.ty ks.length _ 1 (aJ ks [xs.map (cg ae)]);rw[e,<- yj];refine⟨by simp[hl],.inr ⟨ph.r b.id,1,_,rfl,hB,hh,ga _,by decide,by simp[hl],?_⟩⟩;simp[hl,qB];intro i j u v En hu hv k hk dH
 match i,j with
 |0,0=>exact En rfl
 |0,j+1=>simp at hv
 |i+1,_=>simp at hu
 exact h.elim;exact h.elim;exact h.elim
 ·
   split at h;rename_i ds sq;split at h;rename_i hc;simp only[ao]at hc;obtain⟨⟨IJ,qF⟩,bR⟩:=hc;rw[Dn]at qF bR;have qF:=zm qF;have ho:∀row∈dc (bL vs),∃r,r∈st.rows/\r.id=row/\bO st row=some r/\r.own=true/\r.g.af ae=true:=fun row bB=>by
     have:=mE.1 bR row bB;split at this;rename_i r hr;simp only[ao,aO]at this;obtain⟨hm,l7⟩:=bn hr;exact⟨r,hm,l7,hr,this.1,by rw[this.2];rfl⟩;cases this
   obtain⟨UZ,e1,e2,e7⟩:=tE (ae:=ae) (ph:=ph) (R:=mK w w0.heap.size) (rO _ _) (fun h=>by rw[ov IJ]at h;cases h) sq (fun row bB r hr _=>by
     obtain⟨r',hm,_,dj,dz,hg⟩:=ho row bB;rw[hr,ah]at dj;subst dj;obtain⟨h0,iA⟩:=hs.mem.row r hm hg;rw[if_pos dz]at iA;exact⟨h0,iA⟩) (fun h=>by rw[kB IJ]at h;cases h)
   have e7:=e7 (kB IJ);subst e7;refine⟨hs.defers,_,_,by rw[<- e1];exact kH hs mH,hs.below,e2,?_,h⟩;intro i j u v En hu hv k hk dH;rw[iS]at hu hv;simp only[bN]at hu hv;obtain⟨l,hl,rfl⟩:=hu;obtain⟨l',wH,rfl⟩:=hv;have Gt:∀(i:Nat) (l:ak) k,(bL vs)[i]?=some l->(l.af ae ph).ownBlock=some k->∃r,l = .s r:=fun i l k hl h=>by
     obtain⟨c,d,_,A1⟩:=nU (nT (kB IJ) sq) hl;exact rP A1 h
   obtain⟨r,rfl⟩:=Gt i l k hl hk;obtain⟨r',rfl⟩:=Gt j l' k wH dH;have UE:r∈dc (bL vs):=wT.2 ⟨_,sF hl,rfl⟩;have agB:r'∈dc (bL vs):=wT.2 ⟨_,sF wH,rfl⟩;obtain⟨x,hx,Kg,_,zV,Mo⟩:=ho r UE;obtain⟨x',Zy,acY,_,agC,agD⟩:=ho r' agB;simp only[ak.af,<- Kg,<- acY]at hk dH;exact hs.mem.rr x hx x' Zy (fun e=>En (IX qF hl (by rw[wH,<- acY,<- e,Kg]))) zV Mo agD k (by simp[Row.cc,zV,hk]) (by simp[Row.cc,agC,dH]);split at h;rename_i hc;simp only[ao]at hc;obtain⟨⟨⟨IJ,hN⟩,EG⟩,bR⟩:=hc;rw[Dn]at bR;unfold rH at EG;rw[hN]at EG;simp only[Bool.not_true,Bool.false_or,ao,nJ,aO]at EG;obtain⟨hS,EI⟩:=EG;have ho:∀row∈dc (bL vs),bO st row=none/\∃n,fx st row=some n/\n.own=true:=fun row bB=>by
     have:=mE.1 bR row bB;split at this;rename_i x h1 h2;exact⟨h1,x,h2,this⟩;cases this
   obtain⟨UZ,e1,e2,e7⟩:=tE (ae:=ae) (ph:=ph) (R:=mK w w0.heap.size) (rO _ _) (fun _ row bB n hn _=>by
     obtain⟨_,n',pG,qH⟩:=ho row bB;rw[hn,ah]at pG;subst pG;obtain⟨hm,_⟩:=dF hn;obtain⟨_,h0,OF⟩:=hs.nest.own hm qH;exact⟨h0,_,fun k hk=>⟨hk.2,hs.nest.lt k hk.1⟩,fun k hk hz=>((hs.nest.oz n hm qH).2 k hk).1 hz.1,OF⟩) sq (fun row bB r hr _=>by
     rw[(ho row bB).1]at hr;cases hr) (fun h=>by rw[IJ]at h;cases h)
   have e7:=e7 IJ;subst e7;refine⟨hs.defers,_,_,by rw[<- e1];exact kH hs mH,hs.below,e2,?_,h⟩;intro i j u v En hu hv k hk dH;rw[iS]at hu hv;simp only[bN]at hu hv;obtain⟨l,hl,rfl⟩:=hu;obtain⟨l',wH,rfl⟩:=hv;have Gt:∀(i:Nat) (l:ak) k,(bL vs)[i]?=some l->(l.af ae ph).ownBlock=some k->∃c,(bP res)[i]?=some c/\c.xI=true:=fun i l k hl h=>by
     obtain⟨c,d,hc,A1⟩:=nU (nT IJ sq) hl;obtain⟨r,rfl⟩:=rP A1 h;refine⟨c,hc,(Mn A1).resolve_left fun hs=>?_⟩;rw[List.any_eq_false]at hS;exact hS c (sF hc) hs
   obtain⟨c,hc,hcn⟩:=Gt i l k hl hk;obtain⟨c',xh,agE⟩:=Gt j l' k wH dH;exact En (OR EI hc xh hcn agE);exact h.elim;exact h.elim
def a8:aF:=fun _=>.i 0
def kN:Ph:=⟨fun _=>0,fun _=>(none,0,0),fun _=>False⟩
def Di(w:World)(b9:List Value):Ph:={kN.eC 0 b9 with z:=fun k=>k<w.heap.size}
theorem Dr{args:List VT}{b9:List Value}(hf:fitAll (mZ w) (bP args) b9 ds) :
   Sat w (a8.au 0 ds) (Di w b9) (start fn args) ⟨(cw args b9).toArray++Array.replicate (fn.ntmps-(cw args b9).length) undef,[]⟩ w:=by
 obtain⟨C6,Ax⟩:=oQ hf;have vr:=vW (ae:=a8.au 0 ds) (ph:=Di w b9) false (.c true) (bP args) 0 b9 ds hf (fun i d hd=>aF.eL hd) (fun i v hv e ks hc=>by
   have Zb:∃a b c,v = .slice a b c:=by
     rcases hc with hc|⟨aU,hc⟩;obtain⟨v',d,wC,hd,eD⟩:=kg hf hc;rw[hv]at wC;simp only[ah]at wC;subst wC;cases d with
     |i n=>simp[lq]at eD
     |b x=>simp[lq]at eD
     | l xs=>
       obtain⟨_,base,cap,rfl,_⟩:=eD;exact⟨_,_,_,rfl⟩
     obtain⟨v',d,wC,hd,eD⟩:=kg hf hc;rw[hv]at wC;simp only[ah]at wC;subst wC;cases d with
     |i n=>simp[lq]at eD
     |b x=>simp[lq]at eD
     | l xs=>
       obtain⟨_,b0,c0,rfl,_⟩:=eD;exact⟨_,_,_,rfl⟩
   obtain⟨a0,b0,c0,rfl⟩:=Zb;exact uB (ph:=kN) hv)
 obtain⟨e1,e2,e3⟩:=vr;have yj:=rM (ae:=a8.au 0 ds) (ph:=Di w b9) (.c true) args 0 b9 e1;rw[<- fy]at e2;have jZ:∀i,i<(bP args).length->bt (bP args).length (0+i)=true:=fun i hi=>by simpa[bt]using hi
 have cJ:=iI (q:=bt (bP args).length) (.c true) rfl (bP args) 0 jZ;have acZ:=nS (q:=bt (bP args).length) (.c true) rfl args 0 jZ;have qS:(start fn args).has=bt (bP args).length:=by rw[dV rfl];rfl
 have hlen:(cq (.c true) 0 args).1.length=(cw args b9).length:=by rw[<- yj,qd]
 refine⟨⟨?_,fun t s ht=>?_⟩,⟨?_,?_,?_,?_,?_⟩,Below.refl _ _,rfl,⟨fun t s ht=>?_,?_,?_⟩,?_⟩;simp[start,mJ,hlen];simp only[start,mJ]at ht;rw[List.getElem?_append]at ht;split at ht;rename_i cM;rw[iS]at ht;simp only[bN,ah]at ht;obtain⟨v,hv,rfl⟩:=ht;have wC:(cw args b9)[t]?=some (v.af (a8.au 0 ds) (Di w b9)):=by rw[<- yj,iS,hv];rfl
 have Mj:=(dw.1 wC).1;rw[Array.getElem?_append,if_pos (by simpa using Mj)];simp only[List.getElem?_toArray,wC,bc.af,BE.af,if_true,SV.af];rw[Gj]at ht;split at ht<;>cases ht;intro b hb;simp[start]at hb;intro b hb;simp[start]at hb;intro r hr hg;simp only[start,mJ,jz]at hr;obtain⟨r0,eQ,rfl⟩:=hr;obtain⟨i,_,_,_,h0,hR⟩:=e2 r0 eQ;exact⟨h0,hR⟩;intro b hb;simp[start]at hb;intro r hr r' dj da ho;simp only[start,mJ,jz]at hr;obtain⟨r0,eQ,rfl⟩:=hr;cases ho;rw[qS];simp only[start,mJ]at ht;rw[List.getElem?_append]at ht;split at ht;rw[iS]at ht;simp only[bN,ah]at ht;obtain⟨v,hv,rfl⟩:=ht;have:∀ {vs:List V1} {t:Nat} {v:V1},ei (bt (bP args).length) vs=true->vs[t]?=some v->v.all (bt (bP args).length)=true:=by
   intro vs;induction vs with
   |nil=>intro t v _ h;simp at h
   | cons x vs ih=>
     intro t v h hv;simp only[ei,ao]at h;cases t with
     |zero=>simp at hv;subst hv;exact h.1
     |succ t=>exact ih h.2 (by simpa using hv)
 simp only[bc.all,BE.all,SV.all,Bool.true_and];exact this acZ hv;rw[Gj]at ht;split at ht<;>cases ht;intro b hb;simp[start]at hb;intro r hr;rw[qS];simp only[start,mJ,jz]at hr;obtain⟨r0,eQ,rfl⟩:=hr;rw[fy]at eQ;exact cJ.2 r0 eQ;refine⟨fun k hk=>hk,fun b hb=>by simp[start]at hb,fun r hr ho=>?_,fun n hn _=>?_,fun n hn=>?_,fun n hn ho=>?_⟩;simp only[start,mJ,jz]at hr;obtain⟨r0,eQ,rfl⟩:=hr;cases ho;obtain⟨i,_,_,_,hR,_⟩:=e3 n hn;refine⟨hR.1,?_⟩;unfold fS;rw[if_neg (by rw[(qO _ _ _ _ n hn).2];simp)];exact hR.2;rw[qS];exact vX _ (.c true) rfl (bP args) 0 jZ n hn;rw[(qO _ _ _ _ n hn).2]at ho;cases ho
def Pn(P:Program)(fn:Func)(sg:bX)(w0:World)(B:Nat)(gC:List Value)(R:List DV->Prop)(a:Act)(w:World):Prop:=
 a.defers=[]/\∃b9 iq,(results fn a.tmps).run P w = .ok (packed (cw sg.res b9)) w/\Below w0.heap.size w0 w/\fitAll (mK w B) (bP sg.res) b9 iq/\iR b9/\
   (∀(i:Nat) (u:Value) (k:Nat),b9[i]?=some u->u.ownBlock=some k->w0.heap.size<=k\/∃(j:Nat) (v:Value),j<sg.cons/\gC[j]?=some v/\v.ownBlock=some k)/\R iq
theorem I2{a:Act}{B:Nat}{ZH:List DV}(hs:Sat w0 ae ph st a w)(mH:tu P st fn.results.toList=some vs)
   (hA:XE sg w0 B gC ZH) (bQ:bH (bt (bP sg.args).length) (a8.au 0 ZH) ae (Di w0 gC) ph) (h:(oO sg vs st).holds Γ R Ps ae F):Pn P fn sg w0 B gC R a w:=by
 unfold oO at h;split at h;rename_i ds sq;split at h;rename_i hc;simp only[ao]at hc;obtain⟨⟨IJ,qF⟩,bR⟩:=hc;have qF:=zc qF;have anq:=oQ hA.fit;have ho:∀row∈dc (bL vs),∃r,r∈st.rows/\r.id=row/\bO st row=some r/\r.g.af ae=true/\mK w B r.e (.inl r.ks) (ph.val r.id) (ae r.lv).list/\
     ((r.own=true/\∀k,(ph.val r.id).ownBlock=some k->w0.heap.size<=k)\/(r.id<sg.cons/\gC[r.id]?=some (ph.val r.id)/\∀k,(ph.val r.id).ownBlock=some k->k<w0.heap.size)):=fun row bB=>by
   have:=mE.1 bR row bB;split at this;rename_i r hr;simp only[ao,hZ,aO]at this;obtain⟨hg,A0⟩:=this;obtain⟨hm,l7⟩:=bn hr;have mw:r.g.af ae=true:=by rw[hg];rfl
   obtain⟨h0,iA⟩:=hs.mem.row r hm mw;rcases A0 with ho|⟨⟨cM,zI⟩,hct⟩;rw[if_pos ho]at iA;exact⟨r,hm,l7,hr,mw,⟨h0,rN iA hA.base⟩,.inl ⟨ho,fun k hk=>(iA.lt k hk).1⟩⟩;have ZI:=(dw.1 hct).1;have hb:bt (bP sg.args).length r.id=true:=by simpa[bt]using ZI
   obtain⟨v,d,hv,hd,eD⟩:=kg (i:=r.id) hA.own (by rw[Ay,if_pos cM];exact hct);rw[Ay,if_pos cM]at hv hd;cases d with
   |i n=>simp[lq]at eD
   |b x=>simp[lq]at eD
   | l xs=>
     obtain⟨h1,h2⟩:=eD;obtain⟨sl,rfl⟩:=l9 h2;have ev:ph.val r.id = .slice sl.1 sl.2.1 sl.2.2:=by
       have hz:(Di w0 gC).val (0+r.id) = .slice sl.1 sl.2.1 sl.2.2:=uB (ph:=kN) hv;rw[fR]at hz;rw[<- hz];simp only[Ph.val,<- bQ.v _ hb]
     have ed:(ae r.lv).list=xs:=by
       rw[zI,<- bQ.e _ hb];have:=aF.eL (ae:=a8) (k:=0) hd;rw[fR]at this;rw[this];rfl
     refine⟨r,hm,l7,hr,mw,?_,.inr ⟨cM,by rw[ev];exact hv,fun k hk=>?_⟩⟩;rw[ev,ed];exact⟨h1,vk h2 (l6 hs.below) (fun k _=>by simp)⟩;rw[ev]at hk;exact(h2.lt k hk).2
   cases this
 obtain⟨UZ,e1,e2,e7⟩:=tE (ae:=ae) (ph:=ph) (R:=mK w B) (rO _ _) (fun h=>by rw[ov IJ]at h;cases h) sq (fun row bB r hr _=>by
   obtain⟨r',_,_,dj,_,dz,_⟩:=ho row bB;rw[hr,ah]at dj;subst dj;exact dz) (fun h=>by rw[kB IJ]at h;cases h)
 have e7:=e7 (kB IJ);subst e7;have Gt:∀(i:Nat) (l:ak) k,(bL vs)[i]?=some l->(l.af ae ph).ownBlock=some k->∃r,l = .s r:=fun i l k hl h=>by
   obtain⟨c,d,_,A1⟩:=nU (nT (kB IJ) sq) hl;exact rP A1 h
 have xc:∀(i:Nat) (u:Value) (k:Nat),((bL vs).map (ak.af ae ph))[i]?=some u->u.ownBlock=some k->∃r∈st.rows,(bL vs)[i]?=some (.s r.id)/\(ph.val r.id).ownBlock=some k/\r.g.af ae=true/\
     ((r.own=true/\w0.heap.size<=k)\/(r.id<sg.cons/\gC[r.id]?=some (ph.val r.id)/\k<w0.heap.size)):=fun i u k hi hu=>by
   rw[iS]at hi;simp only[bN]at hi;obtain⟨l,hl,rfl⟩:=hi;obtain⟨r,rfl⟩:=Gt i l k hl hu;have bD:r∈dc (bL vs):=wT.2 ⟨_,sF hl,rfl⟩;obtain⟨x,hx,Kg,_,Mo,_,A0⟩:=ho r bD;subst Kg;exact⟨x,hx,hl,hu,Mo,A0.imp (fun a=>⟨a.1,a.2 k hu⟩) (fun a=>⟨a.1,a.2.1,a.2.2 k hu⟩)⟩
 refine⟨hs.defers,_,_,by rw[<- e1];exact kH hs mH,hs.below,e2,fun i j u v En hu hv k hk dH=>?_,fun i u k hu hk=>?_,h⟩;obtain⟨r,hr,h1,h2,h3,h4⟩:=xc i u k hu hk;obtain⟨r',dj,H7,Zh,h3',h4'⟩:=xc j v k hv dH;by_cases he:r.id=r'.id;rw[he]at h1;exact En (Dg qF h1 H7);rcases h4 with⟨a1,a2⟩|⟨a1,a2,a3⟩<;>rcases h4' with⟨b1,b2⟩|⟨b1,b2,b3⟩;exact hs.mem.rr r hr r' dj he a1 h3 h3' k (by simp[Row.cc,a1,h2]) (by simp[Row.cc,b1,Zh]);omega;omega;exact hA.apart r.id r'.id _ _ he (by rw[Ay,if_pos a1];exact a2) (by rw[Ay,if_pos b1];exact b2) k h2 Zh;obtain⟨r,hr,h1,h2,h3,⟨_,a2⟩|⟨a1,a2,_⟩⟩:=xc i u k hu hk;exact .inl a2;exact .inr ⟨r.id,_,a1,a2,h2⟩;exact h.elim;exact h.elim
def fK(P:Program)(Wd:World->Prop)(f:FuncId)(c:eB):Prop:=
 (∀w args,(callFunc f args).run P w = .ok (.enter f args) w)/\
 ∀w vs ds,Wd w->EF w c.sig.args vs ds->c.pre ds->Calls P f vs.toArray w (fun e w'=>∃b9 iq,e = .returned (packed (cw c.sig.res b9))/\Below w.heap.size w w'/\
   fitAll (mK w' w.heap.size) (bP c.sig.res) b9 iq/\iR b9/\c.rel ds iq)
theorem fK.at{Wd:World->Prop}{c:eB}(h:fK P Wd f c)(hw:∀w,Below w0.heap.size w0 w->Wd w):vZ P w0 f c:=⟨h.1,fun w vs ds hb ha hp=>h.2 w vs ds (hw w hb) ha hp⟩
theorem Po{aR:lg}{fuel:Nat}{X:List DV->Prop}{ret:List V1->St->aA}(hB:ki P aR)(ji:eZ P Γ aR w)(qH:aR.no=[]){E:Act->World->Prop}{cs:List Frame}
   (hs:Sat w (a8.au 0 ds) (Di w gC) (start fn sg.args) ⟨(cw sg.args gC).toArray++Array.replicate (fn.ntmps-(cw sg.args gC).length) undef,[]⟩ w) (hb:fn.body=some c) (MC:(if sg.cons=0 then rL sg.res else oO sg)=ret)
   (hE:∀aq aQ bq a' w' rv F',bH (bt (bP sg.args).length) (a8.au 0 ds) aq (Di w gC) aQ->Sat w aq aQ bq a' w'->tu P bq fn.results.toList=some rv->(ret rv bq).holds Γ X [] aq F'->E a' w')
   (h:(tA P aR f fn sg fuel).holds Γ X [] (a8.au 0 ds) (fun _ _=>False)) :
   Reach P aR.dm {fn:=f,tmps:=#[],todo:=[],defers:=[],mode:=.run,kind:=.normal} cs E (fun _ _=>False) (lone (Frame.at {fn:=f,tmps:=#[],todo:=[],defers:=[],mode:=.run,kind:=.normal} ⟨(cw sg.args gC).toArray++Array.replicate (fn.ntmps-(cw sg.args gC).length) undef,[]⟩ (du [.code c])) cs w):=by
 subst MC;have main:∀(MJ:lg) (lh:St),ki P MJ->eZ P Γ MJ w->MJ.dm=aR.dm->(∀p∈MJ.no,p.1<(bP sg.args).length/\((a8.au 0 ds) p.1).int≠p.2)->Sat w (a8.au 0 ds) (Di w gC) lh ⟨(cw sg.args gC).toArray++Array.replicate (fn.ntmps-(cw sg.args gC).length) undef,[]⟩ w->lh.qh=[]->lh.next=(bP sg.args).length->
     (exec P MJ fuel none [] f fn [.code c] lh (if sg.cons=0 then rL sg.res else oO sg)).holds Γ X [] (a8.au 0 ds) (fun _ _=>False)->Reach P aR.dm {fn:=f,tmps:=#[],todo:=[],defers:=[],mode:=.run,kind:=.normal} cs E (fun _ _=>False) (lone (Frame.at {fn:=f,tmps:=#[],todo:=[],defers:=[],mode:=.run,kind:=.normal} ⟨(cw sg.args gC).toArray++Array.replicate (fn.ntmps-(cw sg.args gC).length) undef,[]⟩ (du [.code c])) cs w):=by
   intro MJ lh hB1 agF hg ZG F9 Aa gn hh;rw[<- hg];exact I1 (b:={fn:=f,tmps:=#[],todo:=[],defers:=[],mode:=.run,kind:=.normal}) (cs:=cs) (base:=(bP sg.args).length) (e0:=a8.au 0 ds) (p0:=Di w gC) (F0:=fun _ _=>False) (E:=E) (EP:=fun _ _=>False) (Ps:=[]) (k:=[.code c]) hB1 agF ZG F9 Aa (by omega) cW (fun _ _=>rfl) trivial
     (fun aq aQ bq a' w' rv F' g1 _ g3 _ _ g6 _ g8=>hE aq aQ bq a' w' rv F' g1 g3 g6 g8) (fun _ _ _ _ _ _ _ _ g=>g) hh
 unfold tA at h;rw[hb]at h;simp only at h;split at h;exact main aR _ hB ji rfl (by rw[qH];intro p hp;simp at hp) hs rfl rfl h;rename_i x m _;split at h;rename_i hx;have hx:x<(bP sg.args).length:=jY hx;rcases E0 h with⟨v,hv,h⟩|⟨da,h⟩;exact main aR _ hB ji rfl (by rw[qH];intro p hp;simp at hp) (hs.fix hv) rfl rfl h;refine main {aR with no:=(List.range m).map fun(v:Nat)=>(x,(v:Int)) } _ ⟨hB.aH,hB.zR,hB.yn⟩ ji rfl (fun p hp=>?_) hs rfl rfl h;obtain⟨v,hv,rfl⟩:=jz.1 hp;exact⟨hx,da v hv⟩;exact h.elim
theorem G4{aR:lg}{fuel:Nat}{ct:eB}(hB:ki P aR){Wd:World->Prop}(ji:∀w,Wd w->eZ P Γ aR w)(hf:P.funcs[f]?=some fn)(hb:fn.body=some c)(hn:(fn.name == "runtime.NumGoroutine")=false)(qH:aR.no=[])
   {T:aA} (hT:tA P aR f fn ct.sig fuel=T) (h:∀ds,kinds (bP ct.sig.args) ds=true->ct.pre ds->T.holds Γ (ct.rel ds) [] (a8.au 0 ds) (fun _ _=>False)):if ct.sig.cons=0 then fK P Wd f ct else jE P Wd f ct:=by
 subst hT;have Pk:∀gC:List Value,Frame.enter P f (cw ct.sig.args gC).toArray .normal=Frame.at {fn:=f,tmps:=#[],todo:=[],defers:=[],mode:=.run,kind:=.normal} ⟨(cw ct.sig.args gC).toArray++Array.replicate (fn.ntmps-(cw ct.sig.args gC).length) undef,[]⟩ (du [.code c]):=fun gC=>by
   simp[Frame.enter,Frame.at,hf,hb,du]
 split;rename_i v8;refine⟨eI hf hb hn,fun w vs ds hwd ha hp cs=>?_⟩;obtain⟨gC,rfl,eD⟩:=ha;have hs:=Dr (fn:=fn) eD;have hh:=h ds (jC eD) hp;obtain⟨a',w',todo,A0⟩:=Po (cs:=cs) (E:=XO P fn ct.sig.res w (ct.rel ds)) (ret:=rL ct.sig.res) hB (ji w hwd) qH hs hb (by rw[if_pos v8]) (fun aq aQ bq a' w' rv F' _ g3 g6 g8=>MI g3 g6 g8) hh;rcases A0 with⟨⟨Vd,b9,iq,e1,e2,e3,e4,e5⟩,eK⟩|⟨_,_,hf,_⟩;refine⟨.returned (packed (cw ct.sig.res b9)),w',{Frame.at {fn:=f,tmps:=#[],todo:=[],defers:=[],mode:=.run,kind:=.normal} a' todo with mode:=.returning},⟨b9,iq,rfl,e2,e3,e4,e5⟩,?_,?_,⟨rfl,Vd,rfl,fn,hf,e1⟩⟩;show Steps P (lone (Frame.enter P f (cw ct.sig.args gC).toArray .normal) cs w) _;rw[Pk];exact eK;rfl;exact hf.elim;rename_i v8;refine⟨eI hf hb hn,fun w B gC ds hwd ha hp cs=>?_⟩;have hs:=Dr (fn:=fn) ha.fit;have hh:=h ds (jC ha.fit) hp;obtain⟨a',w',todo,A0⟩:=Po (cs:=cs) (E:=Pn P fn ct.sig w B gC (ct.rel ds)) (ret:=oO ct.sig) hB (ji w hwd) qH hs hb (by rw[if_neg v8]) (fun aq aQ bq a' w' rv F' g1 g3 g6 g8=>I2 g3 g6 ha g1 g8) hh;rcases A0 with⟨⟨Vd,b9,iq,e1,e2,e3,e4,e5,e6⟩,eK⟩|⟨_,_,hf,_⟩;refine⟨.returned (packed (cw ct.sig.res b9)),w',{Frame.at {fn:=f,tmps:=#[],todo:=[],defers:=[],mode:=.run,kind:=.normal} a' todo with mode:=.returning},⟨b9,iq,rfl,e2,e3,e4,e5,e6⟩,?_,?_,⟨rfl,Vd,rfl,fn,hf,e1⟩⟩;show Steps P (lone (Frame.enter P f (cw ct.sig.args gC).toArray .normal) cs w) _;rw[Pk];exact eK;rfl;exact hf.elim
end
section
variable{ae:aF}{Γ:bZ}{R:List DV->Prop}{ks:List BE}
theorem Ds(h:∀k∈ks,k.af ae=true):∀ {p:BE},fe ks p=true->p.af ae=true:=by
 have hc:∀p,ks.contains p=true->p.af ae=true:=fun p hp=>h p (by simpa using hp);intro p;induction p with
 | and a b fz fX=>
   intro hp;simp only[fe,hZ,ao]at hp;rcases hp with hp|⟨h1,h2⟩;exact hc _ hp;simp[BE.af,fz h1,fX h2]
 | or a b fz fX=>
   intro hp;simp only[fe,hZ]at hp;rcases hp with hp|h1|h2;exact hc _ hp;simp[BE.af,fz h1];simp[BE.af,fX h2]
 | c b=>
   intro hp;cases b with
   |true=>rfl
   |false=>exact hc _ (by simpa[fe]using hp)
 |_=>intro hp;exact hc _ (by simpa[fe]using hp)
theorem xj(h:∀k∈ks,k.af ae=true){p:BE}:(tB ks p).af ae=p.af ae:=by
 unfold tB;split;rename_i g n;split;rename_i hg;simp[BE.af,Ds h hg];rfl;rfl
theorem xk{p:BE}:∀ {ks:List BE},(∀k∈ks,k.af ae=true)->p.af ae=true->∀k∈jh p ks,k.af ae=true:=by
 induction p with
 | and a b fz fX=>
   intro ks h hp k hk;simp only[jh,bC]at hk;have xK:=hp;simp only[BE.af,ao]at xK;rcases hk with rfl|hk;exact hp;exact fz (fX h xK.2) xK.1 k hk
 | _=>
   intro ks h hp k hk;simp only[jh,bC]at hk;rcases hk with rfl|hk;exact hp;exact h k hk
def CM:List (Int->Prop)->List (Int->Prop)->Prop
 | [],[]=>True
 |p::ps,q::qs=>(∀e,p e->q e)/\CM ps qs
 |_,_=>False
theorem CM.refl:∀ {ps:List (Int->Prop)},CM ps ps
 | []=>trivial
 |_::_=>⟨fun _ h=>h,CM.refl⟩
theorem CM.head{ps qs:List (Int->Prop)}(h:CM ps qs){e:Int}(hp:kJ ps e):kJ qs e:=by
 cases ps with
 |nil=>exact hp.elim
 | cons p ps=>cases qs with
   |nil=>exact h.elim
   |cons q qs=>exact h.1 e hp
theorem A'{fl fl':Int->Prop}{e:Ev}{k k':aF->Prop}(hf:∀e,fl e->fl' e)(hk:∀ae,k ae->k' ae)(h:e.holds (Γ.at fl) k ae):e.holds (Γ.at fl') k' ae:=by
 cases e with
 |dO p e=>exact⟨fun hp=>hk _ (h.1 hp),fun hp=>hf _ (h.2 hp)⟩
 |aH p=>exact⟨h.1,hk _ h.2⟩
 |call f g args res base=>exact Ev.kf (Γ:=Γ.at fl) (e:=.call f g args res base) hk h
 |b8 id op=>exact hk _ h
theorem Pp:∀ {t:aA} {ae:aF} {F:Nat->List DV->Prop} {Ps Qs:List (Int->Prop)},CM Ps Qs->t.holds Γ R Ps ae F->t.holds Γ R Qs ae F:=by
 intro t;induction t with
 |ret vs=>intro ae F Ps Qs _ h;exact h
 |stuck s=>intro ae F Ps Qs _ h;exact h
 |again id vs=>intro ae F Ps Qs _ h;exact h
 |ev e t ih=>intro ae F Ps Qs hl h;exact A' (fun e he=>hl.head he) (fun ae h=>ih hl h) h
 |ite c a b fz fX=>intro ae F Ps Qs hl h;exact⟨fun hc=>fz hl (h.1 hc),fun hc=>fX hl (h.2 hc)⟩
 | loop id es kd base body ih=>
   intro ae F Ps Qs hl h;obtain⟨inv,qR,h1,h2⟩:=h;exact⟨inv,qR,h1,fun ds hd hi=>ih hl (h2 ds hd hi)⟩
 |fail e=>intro ae F Ps Qs hl h;exact hl.head h
 |gA x tp t E6 ih=>intro ae F Ps Qs hl h;exact ih (Ps:=_::Ps) (Qs:=_::Qs) ⟨fun e he=>E6 hl he,hl⟩ h
 | pop t ih=>
   intro ae F Ps Qs hl h;cases Ps with
   |nil=>exact h.elim
   | cons p ps=>cases Qs with
     |nil=>exact hl.elim
     |cons q qs=>exact ih hl.2 h
theorem G5:∀ {t:aA} {ks:List BE} {ae:aF} {F:Nat->List DV->Prop} {Ps:List (Int->Prop)},(∀k∈ks,k.af ae=true)->(prune ks t).holds Γ R Ps ae F->t.holds Γ R Ps ae F:=by
 intro t;induction t with
 |ret vs=>intro ks ae F Ps _ h;exact h
 |stuck s=>intro ks ae F Ps _ h;exact h
 |again id vs=>intro ks ae F Ps _ h;exact h
 | ev e t ih=>
   intro ks ae F Ps hk h;cases e with
   | aH p=>
     simp only[prune]at h;split at h;rename_i hkn;exact⟨by rw[<- xj hk];exact Ds hk hkn,ih hk h⟩;obtain⟨h1,h2⟩:=h;exact⟨by rw[<- xj hk];exact h1,ih (xk hk h1) h2⟩
   |call f g args res base=>exact Ev.kf (e:=.call f g args res base) (fun _ h=>ih (ks:=[]) (fun k hk=>by simp at hk) h) h
   |b8 id op=>exact ih (ks:=[]) (fun k hk=>by simp at hk) h
   |dO p e=>exact⟨fun hp=>ih (ks:=[]) (fun k hk=>by simp at hk) (h.1 hp),h.2⟩
 | ite c a b fz fX=>
   intro ks ae F Ps hk h;refine⟨fun hc=>fz (xk hk hc) (h.1 hc),fun hc=>fX ?_ (h.2 hc)⟩;intro k dH;rcases bC.1 dH with rfl|dH;rw[BE.cL];simp[BE.af,hc];exact hk k dH
 | loop id es kd base body ih=>
   intro ks ae F Ps hk h;obtain⟨inv,qR,h1,h2⟩:=h;exact⟨inv,qR,h1,fun ds hd hi=>ih (fun k hk=>by simp at hk) (h2 ds hd hi)⟩
 |fail e=>intro ks ae F Ps _ h;exact h
 | gA x tp t E6 ih=>
   intro ks ae F Ps hk h;have h2:t.holds Γ R ((fun n=>(prune [] tp).holds Γ R Ps (ae.set x (.i n)) F)::Ps) ae F:=ih hk h;show t.holds Γ R ((fun n=>tp.holds Γ R Ps (ae.set x (.i n)) F)::Ps) ae F;refine Pp (Ps:=(fun n=>(prune [] tp).holds Γ R Ps (ae.set x (.i n)) F)::Ps) ?_ h2;exact⟨fun e he=>E6 (fun k hk=>by simp at hk) he,CM.refl⟩
 | pop t ih=>
   intro ks ae F Ps hk h;cases Ps with
   |nil=>exact h.elim
   |cons p ps=>exact ih hk h
variable {P:Program}
theorem zp{aR:lg}{f:FuncId}{fn:Func}{c:Code}{fuel:Nat}{ct:eB}(hB:ki P aR){Wd:World->Prop}(ji:∀w,Wd w->eZ P Γ aR w)(hf:P.funcs[f]?=some fn)(hb:fn.body=some c)(hn:(fn.name == "runtime.NumGoroutine")=false)(qH:aR.no=[])
   {T:aA} (hT:prune [] (tA P aR f fn ct.sig fuel)=T) (h:∀ds,kinds (bP ct.sig.args) ds=true->ct.pre ds->T.holds Γ (ct.rel ds) [] (a8.au 0 ds) (fun _ _=>False)):if ct.sig.cons=0 then fK P Wd f ct else jE P Wd f ct:=
 G4 hB ji hf hb hn qH rfl fun ds hk hp=>G5 (ks:=[]) (fun k hk=>by simp at hk) (by rw[hT];exact h ds hk hp)
end
section
open Go.RowKit
variable{c:eB}{f:FuncId}{k:Nat}{c':eB}{ds:List DV}{N:Nat}{R:List DV->Prop}{rs:List DV}{sg:Nat->Option bX}{Γ:bZ}
abbrev bY:=Nat->List DV->Option (List DV)
variable{X C:bY}
abbrev tM:=Nat->List DV->Option (List DV)
def Ev.run(C:bY)(e:Ev)(k:aF->Option (List DV))(ae:aF):Option (List DV):=
 match e with
 |.aH p=>if p.af ae=true then k ae else none
 |.call f g args res base=>if g.af ae=true then(match C f (args.map (DE.af ae))with
     |some rs=>k (ae.au base rs)
     |none=>none)else k (ae.au base (defs (bP res)))
 |.b8 id op=>k (ae.set id (.l (op.af ae)))
 |.dO _ _=>none
def iter(step:(List DV->Option (List DV))->List DV->Option (List DV)):Nat->List DV->Option (List DV)
 |0,_=>none
 |n+1,ds=>step (iter step n) ds
def Ce(F:tM)(id:Nat)(G:List DV->Option (List DV)):tM:=fun j vs=>if j=id then G vs else F j vs
def aA.run(C:bY)(N:Nat):aA->List (Int->Option (List DV))->aF->tM->Option (List DV)
 |.ret bM,_,ae,_=>some (bM.map (DE.af ae))
 |.stuck _,_,_,_=>none
 |.ev e t,Ps,ae,F=>e.run C (fun aq=>t.run C N Ps aq F) ae
 |.ite c a b,Ps,ae,F=>if c.af ae=true then a.run C N Ps ae F else b.run C N Ps ae F
 |.loop id entry _ base body,Ps,ae,F=>iter (fun rec ds=>body.run C N Ps (ae.au base ds) (Ce F id rec)) N (entry.map (DE.af ae))
 |.again id bM,_,ae,F=>F id (bM.map (DE.af ae))
 | .fail e,Ps,ae,_=>match Ps with
   |p::_=>p (e.af ae)
   | []=>none
 |.gA x tp t,Ps,ae,F=>t.run C N ((fun n=>tp.run C N Ps (ae.set x (.i n)) F)::Ps) ae F
 | .pop t,Ps,ae,F=>match Ps with
   |_::ZA=>t.run C N ZA ae F
   | []=>none
def XR(r:List DV):List (Int->Option (List DV))->List (Int->Prop)->Prop
 | [],[]=>True
 |p::ps,q::qs=>(∀e,p e=some r->q e)/\XR r ps qs
 |_,_=>False
theorem MT{r:List DV}(hC:∀f ds rs,C f ds=some rs->∃c,Γ f=some c/\c.pre ds/\∀fw,c.rel ds fw->fw=rs) :
   ∀ {t:aA} {Ps:List (Int->Option (List DV))} {Qs:List (Int->Prop)} {ae:aF} {F:tM} {G:Nat->List DV->Prop},XR r Ps Qs->(∀j vs,F j vs=some r->G j vs)->t.run C N Ps ae F=some r->t.holds Γ (fun rs=>rs=r) Qs ae G:=by
 intro t;induction t with
 |ret vs=>intro Ps Qs ae F G _ _ h;show _=r;simpa[aA.run]using h
 |stuck s=>intro Ps Qs ae F G _ _ h;cases h
 | ev e t ih=>
   intro Ps Qs ae F G hP hF h;cases e with
   | aH p=>
     simp only[aA.run,Ev.run]at h;split at h;rename_i hp;exact⟨hp,ih hP hF h⟩;cases h
   | call f g args res base=>
     simp only[aA.run,Ev.run]at h;split at h;rename_i hg;refine⟨fun _=>?_,fun hn=>(by rw[hg]at hn;cases hn)⟩;split at h;rename_i rs vn;obtain⟨c,h1,h2,h3⟩:=hC f _ rs vn;exact⟨c,h1,h2,fun fw _ hr=>by rw[h3 fw hr];exact ih hP hF h⟩;cases h;rename_i hg;exact⟨fun hn=>absurd hn hg,fun _=>ih hP hF h⟩
   |b8 id op=>exact ih hP hF h
   |dO p e=>cases h
 | ite c a b fz fX=>
   intro Ps Qs ae F G hP hF h;simp only[aA.run]at h;split at h;rename_i hc;exact⟨fun _=>fz hP hF h,fun hn=>(by rw[hc]at hn;cases hn)⟩;rename_i hc;exact⟨fun hn=>absurd hn hc,fun _=>fX hP hF h⟩
 | loop id es kd base body ih=>
   intro Ps Qs ae F G hP hF h;simp only[aA.run]at h;let step:(List DV->Option (List DV))->List DV->Option (List DV):=fun rec ds=>body.run C N Ps (ae.au base ds) (Ce F id rec)
   classical
   have G7:∀ds,(∃n,iter step n ds=some r)->∃n,iter step n ds=some r/\∀m,iter step m ds=some r->n<=m:=by
     intro ds ⟨n,hn⟩;induction n using Nat.strongRecOn with
     | _ n ZK=>
       by_cases hx:∃m,m<n/\iter step m ds=some r;obtain⟨m,hm,lR⟩:=hx;exact ZK m hm lR;refine⟨n,hn,fun m hm=>?_⟩;by_cases cM:m<n;exact absurd ⟨m,cM,hm⟩ hx;omega
   refine⟨fun ds=>∃n,iter step n ds=some r,fun ds=>if hx:∃n,iter step n ds=some r then(G7 ds hx).choose else 0,⟨N,h⟩,fun ds _ hi=>?_⟩;have Um:=(G7 ds hi).choose_spec;have hme:(if hx:∃n,iter step n ds=some r then(G7 ds hx).choose else 0)=(G7 ds hi).choose:=by rw[dif_pos hi]
   obtain⟨h1,h2⟩:=Um;generalize hk:(G7 ds hi).choose=k at h1 h2 hme;cases k with
   |zero=>cases h1
   | succ k=>
     refine ih (F:=Ce F id (iter step k)) hP ?_ h1;intro j vs hj;unfold kO;unfold Ce at hj;split;rename_i e;rw[if_pos e]at hj;refine⟨⟨k,hj⟩,?_⟩;have hx:∃n,iter step n vs=some r:=⟨k,hj⟩;simp only[hme,dif_pos hx];have:=(G7 vs hx).choose_spec.2 k hj;omega;rename_i e;rw[if_neg e]at hj;exact hF j vs hj
 |again id vs=>intro Ps Qs ae F G hP hF h;exact hF _ _ h
 | fail e=>
   intro Ps Qs ae F G hP hF h;cases Ps with
   |nil=>cases h
   | cons p ps=>cases Qs with
     |nil=>exact hP.elim
     |cons q qs=>exact hP.1 _ h
 | gA x tp t E6 ih=>
   intro Ps Qs ae F G hP hF h;exact ih (Ps:=_::Ps) (Qs:=_::Qs) ⟨fun e he=>E6 hP hF he,hP⟩ hF h
 | pop t ih=>
   intro Ps Qs ae F G hP hF h;cases Ps with
   |nil=>cases h
   | cons p ps=>cases Qs with
     |nil=>exact hP.elim
     |cons q qs=>exact ih hP.2 hF h
def Vg(a b:Option (List DV)):Prop:=∀r,a=some r->b=some r
def xm:List (Int->Option (List DV))->List (Int->Option (List DV))->Prop
 | [],[]=>True
 |p::ps,q::qs=>(∀e,Vg (p e) (q e))/\xm ps qs
 |_,_=>False
theorem xm.refl:∀ {ps:List (Int->Option (List DV))},xm ps ps
 | []=>trivial
 |_::_=>⟨fun _ _ h=>h,xm.refl⟩
theorem qT{C':bY}{N':Nat}(hC:∀f ds,Vg (C f ds) (C' f ds))(hN:N<=N') :
   ∀ {t:aA} {Ps Qs:List (Int->Option (List DV))} {ae:aF} {F G:tM},xm Ps Qs->(∀j vs,Vg (F j vs) (G j vs))->Vg (t.run C N Ps ae F) (t.run C' N' Qs ae G):=by
 intro t;induction t with
 |ret vs=>intro Ps Qs ae F G _ _ r h;exact h
 |stuck s=>intro Ps Qs ae F G _ _ r h;cases h
 | ev e t ih=>
   intro Ps Qs ae F G hP hF r h;cases e with
   | aH p=>
     simp only[aA.run,Ev.run]at h ⊢;split at h;rename_i hp;rw[if_pos hp];exact ih hP hF r h;cases h
   | call f g args res base=>
     simp only[aA.run,Ev.run]at h ⊢;split at h;rename_i hg;rw[if_pos hg];split at h;rename_i rs vn;rw[hC _ _ _ vn];exact ih hP hF r h;cases h;rename_i hg;rw[if_neg hg];exact ih hP hF r h
   |b8 id op=>exact ih hP hF r h
   |dO p e=>cases h
 | ite c a b fz fX=>
   intro Ps Qs ae F G hP hF r h;simp only[aA.run]at h ⊢;split at h;rename_i hc;rw[if_pos hc];exact fz hP hF r h;rename_i hc;rw[if_neg hc];exact fX hP hF r h
 | loop id es kd base body ih=>
   intro Ps Qs ae F G hP hF r h;simp only[aA.run]at h ⊢;have key:∀n n' ds,n<=n'->Vg (iter (fun rec ds=>body.run C N Ps (ae.au base ds) (Ce F id rec)) n ds) (iter (fun rec ds=>body.run C' N' Qs (ae.au base ds) (Ce G id rec)) n' ds):=by
     intro n;induction n with
     |zero=>intro n' ds _ r h;cases h
     | succ n ZK=>
       intro n' ds hn r h;cases n' with
       |zero=>omega
       | succ n'=>
         refine ih hP (fun j vs=>?_) r h;unfold Ce;split;exact ZK n' vs (by omega);exact hF j vs
   exact key N N' _ hN r h
 |again id vs=>intro Ps Qs ae F G hP hF r h;exact hF _ _ r h
 | fail e=>
   intro Ps Qs ae F G hP hF r h;cases Ps with
   |nil=>cases h
   | cons p ps=>cases Qs with
     |nil=>exact hP.elim
     |cons q qs=>exact hP.1 _ r h
 | gA x tp t E6 ih=>
   intro Ps Qs ae F G hP hF r h;exact ih (Ps:=_::Ps) (Qs:=_::Qs) ⟨fun e=>E6 hP hF,hP⟩ hF r h
 | pop t ih=>
   intro Ps Qs ae F G hP hF r h;cases Ps with
   |nil=>cases h
   | cons p ps=>cases Qs with
     |nil=>exact hP.elim
     |cons q qs=>exact ih hP.2 hF r h
def aA.ir(E:Nat->List DV->List DV->Prop)(R:List DV->Prop):aA->List (Int->Prop)->aF->(Nat->List DV->Prop)->Prop
 |.ret bM,_,ae,_=>R (bM.map (DE.af ae))
 |.stuck _,_,_,_=>False
 |.ev (.aH p) t,Ps,ae,F=>p.af ae=true/\t.ir E R Ps ae F
 |.ev (.call f g args res base) t,Ps,ae,F=>(g.af ae=true->∃rs,E f (args.map (DE.af ae)) rs/\t.ir E R Ps (ae.au base rs) F)/\(g.af ae=false->t.ir E R Ps (ae.au base (defs (bP res))) F)
 |.ev (.b8 id op) t,Ps,ae,F=>t.ir E R Ps (ae.set id (.l (op.af ae))) F
 |.ev (.dO _ _) _,_,_,_=>False
 |.ite c a b,Ps,ae,F=>(c.af ae=true->a.ir E R Ps ae F)/\(c.af ae=false->b.ir E R Ps ae F)
 |.loop id entry _ base body,Ps,ae,F=>∃(inv:List DV->Prop) (qR:List DV->Nat),inv (entry.map (DE.af ae))/\
     ∀ds,inv ds->body.ir E R Ps (ae.au base ds) (kO F id (fun vs=>inv vs/\qR vs<qR ds))
 |.again id bM,_,ae,F=>F id (bM.map (DE.af ae))
 |.fail e,Ps,ae,_=>kJ Ps (e.af ae)
 |.gA x tp t,Ps,ae,F=>t.ir E R ((fun n=>tp.ir E R Ps (ae.set x (.i n)) F)::Ps) ae F
 | .pop t,Ps,ae,F=>match Ps with
   |_::ZA=>t.ir E R ZA ae F
   | []=>False
def Px(C:Nat->bY):Prop:=∀n m f ds,n<=m->Vg (C n f ds) (C m f ds)
def ZL(F:Nat->tM):Prop:=∀n m j vs,n<=m->Vg (F n j vs) (F m j vs)
def E7(P:Nat->List (Int->Option (List DV))):Prop:=∀n m,n<=m->xm (P n) (P m)
def XS(R:List DV->Prop)(P:Nat->List (Int->Option (List DV))):List (Int->Prop)->Prop
 | []=>∀n,P n=[]
 |q::qs=>(∀n,P n≠[])/\(∀e,q e->∃n r,((P n).headD (fun _=>none)) e=some r/\R r)/\XS R (fun n=>(P n).tail) qs
theorem E7.tail{P:Nat->List (Int->Option (List DV))}(h:E7 P):E7 fun n=>(P n).tail:=by
 intro n m hn;have:=h n m hn;show xm (P n).tail (P m).tail;cases h1:P n with
 | nil=>cases h2:P m with
   |nil=>trivial
   |cons q qs=>rw[h1,h2]at this;exact this.elim
 | cons p ps=>cases h2:P m with
   |nil=>rw[h1,h2]at this;exact this.elim
   |cons q qs=>rw[h1,h2]at this;exact this.2
theorem Vh{C:Nat->bY}{E:Nat->List DV->List DV->Prop}(hC:Px C)(hE:∀f ds rs,E f ds rs->∃n,C n f ds=some rs) :
   ∀ {t:aA} {P:Nat->List (Int->Option (List DV))} {Qs:List (Int->Prop)} {ae:aF} {F:Nat->tM} {G:Nat->List DV->Prop},E7 P->ZL F->XS R P Qs->(∀j vs,G j vs->∃n r,F n j vs=some r/\R r)->
     t.ir E R Qs ae G->∃n r,t.run (C n) n (P n) ae (F n)=some r/\R r:=by
 intro t;induction t with
 |ret vs=>intro P Qs ae F G _ _ _ _ h;exact⟨0,_,rfl,h⟩
 |stuck s=>intro P Qs ae F G _ _ _ _ h;exact h.elim
 | ev e t ih=>
   intro P Qs ae F G hP hF hQ hG h;cases e with
   | aH p=>
     obtain⟨n,r,h1,h2⟩:=ih hP hF hQ hG h.2;exact⟨n,r,by simp only[aA.run,Ev.run,if_pos h.1];exact h1,h2⟩
   | call f g args res base=>
     by_cases hg:g.af ae=true;obtain⟨rs,he,ht⟩:=h.1 hg;obtain⟨n1,gn⟩:=hE _ _ _ he;obtain⟨n,r,h1,h2⟩:=ih hP hF hQ hG ht;refine⟨max n n1,r,?_,h2⟩;simp only[aA.run,Ev.run,if_pos hg,hC n1 (max n n1) _ _ (Nat.le_max_right ..) _ gn];exact qT (hC n _ · · (Nat.le_max_left ..)) (Nat.le_max_left ..) (hP _ _ (Nat.le_max_left ..)) (hF _ _ · · (Nat.le_max_left ..)) r h1;have C3:g.af ae=false:=by simpa using hg
     obtain⟨n,r,h1,h2⟩:=ih hP hF hQ hG (h.2 C3);exact⟨n,r,by simp only[aA.run,Ev.run,if_neg hg];exact h1,h2⟩
   |b8 id op=>exact ih hP hF hQ hG h
   |dO p e=>exact h.elim
 | ite c a b fz fX=>
   intro P Qs ae F G hP hF hQ hG h;by_cases hc:c.af ae=true;obtain⟨n,r,h1,h2⟩:=fz hP hF hQ hG (h.1 hc);exact⟨n,r,by simp only[aA.run,if_pos hc];exact h1,h2⟩;obtain⟨n,r,h1,h2⟩:=fX hP hF hQ hG (h.2 (by simpa using hc));exact⟨n,r,by simp only[aA.run,if_neg hc];exact h1,h2⟩
 | loop id es kd base body ih=>
   intro P Qs ae F G hP hF hQ hG h;obtain⟨inv,qR,h0,hb⟩:=h;let lp:Nat->Nat->List DV->Option (List DV):=fun n=>iter (fun rec ds=>body.run (C n) n (P n) (ae.au base ds) (Ce (F n) id rec))
   have mono:∀k n m ds,n<=m->∀k',k<=k'->Vg (lp n k ds) (lp m k' ds):=by
     intro k;induction k with
     |zero=>intro n m ds _ k' _ r h;cases h
     | succ k ihk=>
       intro n m ds hn k' hk r h;cases k' with
       |zero=>omega
       | succ k'=>
         refine qT (hC n m · · hn) hn (hP n m hn) (fun j vs=>?_) r h;unfold Ce;split;exact ihk n m vs hn k' (by omega);exact hF n m j vs hn
   have key:∀x ds,inv ds->qR ds=x->∃n r,lp n n ds=some r/\R r:=by
     intro x;induction x using Nat.strongRecOn with
     | _ x NS=>
       intro ds hi hx;obtain⟨n,r,h1,h2⟩:=ih (F:=fun n=>Ce (F n) id (lp n n)) hP (fun n m j vs hn=>by
         show Vg (Ce (F n) id (lp n n) j vs) (Ce (F m) id (lp m m) j vs);unfold Ce;split;exact mono n n m vs hn m hn;exact hF n m j vs hn) hQ (fun j vs hj=>by
         unfold kO at hj;split at hj;rename_i e;subst e;obtain⟨n,r,h1,h2⟩:=NS _ (by omega) vs hj.1 rfl;exact⟨n,r,by simp only[Ce,if_pos];exact h1,h2⟩;rename_i e;obtain⟨n,r,h1,h2⟩:=hG j vs hj;exact⟨n,r,by simp only[Ce,if_neg e];exact h1,h2⟩) (hb ds hi)
       refine⟨n+1,r,?_,h2⟩;show body.run (C (n+1)) (n+1) (P (n+1)) (ae.au base ds) (Ce (F (n+1)) id (lp (n+1) n))=some r;refine qT (hC n (n+1) · · (by omega)) (by omega) (hP n (n+1) (by omega)) (fun j vs=>?_) r h1;unfold Ce;split;exact mono n n (n+1) vs (by omega) n (ga _);exact hF n (n+1) j vs (by omega)
   obtain⟨n,r,h1,h2⟩:=key _ _ h0 rfl;exact⟨n,r,h1,h2⟩
 |again id vs=>intro P Qs ae F G hP hF hQ hG h;exact hG _ _ h
 | fail e=>
   intro P Qs ae F G hP hF hQ hG h;cases Qs with
   |nil=>exact h.elim
   | cons q qs=>
     obtain⟨n,r,h1,h2⟩:=hQ.2.1 _ h;refine⟨n,r,?_,h2⟩;simp only[aA.run];cases hp:P n with
     |nil=>exact absurd hp (hQ.1 n)
     |cons p ps=>rw[hp]at h1;exact h1
 | gA x tp t E6 ih=>
   intro P Qs ae F G hP hF hQ hG h;refine ih (P:=fun n=>(fun e=>tp.run (C n) n (P n) (ae.set x (.i e)) (F n))::P n) (Qs:=_::Qs) ?_ hF ⟨fun n=>by simp,fun e he=>?_,hQ⟩ hG h;intro n m hn;exact⟨fun e=>qT (hC n m · · hn) hn (hP n m hn) (hF n m · · hn),hP n m hn⟩;exact E6 hP hF hQ hG he
 | pop t ih=>
   intro P Qs ae F G hP hF hQ hG h;cases Qs with
   |nil=>exact h.elim
   | cons q qs=>
     obtain⟨n,r,h1,h2⟩:=ih (P:=fun n=>(P n).tail) hP.tail hF hQ.2.2 hG h;refine⟨n,r,?_,h2⟩;simp only[aA.run];cases hp:P n with
     |nil=>exact absurd hp (hQ.1 n)
     |cons p ps=>rw[hp]at h1;exact h1
theorem MU{R':List DV->Prop}(hR:∀rs,R rs->R' rs):∀ {t:aA} {Ps:List (Int->Prop)} {ae:aF} {F:Nat->List DV->Prop},t.holds Γ R Ps ae F->t.holds Γ R' Ps ae F:=by
 have gen:∀ {t:aA} {Ps Qs:List (Int->Prop)} {ae:aF} {F:Nat->List DV->Prop},CM Ps Qs->t.holds Γ R Ps ae F->t.holds Γ R' Qs ae F:=by
   intro t;induction t with
   |ret vs=>intro Ps Qs ae F _ h;exact hR _ h
   |stuck s=>intro Ps Qs ae F _ h;exact h
   |again id vs=>intro Ps Qs ae F _ h;exact h
   |ev e t ih=>intro Ps Qs ae F hP h;exact A' (fun e he=>hP.head he) (fun _ h=>ih hP h) h
   |ite c a b fz fX=>intro Ps Qs ae F hP h;exact⟨fun hc=>fz hP (h.1 hc),fun hc=>fX hP (h.2 hc)⟩
   | loop id es kd base body ih=>
     intro Ps Qs ae F hP h;obtain⟨inv,qR,h1,h2⟩:=h;exact⟨inv,qR,h1,fun ds hd hi=>ih hP (h2 ds hd hi)⟩
   |fail e=>intro Ps Qs ae F hP h;exact hP.head h
   |gA x tp t E6 ih=>intro Ps Qs ae F hP h;exact ih (Ps:=_::Ps) (Qs:=_::Qs) ⟨fun e he=>E6 hP he,hP⟩ h
   | pop t ih=>
     intro Ps Qs ae F hP h;cases Ps with
     |nil=>exact h.elim
     | cons p ps=>cases Qs with
       |nil=>exact hP.elim
       |cons q qs=>exact ih hP.2 h
 intro t Ps ae F h;exact gen CM.refl h
structure iU where
 f:FuncId
 tree:aA
 sub:List (FuncId×Nat)
variable{T:Nat->Option iU}{e:iU}
def iU.key(e:iU)(g:FuncId):Nat:=match e.sub.find? (fun p=>p.1==g)with
 |some p=>p.2
 |none=>g
def ev(T:Nat->Option iU)(X:bY):Nat->bY
 |0,_,_=>none
 | n+1,k,ds=>match T k with
   |some e=>e.tree.run (fun g=>ev T X n (e.key g)) n [] (a8.au 0 ds) (fun _ _=>none)
   |none=>X k ds
theorem mf:Px (ev T X):=by
 intro n;induction n with
 |zero=>intro m f ds _ r h;cases h
 | succ n ih=>
   intro m k ds hm r h;cases m with
   |zero=>omega
   | succ m=>
     simp only[ev]at h ⊢;split at h;exact qT (fun g ds=>ih m _ ds (by omega)) (by omega) xm.refl (fun _ _ _ h=>h) r h;exact h
def cX(T:Nat->Option iU)(X:bY)(k:Nat)(ds rs:List DV):Prop:=∃n,ev T X n k ds=some rs
theorem cX.Ut{fw:List DV}(h:cX T X k ds rs)(h':cX T X k ds fw):rs=fw:=by
 obtain⟨n,hn⟩:=h;obtain⟨m,hm⟩:=h';have a:=mf n (max n m) k ds (Nat.le_max_left ..) rs hn;have b:=mf m (max n m) k ds (Nat.le_max_right ..) fw hm;rw[a]at b;simpa using b
theorem Bf(hk:T k=some e)(h:e.tree.ir (fun g=>cX T X (e.key g)) R [] (a8.au 0 ds) (fun _ _=>False)):∃rs,cX T X k ds rs/\R rs:=by
 obtain⟨n,r,h1,h2⟩:=Vh (C:=fun n g=>ev T X n (e.key g)) (E:=fun g=>cX T X (e.key g)) (R:=R) (fun n m f ds hn=>mf n m _ ds hn) (fun f ds rs h=>h) (t:=e.tree) (P:=fun _=>[]) (Qs:=[]) (ae:=a8.au 0 ds) (F:=fun _ _ _=>none) (G:=fun _ _=>False)
   (fun _ _ _=>trivial) (fun _ _ _ _ _ _ h=>h) (fun _=>rfl) (fun _ _ h=>h.elim) h
 exact⟨r,⟨n+1,by simp only[ev,hk];exact h1⟩,h2⟩
theorem jG(hk:T k=none)(h:X k ds=some rs):cX T X k ds rs:=⟨1,by simp only[ev,hk];exact h⟩
variable {P:Program}
def pL(T:Nat->Option iU)(k:Nat):FuncId:=match T k with
 |some e=>e.f
 |none=>k
def vx(T:Nat->Option iU)(Xd:Nat->Bool)(k:Nat):Bool:=(T k).isSome||Xd k
def Has(P:Program)(Wd:World->Prop)(f:FuncId)(c:eB):Prop:=if c.sig.cons=0 then fK P Wd f c\/uD P f c else jE P Wd f c
def Vi:CT->DE->Bool
 |.s _ _,.rows _=>true
 |.s _ _,.vP _=>true
 |c,d=>tz c d
def Dx:List CT->List DE->Bool
 | [],[]=>true
 |c::cs,d::ds=>Vi c d&&Dx cs ds
 |_,_=>false
def aA.n5(ks:List CT):aA->Bool
 |.ret bM=>Dx ks bM
 |.ev _ t=>t.n5 ks
 |.ite _ a b=>a.n5 ks&&b.n5 ks
 |.loop _ _ _ _ t=>t.n5 ks
 |.gA _ a b=>a.n5 ks&&b.n5 ks
 |.pop t=>t.n5 ks
 |_=>true
theorem MV{ae:aF}:∀ {ks:List CT} {ds:List DE},Dx ks ds=true->kinds ks (ds.map (DE.af ae))=true:=by
 intro ks;induction ks with
 |nil=>intro ds h;cases ds<;>simp_all[Dx,kinds]
 | cons c ks ih=>intro ds h;cases ds with
   |nil=>simp[Dx]at h
   | cons d ds=>
     simp only[Dx,ao]at h;simp only[kQ,kinds,ih h.2,Bool.and_true];have:=h.1;cases c with
     |c k=>cases k<;>cases d<;>simp_all[Vi,tz,DE.af,DV.kind]
     |s e ks=>cases d<;>simp_all[Vi,tz,DE.af,DV.kind]
     |n e aU=>cases d<;>simp_all[Vi,tz,DE.af,DV.kind]
theorem MW{ks:List CT}:∀ {t:aA} {Ps:List (Int->Option (List DV))} {ae:aF} {F:tM} {r:List DV},t.n5 ks=true->(∀p∈Ps,∀e r,p e=some r->kinds ks r=true)->(∀j vs r,F j vs=some r->kinds ks r=true)->t.run C N Ps ae F=some r->kinds ks r=true:=by
 intro t;induction t with
 |ret vs=>intro Ps ae F r ht _ _ h;simp only[aA.run,ah]at h;subst h;exact MV ht
 |stuck s=>intro Ps ae F r _ _ _ h;cases h
 | ev e t ih=>
   intro Ps ae F r ht hP hF h;have ht:t.n5 ks=true:=ht;cases e with
   | aH p=>
     simp only[aA.run,Ev.run]at h;split at h;exact ih ht hP hF h;cases h
   | call f g args res base=>
     simp only[aA.run,Ev.run]at h;split at h;split at h;exact ih ht hP hF h;cases h;exact ih ht hP hF h
   |b8 id op=>exact ih ht hP hF h
   |dO p e=>cases h
 | ite c a b fz fX=>
   intro Ps ae F r ht hP hF h;simp only[aA.n5,ao]at ht;simp only[aA.run]at h;split at h;exact fz ht.1 hP hF h;exact fX ht.2 hP hF h
 | loop id es kd base body ih=>
   intro Ps ae F r ht hP hF h;have ht:body.n5 ks=true:=ht;simp only[aA.run]at h;have key:∀n ds r,iter (fun rec ds=>body.run C N Ps (ae.au base ds) (Ce F id rec)) n ds=some r->kinds ks r=true:=by
     intro n;induction n with
     |zero=>intro ds r h;cases h
     | succ n ZK=>
       intro ds r h;refine ih ht hP (fun j vs r hj=>?_) h;unfold Ce at hj;split at hj;exact ZK vs r hj;exact hF j vs r hj
   exact key N _ r h
 |again id vs=>intro Ps ae F r _ _ hF h;exact hF _ _ _ h
 | fail e=>
   intro Ps ae F r _ hP _ h;cases Ps with
   |nil=>cases h
   |cons p ps=>exact hP p (aZ ..) _ _ h
 | gA x tp t E6 ih=>
   intro Ps ae F r ht hP hF h;simp only[aA.n5,ao]at ht;refine ih (Ps:=_::Ps) ht.2 (fun p hp e r he=>?_) hF h;rcases bC.1 hp with rfl|hp;exact E6 ht.1 hP hF he;exact hP p hp e r he
 | pop t ih=>
   intro Ps ae F r ht hP hF h;have ht:t.n5 ks=true:=ht;cases Ps with
   |nil=>cases h
   |cons p ps=>exact ih ht (fun q hq=>hP q (bI _ hq)) hF h
def XT(P:Program)(Wd:World->Prop)(T:Nat->Option iU)(Xd:Nat->Bool)(sg:Nat->Option bX)(k:Nat)(e:iU):Prop:=
 ∃aR fn c fuel s,(aR.no=[]/\e.tree.n5 (bP s.res)=true)/\sg k=some s/\ki P aR/\(∀g s',aR.sig g=some s'->sg (e.key g)=some s'/\pL T (e.key g)=g)/\(∀g,vx T Xd (e.key g)=true->(aR.sig g).isSome=true)/\
   P.funcs[e.f]?=some fn/\fn.body=some c/\(fn.name == "runtime.NumGoroutine")=false/\prune [] (tA P aR e.f fn s fuel)=e.tree/\
   (∀w,Wd w->∀g cs,(g,cs)∈aR.y8->∃T z,w.heap[g]?=some (.cells (cs.map fun n=>Value.int .i64 n).toArray T z))
structure Bg(P:Program)(Wd:World->Prop)(T:Nat->Option iU)(X:bY)(Xd:Nat->Bool)(sg:Nat->Option bX):Prop where
 stays:∀w w',Wd w->Below w.heap.size w w'->Wd w'
 ent:∀k e,T k=some e->XT P Wd T Xd sg k e
 ac2:∀k s,T k=none->sg k=some s->∀ds rs,X k ds=some rs->kinds (bP s.res) rs=true
 ext:∀k s,T k=none->Xd k=true->sg k=some s->Has P Wd k ⟨s,fun ds=>∃rs,kinds (bP s.res) rs=true/\X k ds=some rs,fun ds rs=>X k ds=some rs,fun _ h=>h⟩
 non:∀k ds,Xd k=false->X k ds=none
theorem jE.weaken{Wd:World->Prop}(h:jE P Wd f c)(hs:c'.sig=c.sig)(hp:∀ds,c'.pre ds->c.pre ds)(hr:∀ds rs,c'.pre ds->c.rel ds rs->c'.rel ds rs):jE P Wd f c':=by
 obtain⟨s,pre,rel,ne⟩:=c;obtain⟨s',E8,G8,ne'⟩:=c';simp only at hs;subst hs;exact⟨h.1,fun w B gC ds hw ha hd=>(h.2 w B gC ds hw ha (hp ds hd)).mono fun e w' he=>by
   obtain⟨b9,iq,e1,e2,e3,e4,e5,e6⟩:=he;exact⟨b9,iq,e1,e2,e3,e4,e5,hr _ _ hd e6⟩⟩
theorem fK.weaken{Wd:World->Prop}(h:fK P Wd f c)(hs:c'.sig=c.sig)(hp:∀ds,c'.pre ds->c.pre ds)(hr:∀ds rs,c'.pre ds->c.rel ds rs->c'.rel ds rs):fK P Wd f c':=by
 obtain⟨s,pre,rel,ne⟩:=c;obtain⟨s',E8,G8,ne'⟩:=c';simp only at hs;subst hs;exact⟨h.1,fun w vs ds hw ha hd=>(h.2 w vs ds hw ha (hp ds hd)).mono fun e w' he=>by
   obtain⟨b9,iq,e1,e2,e3,e4,e5⟩:=he;exact⟨b9,iq,e1,e2,e3,e4,hr _ _ hd e5⟩⟩
theorem uD.weaken(h:uD P f c)(hs:c'.sig=c.sig)(hp:∀ds,c'.pre ds->c.pre ds)(hr:∀ds rs,c'.pre ds->c.rel ds rs->c'.rel ds rs):uD P f c':=by
 obtain⟨s,pre,rel,ne⟩:=c;obtain⟨s',E8,G8,ne'⟩:=c';simp only at hs;subst hs;exact fun w vs ds ha hd=>by
   obtain⟨b9,iq,e1,e2,e3,e4⟩:=h w vs ds ha (hp ds hd);exact⟨b9,iq,e1,e2,e3,hr _ _ hd e4⟩
theorem Has.weaken{Wd:World->Prop}(h:Has P Wd f c)(hs:c'.sig=c.sig)(hp:∀ds,c'.pre ds->c.pre ds)(hr:∀ds rs,c'.pre ds->c.rel ds rs->c'.rel ds rs):Has P Wd f c':=by
 unfold Has at h ⊢;rw[hs];split at h;rename_i hc;rw[if_pos hc];exact h.imp (fun a=>a.weaken hs hp hr) (fun a=>a.weaken hs hp hr);rename_i hc;rw[if_neg hc];exact h.weaken hs hp hr
theorem Py{Wd:World->Prop}(h:if c.sig.cons=0 then fK P Wd f c else jE P Wd f c):Has P Wd f c:=by
 unfold Has;split at h;rename_i hc;rw[if_pos hc];exact .inl h;rename_i hc;rw[if_neg hc];exact h
theorem Has.known{Wd:World->Prop}{w0:World}(h:Has P Wd f c)(hw:∀w,Below w0.heap.size w0 w->Wd w):if c.sig.cons=0 then vZ P w0 f c\/uD P f c else jE P (Below w0.heap.size w0) f c:=by
 unfold Has at h;split at h;rename_i hc;rw[if_pos hc];exact h.imp (fun a=>a.at hw) (fun a=>a);rename_i hc;rw[if_neg hc];exact⟨h.1,fun w B gC ds hb ha hp=>h.2 w B gC ds (hw w hb) ha hp⟩
abbrev evC(T:Nat->Option iU)(X:bY)(n k:Nat)(s:bX):eB:=⟨s,fun ds=>∃rs,kinds (bP s.res) rs=true/\ev T X n k ds=some rs,fun ds rs=>ev T X n k ds=some rs,fun _ h=>h⟩
theorem tN{Wd:World->Prop}{Xd:Nat->Bool}(h:Bg P Wd T X Xd sg){n:Nat}{s:bX}(hs:sg k=some s)(hr:ev T X n k ds=some rs):kinds (bP s.res) rs=true:=by
 cases n with
 |zero=>cases hr
 | succ n=>
   simp only[ev]at hr;cases hT:T k with
   |none=>rw[hT]at hr;exact h.ac2 k s hT hs ds rs hr
   | some e=>
     rw[hT]at hr;obtain⟨aR,fn,c,fuel,s',h0,h1,_⟩:=h.ent k e hT;rw[hs,ah]at h1;subst h1;exact MW h0.2 (fun p hp=>by simp at hp) (fun j vs r hj=>by cases hj) hr
theorem Pz{Wd:World->Prop}{Xd:Nat->Bool}(h:Bg P Wd T X Xd sg) :
   ∀n k s,sg k=some s->vx T Xd k=true->Has P Wd (pL T k) (evC T X n k s):=by
 intro n;induction n with
 | zero=>
   intro k s hs hd;cases hT:T k with
   | none=>
     have hx:Xd k=true:=by simpa[vx,hT]using hd
     have hf:pL T k=k:=by simp[pL,hT]
     rw[hf];refine(h.ext k s hT hx hs).weaken rfl (fun ds hp=>?_) (fun ds rs hp _=>?_)<;>(obtain⟨rs,_,vn⟩:=hp;cases vn)
   | some e=>
     obtain⟨aR,fn,c,fuel,s',h0,h1,h2,_,_,h5,h6,h7,h8,h9⟩:=h.ent k e hT;rw[hs,ah]at h1;subst h1;have hf:pL T k=e.f:=by simp[pL,hT]
     rw[hf];refine Py (zp (Γ:=⟨fun _=>none,fun _=>False⟩) h2 (fun w hw=>⟨fun f c hc=>(by cases hc),h9 w hw⟩) h5 h6 h7 h0.1 h8 fun ds hk hp=>?_);obtain⟨rs,_,vn⟩:=hp;cases vn
 | succ n ih=>
   intro k s hs hd;cases hT:T k with
   | none=>
     have hx:Xd k=true:=by simpa[vx,hT]using hd
     have hf:pL T k=k:=by simp[pL,hT]
     rw[hf];refine(h.ext k s hT hx hs).weaken rfl (fun ds hp=>?_) (fun ds rs hp hr=>?_)<;>simp only[ev,hT]at * <;>assumption
   | some e=>
     obtain⟨aR,fn,c,fuel,s',h0,h1,h2,h3,h4,h5,h6,h7,h8,h9⟩:=h.ent k e hT;rw[hs,ah]at h1;subst h1;have hf:pL T k=e.f:=by simp[pL,hT]
     rw[hf];let Γ:bZ:=⟨fun g=>match aR.sig g with
       |some s'=>if vx T Xd (e.key g)=true then some (evC T X n (e.key g) s')else none
       |none=>none,fun _=>False⟩
     have ji:∀w,Wd w->eZ P Γ aR w:=by
       refine fun w hw=>⟨fun g c hc=>?_,h9 w hw⟩;simp only[Γ]at hc;split at hc;rename_i s' ke;split at hc;rename_i hdg;simp only[ah]at hc;subst hc;obtain⟨g1,g2⟩:=h3 g s' ke;have:=ih (e.key g) s' g1 hdg;rw[g2]at this;exact⟨this.known fun w' hb=>h.stays w w' hw hb,ke⟩;cases hc;cases hc
     refine Py (zp (Γ:=Γ) h2 ji h5 h6 h7 h0.1 h8 fun ds hk hp=>?_);obtain⟨r,_,hr⟩:=hp;have dj:=hr;simp only[ev,hT]at hr;have:=MT (Γ:=Γ) (C:=fun g=>ev T X n (e.key g)) (N:=n) (r:=r) (fun g ds rs hg=>by
       have hdg:vx T Xd (e.key g)=true:=by
         unfold vx;cases hTg:T (e.key g)with
         |some _=>rfl
         | none=>
           cases n with
           |zero=>cases hg
           | succ n=>
             simp only[ev,hTg]at hg;cases hx:Xd (e.key g)with
             |true=>rfl
             |false=>rw[h.non _ _ hx]at hg;cases hg
       obtain⟨s',ke⟩:=At.1 (h4 g hdg);refine⟨evC T X n (e.key g) s',by simp only[Γ,ke,hdg,if_true],⟨rs,tN h (h3 g s' ke).1 hg,hg⟩,fun fw dj=>?_⟩;have dj:ev T X n (e.key g) ds=some fw:=dj;rw[hg]at dj;simpa using dj.symm) (Ps:=[]) (Qs:=[]) (G:=fun _ _=>False) trivial (fun j vs hj=>by cases hj) hr
     refine MU (fun rs vn=>?_) this;subst vn;exact dj
theorem xn{Wd:World->Prop}{Xd:Nat->Bool}(h:Bg P Wd T X Xd sg){ct:eB}(hT:T k=some e)(hs:sg k=some ct.sig)(v8:ct.sig.cons=0)(hp:∀ds,kinds (bP ct.sig.args) ds=true->ct.pre ds->∃rs,cX T X k ds rs/\ct.rel ds rs) :
   fK P Wd e.f ct:=by
 have hd:vx T Xd k=true:=by simp[vx,hT]
 have hf:pL T k=e.f:=by simp[pL,hT]
 obtain⟨aR,fn,c,fuel,s',h0,h1,h2,h3,h4,h5,h6,h7,h8,h9⟩:=h.ent k e hT;refine⟨eI h5 h6 h7,fun w vs ds hwd ha Cy=>?_⟩;have hk:kinds (bP ct.sig.args) ds=true:=by obtain⟨_,_,hf⟩:=ha;exact jC hf
 obtain⟨rs,⟨n,hn⟩,hr⟩:=hp ds hk Cy;have hc:=Pz h n k ct.sig hs hd;rw[hf]at hc;unfold Has at hc;rw[if_pos v8]at hc;rcases hc with hc|hc;refine(hc.2 w vs ds hwd ha ⟨rs,tN h hs hn,hn⟩).mono fun ex w' he=>?_;obtain⟨b9,iq,e1,e2,e3,e4,e5⟩:=he;have e5:ev T X n k ds=some iq:=e5;rw[hn,ah]at e5;subst e5;exact⟨b9,rs,e1,e2,e3,e4,hr⟩;obtain⟨b9,iq,e1,_,_,_⟩:=hc w vs ds ha ⟨rs,tN h hs hn,hn⟩;have:=(eI h5 h6 h7) w vs.toArray;rw[this]at e1;cases e1
end
section
variable{pre:List DV->Prop}{rel:List DV->List DV->Prop}{T:Nat->Option iU}{X:bY}{base:Nat}{f:FuncId}{id k:Nat}{E8:List DV->Prop}{G8:List DV->List DV->Prop}{args bM:List DE}
def ng(T:Nat->Option iU)(X:bY)(k:Nat)(pre:List DV->Prop)(rel:List DV->List DV->Prop):Prop:=∀ds,pre ds->∃rs,cX T X k ds rs/\rel ds rs
theorem ng.weaken(h:ng T X k pre rel)(hp:∀ds,E8 ds->pre ds)(hr:∀ds rs,E8 ds->rel ds rs->G8 ds rs):ng T X k E8 G8:=
 fun ds hd=>let⟨rs,h1,h2⟩:=h ds (hp ds hd);⟨rs,h1,hr ds rs hd h2⟩
theorem ng.and(h:ng T X k pre rel)(h':ng T X k E8 G8):ng T X k (fun ds=>pre ds/\E8 ds) (fun ds rs=>rel ds rs/\G8 ds rs):=
 fun ds hd=>by
   obtain⟨rs,h1,h2⟩:=h ds hd.1;obtain⟨fw,H7,Zh⟩:=h' ds hd.2;cases h1.Ut H7;exact⟨rs,h1,h2,Zh⟩
theorem mg{tr:aA}{sub:List (FuncId×Nat)}(hk:T k=some ⟨f,tr,sub⟩)
   (h:∀ds,pre ds->tr.ir (fun g=>cX T X ((iU.mk f tr sub).key g)) (rel ds) [] (a8.au 0 ds) (fun _ _=>False)):ng T X k pre rel:=fun ds hd=>Bf hk (h ds hd)
variable {E:Nat->List DV->List DV->Prop}{R:List DV->Prop}{Ps:List (Int->Prop)}{ae:aF}{F:Nat->List DV->Prop}{t t':aA}
theorem iV{p:BE}(h:p.af ae=true)(ht:t.ir E R Ps ae F):(aA.ev (.aH p) t).ir E R Ps ae F:=⟨h,ht⟩
theorem jl{op:ew}{M:List (List Int)}(e:op.af ae=M)(ht:t.ir E R Ps (ae.set id (.l M)) F):(aA.ev (.b8 id op) t).ir E R Ps ae F:=by subst e;exact ht
theorem jO{res:List VT}(hc:∀ds,pre ds->∃rs,E f ds rs/\rel ds rs)(hp:pre (args.map (DE.af ae)))
   (ht:∀rs,E f (args.map (DE.af ae)) rs->rel (args.map (DE.af ae)) rs->t.ir E R Ps (ae.au base rs) F):(aA.ev (.call f (.c true) args res base) t).ir E R Ps ae F:=
 ⟨fun _=>let⟨rs,h1,h2⟩:=hc _ hp;⟨rs,h1,ht rs h1 h2⟩,fun h=>by simp[BE.af]at h⟩
theorem Vj{g:BE}{res:List VT}(hc:∀ds,pre ds->∃rs,E f ds rs/\rel ds rs)(hp:g.af ae=true->pre (args.map (DE.af ae)))
   (ht:g.af ae=true->∀rs,E f (args.map (DE.af ae)) rs->rel (args.map (DE.af ae)) rs->t.ir E R Ps (ae.au base rs) F) (hn:g.af ae=false->t.ir E R Ps (ae.au base (defs (bP res))) F):(aA.ev (.call f g args res base) t).ir E R Ps ae F:=
 ⟨fun hg=>let⟨rs,h1,h2⟩:=hc _ (hp hg);⟨rs,h1,ht hg rs h1 h2⟩,hn⟩
theorem lU{c:BE}(h1:c.af ae=true->t.ir E R Ps ae F)(h2:c.af ae=false->t'.ir E R Ps ae F):(aA.ite c t t').ir E R Ps ae F:=⟨h1,h2⟩
theorem mh{entry:List DE}{ks:List CT}{body:aA}(inv:List DV->Prop)(qR:List DV->Nat)(h0:inv (entry.map (DE.af ae)))
   (hb:∀ds,inv ds->body.ir E R Ps (ae.au base ds) (kO F id (fun vs=>inv vs/\qR vs<qR ds))):(aA.loop id entry ks base body).ir E R Ps ae F:=⟨inv,qR,h0,hb⟩
theorem lA{G:List DV->Prop}(h:G (bM.map (DE.af ae))):(aA.again id bM).ir E R Ps ae (kO F id G):=by
 simpa[aA.ir,kO]using h
theorem XU(h:R (bM.map (DE.af ae))):(aA.ret bM).ir E R Ps ae F:=h
end
section
variable{base id:Nat}{args bM:List DE}{f:FuncId}
def aA.par(E:Nat->List DV->List DV->Prop)(R:List DV->Prop):aA->List (Int->Prop)->aF->(Nat->List DV->Prop)->Prop
 |.ret bM,_,ae,_=>R (bM.map (DE.af ae))
 |.stuck _,_,_,_=>True
 |.ev (.aH p) t,Ps,ae,F=>p.af ae=true->t.par E R Ps ae F
 |.ev (.call f g args res base) t,Ps,ae,F=>(g.af ae=true->∀rs,E f (args.map (DE.af ae)) rs->t.par E R Ps (ae.au base rs) F)/\(g.af ae=false->t.par E R Ps (ae.au base (defs (bP res))) F)
 |.ev (.b8 id op) t,Ps,ae,F=>t.par E R Ps (ae.set id (.l (op.af ae))) F
 |.ev (.dO _ _) _,_,_,_=>True
 |.ite c a b,Ps,ae,F=>(c.af ae=true->a.par E R Ps ae F)/\(c.af ae=false->b.par E R Ps ae F)
 |.loop id entry _ base body,Ps,ae,F=>∃inv:List DV->Prop,inv (entry.map (DE.af ae))/\∀ds,inv ds->body.par E R Ps (ae.au base ds) (kO F id inv)
 |.again id bM,_,ae,F=>F id (bM.map (DE.af ae))
 |.fail e,Ps,ae,_=>kJ Ps (e.af ae)
 |.gA x tp t,Ps,ae,F=>t.par E R ((fun n=>tp.par E R Ps (ae.set x (.i n)) F)::Ps) ae F
 |.pop t,Ps,ae,F=>t.par E R Ps.tail ae F
def X4(R:List DV->Prop):List (Int->Option (List DV))->List (Int->Prop)->Prop
 | [],_=>True
 |p::ps,q::qs=>(∀e,q e->∀r,p e=some r->R r)/\X4 R ps qs
 |_::_,[]=>False
theorem VB{C:bY}{N:Nat}{E:Nat->List DV->List DV->Prop}{R:List DV->Prop}(hC:∀f ds rs,C f ds=some rs->E f ds rs) :
   ∀ {t:aA} {Ps:List (Int->Option (List DV))} {Qs:List (Int->Prop)} {ae:aF} {F:tM} {G:Nat->List DV->Prop},X4 R Ps Qs->(∀j vs,G j vs->∀r,F j vs=some r->R r)->t.par E R Qs ae G->∀r,t.run C N Ps ae F=some r->R r:=by
 intro t;induction t with
 |ret bM=>intro Ps Qs ae F G _ _ h r e;cases e;exact h
 |stuck s=>intro Ps Qs ae F G _ _ h r e;cases e
 | ev e t ih=>
   intro Ps Qs ae F G hP hF h r er;cases e with
   | aH p=>
     simp only[aA.run,Ev.run]at er;split at er;rename_i hp;exact ih hP hF (h hp) r er;cases er
   | call f g args res base=>
     simp only[aA.run,Ev.run]at er;split at er;rename_i hg;split at er;rename_i rs vn;exact ih hP hF (h.1 hg rs (hC _ _ _ vn)) r er;cases er;rename_i hg;exact ih hP hF (h.2 (by simpa using hg)) r er
   |b8 id op=>exact ih hP hF h r er
   |dO p e=>cases er
 | ite c a b fz fX=>
   intro Ps Qs ae F G hP hF h r er;simp only[aA.run]at er;split at er;rename_i hc;exact fz hP hF (h.1 hc) r er;rename_i hc;exact fX hP hF (h.2 (by simpa using hc)) r er
 | loop id es kd base body ih=>
   intro Ps Qs ae F G hP hF h r er;obtain⟨inv,h0,hb⟩:=h;simp only[aA.run]at er;have key:∀n ds,inv ds->∀r,iter (fun rec ds=>body.run C N Ps (ae.au base ds) (Ce F id rec)) n ds=some r->R r:=by
     intro n;induction n with
     |zero=>intro ds _ r e;cases e
     | succ n ZK=>
       intro ds hi r e;refine ih hP (fun j vs hj r hr=>?_) (hb ds hi) r e;unfold kO at hj;unfold Ce at hr;split at hj;rename_i e;rw[if_pos e]at hr;exact ZK vs hj r hr;rename_i e;rw[if_neg e]at hr;exact hF j vs hj r hr
   exact key N _ h0 r er
 |again id vs=>intro Ps Qs ae F G hP hF h r er;exact hF _ _ h r er
 | fail e=>
   intro Ps Qs ae F G hP hF h r er;cases Ps with
   |nil=>cases er
   | cons p ps=>cases Qs with
     |nil=>exact hP.elim
     |cons q qs=>exact hP.1 _ h r er
 | gA x tp t E6 ih=>
   intro Ps Qs ae F G hP hF h r er;exact ih (Ps:=_::Ps) (Qs:=_::Qs) ⟨fun e he r hr=>E6 hP hF he r hr,hP⟩ hF h r er
 | pop t ih=>
   intro Ps Qs ae F G hP hF h r er;cases Ps with
   |nil=>cases er
   | cons p ps=>cases Qs with
     |nil=>exact hP.elim
     |cons q qs=>exact ih hP.2 hF h r er
theorem bF{T:Nat->Option iU}{X:bY}{k:Nat}{e:iU}{ds rs:List DV}{R:List DV->Prop}(hk:T k=some e)(h:e.tree.par (fun g=>cX T X (e.key g)) R [] (a8.au 0 ds) (fun _ _=>True))(hg:cX T X k ds rs):R rs:=by
 obtain⟨n,hn⟩:=hg;cases n with
 |zero=>cases hn
 | succ n=>
   simp only[ev,hk]at hn;exact VB (E:=fun g=>cX T X (e.key g)) (Ps:=[]) (Qs:=[]) (G:=fun _ _=>True) (fun f ds rs hf=>⟨n,hf⟩) trivial (fun j vs _ r hr=>by cases hr) h rs hn
variable {E:Nat->List DV->List DV->Prop}{R:List DV->Prop}{Ps:List (Int->Prop)}{ae:aF}{F:Nat->List DV->Prop}{t t':aA}
theorem bA{p:BE}(ht:p.af ae=true->t.par E R Ps ae F):(aA.ev (.aH p) t).par E R Ps ae F:=ht
theorem oX{op:ew}(ht:t.par E R Ps (ae.set id (.l (op.af ae))) F):(aA.ev (.b8 id op) t).par E R Ps ae F:=ht
theorem aY{res:List VT}(ht:∀rs,E f (args.map (DE.af ae)) rs->t.par E R Ps (ae.au base rs) F):(aA.ev (.call f (.c true) args res base) t).par E R Ps ae F:=
 ⟨fun _=>ht,fun h=>by simp[BE.af]at h⟩
theorem sa{g:BE}{res:List VT}(ht:g.af ae=true->∀rs,E f (args.map (DE.af ae)) rs->t.par E R Ps (ae.au base rs) F)(hn:g.af ae=false->t.par E R Ps (ae.au base (defs (bP res))) F):(aA.ev (.call f g args res base) t).par E R Ps ae F:=⟨ht,hn⟩
theorem eT{c:BE}(h1:c.af ae=true->t.par E R Ps ae F)(h2:c.af ae=false->t'.par E R Ps ae F):(aA.ite c t t').par E R Ps ae F:=⟨h1,h2⟩
theorem nq{entry:List DE}{ks:List CT}{body:aA}(inv:List DV->Prop)(h0:inv (entry.map (DE.af ae)))
   (hb:∀ds,inv ds->body.par E R Ps (ae.au base ds) (kO F id inv)):(aA.loop id entry ks base body).par E R Ps ae F:=⟨inv,h0,hb⟩
theorem lC{G:List DV->Prop}(h:G (bM.map (DE.af ae))):(aA.again id bM).par E R Ps ae (kO F id G):=by
 simpa[aA.par,kO]using h
theorem cj(h:R (bM.map (DE.af ae))):(aA.ret bM).par E R Ps ae F:=h
end
end Go.Sx

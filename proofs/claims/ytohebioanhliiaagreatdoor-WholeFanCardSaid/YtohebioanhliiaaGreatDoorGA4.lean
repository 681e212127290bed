/- The symbolic executor: its soundness, and what a table of functions gives. -/
import Derived.Test.YtohebioanhliiaaGreatDoorGA3
set_option linter.unusedVariables false
set_option linter.unusedSimpArgs false
namespace Go.Sx
section
open Go.RowKit
variable {ae ak:aH}{ph aQ:Ph}{P:Program}
variable{st h:St}
theorem FL{w:World}{g:Nat}{v:Value}{T:TypeId}{z:Nat×Nat}(h:w.heap[g]?=some (.cells #[v] T z)):w.setCell ⟨g,0,none⟩ v=w:=by
 obtain⟨heap,tape,drawn,os,output⟩:=w;simp only[World.setCell];congr 1;apply Array.ext_getElem?;intro k;rw[Array.getElem?_modify];split;rename_i e;simp only at h e ⊢;subst e;rw[h];simp;rfl
theorem AB(w:World)(g j:Nat)(v:Value):w.grownBy (w.setCell ⟨g,j,none⟩ v) (some g):=
 ⟨rfl,rfl,rfl,by simp[World.setCell],fun k _ hk=>Below.heap_setCell _ _ _ _ (fun e=>hk (by rw[e]))⟩
theorem l8(hp:od (some h) st=true){b:iQ}(hb:b∈h.aY):b∈st.aY:=by
 simp only[od,ao,kG,aM]at hp;exact(eK (hp.1.1 b hb)).1
theorem NU(hp:od (some h) st=true){r:Row}(hr:r∈h.rows):r∈st.rows:=by
 simp only[od,ao,kG,aM]at hp;exact(aZ (hp.1.2 r hr)).1
theorem oq(hp:od (some h) st=true){r:ej}(hr:r∈h.a7):r∈st.a7:=by
 simp only[od,ao,kG,aM]at hp;simpa using hp.2 r hr
theorem HM{aR:kS}{w0 w2:World}{wz:St}{c:Int}{o:Obj}(hd:st.qd=[])(hnb:∀b∈st.aY,b.all st.has=true)(rn:∀r∈st.rows,r.all st.has=true)(hnn:∀r∈st.a7,r.all st.has=true)(hM:tX w0 ak aQ wz w2)(hp:od (some (fZ aR st)) wz=true)
   (Vz:aR.Hp.contains st.next=false) (bM:∀k,k<st.next+1->ae k=ak k) :
   tX w0 (ae.set (st.next+1) (.i c)) aQ (mu (fZ aR st) st.next (.v (st.next+1))) ((w2.alloc o).setCell ⟨aQ.r st.next,0,none⟩ (.int .i64 c)):=by
 have hh:=dG hd;rw[hh]at hnb rn hnn;have hgh:(⟨st.next,aR.qh,[.i .i64 (.c 0)]⟩:iQ)∈(fZ aR st).aY:=by
   simp only[fZ,qO,V3,jq,gC,true_or,true_and,Vz,Bool.not_false]
 have LD:=hM.mem.nJ _ (l8 hp hgh);have bq:∀b∈(fZ aR st).aY,b=⟨st.next,aR.qh,[.i .i64 (.c 0)]⟩\/(b∈st.aY/\b.id<st.next):=fun b hb=>by
   simp only[fZ,qO,V3,jq,gC]at hb;rcases hb.1 with h|h;exact .inl h;refine .inr ⟨h,?_⟩;have:=hnb b h;simp only[iQ.all,ao,bc,aM]at this;exact this.1
 have hO:(fZ aR st).rows=st.rows:=rfl;have jQ:∀k,bc st.next k=true->ak k=ae.set (st.next+1) (.i c) k:=fun k hk=>by
   simp only[bc,aM]at hk;rw[<- bM k (by omega),aH.set,if_neg (by omega)]
 have hA:bA (bc st.next) ak (ae.set (st.next+1) (.i c)) aQ aQ:=⟨jQ,fun _ _=>rfl,fun _ _=>rfl⟩;have PX:w2.grownBy (w2.alloc o) (some (aQ.r st.next)):=jm (World.grownBy_alloc w2 _ none);have hg:w2.grownBy ((w2.alloc o).setCell ⟨aQ.r st.next,0,none⟩ (.int .i64 c)) (some (aQ.r st.next)):=qc PX (AB _ _ _ _);have hrf:∀r∈st.rows,r.b9 (ae.set (st.next+1) (.i c)) aQ=r.b9 ak aQ/\r.g.af (ae.set (st.next+1) (.i c))=r.g.af ak/\r∈wz.rows:=fun r hr=>by
   have:=rn r hr;simp only[Row.all,ao]at this;refine⟨by unfold Row.b9;rw[<- jQ _ this.2.1],(BE.aq jQ this.2.2).symm,NU hp (by rw[hO];exact hr)⟩
 have BN:∀b'∈(mu (fZ aR st) st.next (.v (st.next+1))).aY,∃b∈(fZ aR st).aY,b'.id=b.id/\b∈wz.aY/\((b.id=st.next/\b' = {b with cells:=[.i .i64 (.v (st.next+1))] }/\b=⟨st.next,aR.qh,[.i .i64 (.c 0)]⟩)\/(b.id≠st.next/\b'=b/\b∈st.aY)):=fun b' nX=>by
   simp only[mu,jO]at nX;obtain⟨b,hb,rfl⟩:=nX;refine⟨b,hb,by split<;>rfl,l8 hp hb,?_⟩;rcases bq b hb with h|⟨h1,h2⟩;exact .inl ⟨by rw[h],by rw[if_pos (by rw[h])],h⟩;exact .inr ⟨by omega,by rw[if_neg (by omega)],h1⟩
 refine⟨⟨fun b' nX=>?_,fun b' nX b1' agF cV=>?_,fun r hr h1=>?_,fun b' nX r hr h1=>?_,fun r hr r' cY cV ho h1 h2 k hk dr=>?_⟩,?_,fun b' nX=>?_,fun r hr=>?_,?_⟩
 . obtain⟨b,hb,lW,wh,⟨h1,h2,h3⟩|⟨h1,h2,h3⟩⟩:=BN b' nX
   . subst h3;subst h2;refine⟨LD.1,?_⟩;have hx:(w2.alloc o).heap[aQ.r st.next]?=some (.cells #[.int .i64 0] aR.qh (0,0)):=by
       rw[Below.heap_alloc _ _ _ LD.lt];simpa[ai.af,IE.af]using LD.2
     simp only[World.setCell,Array.getElem?_modify,if_true,hx];simp[ai.af,IE.af,aH.set,DV.int]
   . subst h2;have VA:=hM.mem.nJ _ wh;have cV:aQ.r b'.id≠aQ.r st.next:=hM.mem.bb _ wh _ (l8 hp hgh) h1
     have h4:=VA.grown hg (fun e=>cV (by simpa using e));have cK:=hnb _ h3;simp only[iQ.all,ao]at cK;refine⟨h4.1,?_⟩;rw[h4.2,kH hA cK.2]
 obtain⟨b,hb,lW,wh,_⟩:=BN b' nX;obtain⟨b1,yL,agG,agH,_⟩:=BN b1' agF;rw[lW,agG]at cV ⊢;exact hM.mem.bb b wh b1 agH cV;have hr:r∈st.rows:=hr;obtain⟨e1,e2,e3⟩:=hrf r hr;have h4:=(hM.mem.row r e3 (by rw[<- e2];exact h1)).grown hg (fun k hk e=>hM.mem.br _ (l8 hp hgh) r e3 (by rw[<- e2];exact h1) (by rw[hk];exact e));have cK:=rn r hr;simp only[Row.all,ao]at cK;unfold gH at *;rw[<- jQ _ cK.2.1];exact h4;obtain⟨b,hb,lW,wh,_⟩:=BN b' nX;have hr:r∈st.rows:=hr;obtain⟨e1,e2,e3⟩:=hrf r hr;rw[lW,e1];exact hM.mem.br b wh r e3 (by rw[<- e2];exact h1);have hr:r∈st.rows:=hr;have cY:r'∈st.rows:=cY;obtain⟨e1,e2,e3⟩:=hrf r hr;obtain⟨f1,f2,f3⟩:=hrf r' cY;exact hM.mem.rr r e3 r' f3 cV ho (by rw[<- e2];exact h1) (by rw[<- f2];exact h2) k (by rw[<- e1];exact hk) (by rw[<- f1];exact dr)
 . refine(hM.below.alloc hM.below.size o).setCell (p:=⟨aQ.r st.next,0,none⟩) LD.1 _
 . have hn:(mu (fZ aR st) st.next (.v (st.next+1))).has=bc (st.next+im):=dG rfl;rw[hn];obtain⟨b,hb,lW,wh,⟨h1,h2,h3⟩|⟨h1,h2,h3⟩⟩:=BN b' nX;subst h3;subst h2;simp[iQ.all,bc,im,bt,ai.all,IE.all];subst h2;exact iQ.aG (da (tI _ _)) (hnb _ h3)
 . have hn:(mu (fZ aR st) st.next (.v (st.next+1))).has=bc (st.next+im):=dG rfl;rw[hn];exact Row.aG (da (tI _ _)) (rn _ hr)
 . have hn:=hM.nest;refine⟨fun k hk=>C6 (hn.lt k hk) hg.size,fun b' nX=>?_,fun r hr ho h1 k hk=>?_,fun n ga h1=>?_,fun n ga=>?_,fun n ga ho=>?_⟩;obtain⟨b,hb,lW,wh,_⟩:=BN b' nX;rw[lW];exact hn.bz b wh;have hr:r∈st.rows:=hr;obtain⟨e1,e2,e3⟩:=hrf r hr;exact hn.rz r e3 ho (by rw[<- e2];exact h1) k (by rw[<- e1];exact hk)
   . have ga:n∈st.a7:=ga;have cK:=hnn n ga;simp only[ej.all,ao]at cK;obtain⟨h2,h3⟩:=hn.rd n (oq hp ga) (by rw[BE.aq jQ cK.2.2];exact h1);refine⟨h2,?_⟩;have hgz:∀k,aQ.z k->some k≠some (aQ.r st.next):=fun k hk e=>by
       simp only[ah]at e;subst e;exact hn.bz _ (l8 hp hgh) hk
     unfold fG at *;rw[<- jQ _ cK.2.1];split;rename_i ho;rw[if_pos ho]at h3;exact h3.mY (fun k hk=>hg.block k (hn.lt k hk.1) (hgz k hk.1)) (fun _ h=>h) (fun k hk=>hg.block k (hn.pZ (oq hp ga) ho hk).2 (fun e=>by
       simp only[ah]at e;exact((hn.oz n (oq hp ga) ho).2 k hk).2.1 _ (l8 hp hgh) e.symm))
     rename_i ho;rw[if_neg ho]at h3;exact h3.mY (fun k hk=>hg.block k (hn.lt k hk) (hgz k hk)) (fun _ h=>h)
   . have Pb:(mu (fZ aR st) st.next (.v (st.next+1))).has=bc (st.next+im):=dG rfl;rw[Pb];exact ej.aG (da (tI _ _)) (hnn _ ga)
   have ga:n∈st.a7:=ga;obtain⟨f1,f2⟩:=hn.oz n (oq hp ga) ho;refine⟨f1,fun k hk=>?_⟩;obtain⟨g1,g2,g3,g4⟩:=f2 k hk;refine⟨g1,fun b' nX e=>?_,fun r hr h1 hf=>?_,fun n' po p9 cV=>g4 n' (oq hp po) p9 cV⟩;obtain⟨b,hb,lW,wh,_⟩:=BN b' nX;rw[lW]at e;exact g2 b wh e;have hr:r∈st.rows:=hr;obtain⟨e1,e2,e3⟩:=hrf r hr;exact g3 r e3 (by rw[<- e2];exact h1) (by rw[<- e1];exact hf)
end
section
open Go.RowKit
variable {ae ak:aH}{ph aQ:Ph}{P:Program}
def aak(P:Program)(aR:kS)(Γ:bX)(R:List DV->Prop)(w0:World)(L:List Nat)(ex:Ex):Prop:=
 ∀(h:Option St) (g:FuncId) (vs:List V1) (st:St) (kr:List V1->St->au) (ae:aH) (ph:Ph) (w:World) (F:Nat->List DV->Prop) (Ps:List (Int->Prop)) (NV:Ending->World->Prop),
   tX w0 ae ph st w->st.qd=[]->(∀p∈aR.no,p.1<st.next/\(ae p.1).int≠p.2)->dH st.has vs=true->(ex h g vs st kr).holds Γ R Ps ae F->
   (∀ak aQ a8 w' rv F',bA st.has ae ak ph aQ->(∀j∈L,F' j=F j)->tX w0 ak aQ a8 w'->a8.qd=[]->st.next<=a8.next->dH a8.has rv=true->(kr rv a8).holds Γ R Ps ak F'->NV (.returned (packed (rv.map (V1.af ak aQ)))) w')->
   (∀ak aQ a8 w' e,bA st.has ae ak ph aQ->tX w0 ak aQ a8 w'->od h a8=true->mT Ps e->NV (.panicked [fH aR.cZ e]) w')->
   (∀w args,(callFunc g args).run P w = .ok (.enter g args) w)/\Calls P g (vs.map (V1.af ae ph)).toArray w NV
end
section
open Go.RowKit
variable {ae ak:aH}{ph aQ:Ph}{P:Program}
variable{st:St}{s:aV}{v:Bool}{dst:Option Tmp}
theorem AN:(st.put dst s).qd=st.qd:=by cases dst<;>rfl
theorem xK:(st.put dst s).next=st.next:=by cases dst<;>rfl
theorem JQ{a8:St}(h1:st.qd=[])(h2:a8.qd=[])(h:st.next<=a8.next):∀k,st.has k=true->a8.has k=true:=by
 rw[dG h1,dG h2];exact da h
theorem aV.QB{p:BE}(hp:p.af ae=v)(s:aV):(s.know p v).af ae ph=s.af ae ph:=by
 unfold aV.know;split;rename_i x hx;split;rename_i he;subst he;simp only[aV.af,hx,SV.af,V1.af,ai.af,BE.af,hp];split;rename_i he;subst he;simp only[aV.af,hx,SV.af,V1.af,ai.af,BE.cz,BE.af,hp];rfl;rfl
theorem aV.QC{p:BE}{q:Nat->Bool}(h:s.all q=true):(s.know p v).all q=true:=by
 have hg:s.g.all q=true:=by
   simp only[aV.all,ao]at h;exact h.1
 unfold aV.know;split;split;simp[aV.all,SV.all,V1.all,ai.all,BE.all,hg];split;simp[aV.all,SV.all,V1.all,ai.all,BE.all,hg];exact h;exact h
theorem Sat.know{w0 w:World}{a:Act}{p:BE}(hs:Sat w0 ae ph st a w)(hp:p.af ae=v):Sat w0 ae ph (st.know p v) a w:=by
 have Ni:∀(t:Nat) (s:aV),(st.know p v).tmps[t]?=some (some s)->∃s0,st.tmps[t]?=some (some s0)/\s=s0.know p v:=fun t s ht=>by
   simp only[St.know,gL,bH]at ht;obtain⟨x,hx,ht⟩:=ht;obtain⟨s0,rfl,rfl⟩:=ht;exact⟨s0,hx,rfl⟩
 refine⟨⟨by rw[<- hs.tmps.1];simp[St.know],fun t s ht=>?_⟩,hs.mem,hs.below,hs.defers,⟨fun t s ht=>?_,hs.names.aY,hs.names.rows⟩,hs.nest.same (fun _ h=>h) rfl rfl rfl⟩;obtain⟨s0,h0,rfl⟩:=Ni t s ht;rw[aV.QB hp];exact hs.tmps.2 t s0 h0;obtain⟨s0,h0,rfl⟩:=Ni t s ht;exact aV.QC (hs.names.tmps t s0 h0)
section
variable {aR:kS}{Γ:bX}{R:List DV->Prop}{w0:World}{L:List Nat}{ex:Ex}{h:Option St}{ops:Array Oper}{Q:Exit->Act->World->Prop}{FM:St->au}{base:Nat}{e0:aH}{p0:Ph}{F0:Nat->List DV->Prop}{Ps:List (Int->Prop)}
theorem vM(hB:ke P aR)(jb:eN P Γ aR w0)(hex:aak P aR Γ R w0 L ex)(qM:∀p∈aR.no,p.1<base/\(e0 p.1).int≠p.2)
   (hK:∀ak aQ a8 a' w' F',bA (bc base) e0 ak p0 aQ->(∀j∈L,F' j=F0 j)->Sat w0 ak aQ a8 a' w'->a8.qd=[]->base<=a8.next->(FM a8).holds Γ R Ps ak F'->Q .normal a' w')
   (hP:∀ak aQ a8 (a':Act) w' e,bA (bc base) e0 ak p0 aQ->a'.defers=[]->tX w0 ak aQ a8 w'->od h a8=true->mT Ps e->Q (.panic [fH aR.cZ e]) a' w') :
   ∀ {l:List Oper} {st:St} {ae:aH} {ph:Ph} {a:Act} {w:World} {F:Nat->List DV->Prop},Sat w0 ae ph st a w->st.qd=[]->base<=st.next->bA (bc base) e0 ae p0 ph->(∀j∈L,F j=F0 j)->(kV P aR h ops ex l st FM).holds Γ R Ps ae F->wpList P ops Q l a w:=by
 intro l;induction l with
 | nil=>
   intro st ae ph a w F hs hd hb bM hF hh;exact hK ae ph st a w F bM hF hs hd hb hh
 | cons o l ih=>
   intro st ae ph a w F hs hd hb bM hF hh;simp only[kV]at hh;have qU:=dG hd;have Fu:∀p∈aR.no,p.1<st.next/\(ae p.1).int≠p.2:=fun p hp=>by
     obtain⟨h1,h2⟩:=qM p hp;exact⟨by omega,by rw[<- bM.e p.1 (by simp only[bc,aM];exact h1)];exact h2⟩
   have hup:∀ {ak aQ},bA st.has ae ak ph aQ->bA (bc base) e0 ak p0 aQ:=fun h=>mA bM (jc (by rw[<- qU];exact h) hb);split at hh;exact hh.elim
   . rename_i G hg;have adB:=jw hg hs.tmps;show Pm P ops Q o (wpList P ops Q l) a w;split at hh
     . split at hh
       . rename_i r qg;split at hh
         . rename_i du a8 oR;have he:=nA hh;obtain⟨rfl,rfl,hm⟩:=kZ oR;exact nw (Γ:=Γ.at (mT Ps)) (du:=r.1) (a8:=r.2) hs qg he jb fun FA D9 a1 w1 fc zO=>ih (fc.sat.close (a8:={r.2 with next:=tN st.next r.2,qd:=[] }) rfl rfl rfl rfl hm) rfl (kI hb (qT _ _).1) (hup fc.agree) hF zO
         exact hh.elim
       exact hh.elim
     . rename_i sp Lx;have no:(kV P aR h ops ex l (st.put o.dst kN) FM).holds Γ R Ps ae F->wpList P ops Q l (a.put o.dst undef) w:=fun hn=>
         ih (hs.put nW nV.symm) (by rw[AN];exact hd) (by rw[xK];exact hb) bM hF hn
       have yes:G.af ae=true->(Ln aR h ex st o.dst (fun a8=>kV P aR h ops ex l a8 FM) sp).holds Γ R Ps ae F->o.wp P a w (wpList P ops Q l) Q:=by
         intro hG hy;have vK:=zW (P:=P) hB hG hs.tmps Lx;cases sp with
         | inl g vs=>
           obtain⟨hv,cP⟩:=vK;obtain⟨mF,pz⟩:=hex h g vs st _ ae ph w F Ps (fun e w'=>match e with
             |.returned v=>wpList P ops Q l (a.put o.dst v) w'
             |.panicked c=>Q (.panic c) a w'
             | .outgrown=>LetsOut Q) hs.toM hd Fu hv hy (fun ak aQ a8 w' rv F' g1 g2 g3 g4 g5 g6 g7=>by
               refine ih (g3.back hs g1 (JQ hd g4 g5) ?_ uW.symm) g4 (kI hb g5) (hup g1) (fun j hj=>(g2 j hj).trans (hF j hj)) g7;have:=qQ (G:=.c true) (q:=a8.has) rfl g6;simpa[aV.all,BE.all]using this) (fun ak aQ a8 w' e g1 g2 g3 g4=>hP ak aQ a8 a w' e (hup g1) hs.defers g2 g3 g4)
           unfold Oper.wp;rw[cP mF w,Oper.upon_enter];refine Calls.mono pz fun e w' he=>?_;cases e<;>exact he
         | val x=>
           obtain⟨hx,cP⟩:=vK;unfold Oper.wp;rw[cP w,Oper.upon_value];exact ih (hs.put (s:=⟨.c true,.v x⟩) (v:=x.af ae ph) (by simp only[aV.all,BE.all,Bool.true_and];exact hx) (by simp[aV.af,BE.af,SV.af])) (by rw[AN];exact hd) (by rw[xK];exact hb) bM hF hy
         | aL ok e=>
           obtain⟨f,hf,he,jU,cP⟩:=vK;obtain⟨mF,hc⟩:=hB.aL f hf;unfold Oper.wp;rw[cP mF w,Oper.upon_enter];refine Calls.mono (hc (ok.af ae) (e.af ae) w) ?_;rintro en w' ⟨rfl,⟨jU,rfl⟩|⟨jU,rfl⟩⟩;exact ih (hs.put (s:=⟨.c true,.IY []⟩) (v:=.tuple #[]) rfl (by simp[aV.af,BE.af,SV.af])) (by rw[AN];exact hd) (by rw[xK];exact hb) bM hF (hy.1 jU);have h2:=hy.2 jU;unfold Yw at h2;split at h2;rename_i mE;simp only[ao]at mE;exact hP ae ph st a _ _ bM hs.defers hs.toM mE.1 h2;exact h2.elim
         | Nt g vs=>
           simp only[Ln]at hy;split at hy;exact hy.elim
           . rename_i Vz;have Vz:aR.Hp.contains st.next=false:=by simpa using Vz
             obtain⟨f,hf,hv,cP⟩:=vK;obtain⟨mF,hc⟩:=hB.yS f hf;obtain⟨_,fc⟩:=DX (dst:=none) (key:=st.next) (e:=aR.qh) (ls:=[.i .i64 (.c 0)]) (du:=[]) hs (by unfold qF;rw[if_pos (by simp[St.free,hd,bt,ai.all,IE.all])]);have hw1:(w.alloc (.cells (([ai.i .i64 (.c 0)]).map (ai.af ae ph)).toArray aR.qh))=w.alloc (.cells #[.int .i64 0] aR.qh):=by simp[ai.af,IE.af]
             rw[hw1]at fc;have hT:tX w0 ae (ph.qf st.next w.heap.size) (qO aR st) (w.alloc (.cells #[.int .i64 0] aR.qh)):=(fc.sat.close (a8:=qO aR st) rfl rfl rfl rfl (by
               intro k hk;have hn:(qO aR st).has=bc (st.next+im):=dG rfl;rw[hn];have hk:(st.bC st.next 1).has k=true:=hk;rw[yH,qU]at hk;simp only[bc,ig,ao,aM]at hk;have h64:im=512:=rfl;simp only[bc,aM];omega)).toM
             have htn:(qO aR st).has=bc (st.next+im):=dG rfl;have adC:bA st.has ae ae ph (ph.qf st.next w.heap.size):=fc.agree;have LF:∀ {ak aQ},bA (qO aR st).has ae ak (ph.qf st.next w.heap.size) aQ->bA st.has ae ak ph aQ:=fun g=>mA adC ⟨fun k hk=>g.e k (by rw[htn];rw[qU]at hk;exact da (tI _ _) k hk),fun k hk=>g.r k (by rw[htn];rw[qU]at hk;exact da (tI _ _) k hk),fun k hk=>g.v k (by rw[htn];rw[qU]at hk;exact da (tI _ _) k hk)⟩;have iG:∀ {ak aQ},bA (qO aR st).has ae ak (ph.qf st.next w.heap.size) aQ->aQ.r st.next=w.heap.size:=fun g=>by
               rw[<- g.r st.next (by rw[htn];simp[bc,im])];simp[Ph.qf]
             have hgh:(⟨st.next,aR.qh,[.i .i64 (.c 0)]⟩:iQ)∈(fZ aR st).aY:=by
               simp only[fZ,qO,V3,jq,gC,true_or,true_and,Vz,Bool.not_false]
             obtain⟨agI,pz⟩:=hex (some (fZ aR st)) g vs (qO aR st) _ ae (ph.qf st.next w.heap.size) (w.alloc (.cells #[.int .i64 0] aR.qh)) F _ (fun e w2=>w2.heap[w.heap.size]?=some (.cells #[.int .i64 0] aR.qh (0,0))/\((e = .returned (.tuple #[])/\(w2.heap[w.heap.size]?=some (.cells #[.int .i64 0] aR.qh (0,0))/\wpList P ops Q l (a.put o.dst (.int .i64 0)) w2))\/∃c,e = .panicked [fH aR.cZ c]/\∀ob,wpList P ops Q l (a.put o.dst (.int .i64 c)) ((w2.alloc ob).setCell ⟨w.heap.size,0,none⟩ (.int .i64 c)))) hT rfl (fun p hp=>⟨C6 (Fu p hp).1 (tI _ _),(Fu p hp).2⟩) (by rw[htn];rw[qU]at hv;exact(zE (da (tI _ _)) hv)) hy
               (fun ak aQ a8 w2 rv F' g1 g2 g3 g4 g5 g6 g7=>by
                 split at g7;rename_i mE;simp only[ao,aM]at mE;obtain⟨rfl,E9⟩:=mE;have lF:=(g3.mem.nJ _ (eK E9).1).2;simp only[iG g1,kD,rM,ai.af,IE.af]at lF;refine⟨lF,.inl ⟨rfl,lF,?_⟩⟩;simp only[au.holds]at g7;exact ih (g3.back hs (LF g1) (JQ hd g4 (kI (tI _ _) g5)) rfl rfl) g4 (kI hb (kI (tI _ _) g5)) (hup (LF g1)) (fun j hj=>(g2 j hj).trans (hF j hj)) g7;exact g7.elim)
               (fun ak aQ a8 w2 e g1 g2 g3 g4=>by
                 have lF:=(g2.mem.nJ _ (l8 g3 hgh)).2;simp only[iG g1,kD,rM,ai.af,IE.af]at lF;refine⟨lF,.inr ⟨e,rfl,fun ob=>?_⟩⟩;have hC:=HM (c:=e) (o:=ob) (ae:=ae) hd hs.names.aY hs.names.rows hs.nest.nm g2 g3 Vz (fun k hk=>g1.e k (by
                   have h64:im=512:=rfl;rw[htn];simp only[bc,aM];omega))
                 rw[iG g1]at hC;have ny:bA st.has ae (ae.set (st.next+1) (.i e)) ph aQ:=by
                   refine⟨fun k hk=>?_,(LF g1).r,(LF g1).v⟩;rw[qU]at hk;simp only[bc,aM]at hk;rw[aH.set,if_neg (by omega)]
                 refine ih (hC.back hs ny (JQ hd rfl (tI _ _)) (by
                   have hn:(mu (fZ aR st) st.next (.v (st.next+1))).has=bc (st.next+im):=dG rfl;rw[hn];simp[SV.all,V1.all,ai.all,IE.all,bc,im]) (by simp[SV.af,V1.af,ai.af,IE.af,aH.set,DV.int])) rfl (kI hb (tI _ _)) (hup ny) hF g4)
             rw[<- DM adC hv]at pz;unfold Oper.wp;rw[cP mF w,Oper.upon_enter];refine Calls.mono (hc g _ w _ _ (fun w=>agI w _) pz) ?_;rintro en w' ⟨w2,⟨rfl,⟨YF,hw⟩,rfl⟩|⟨c,rfl,hw,rfl⟩⟩;simp only;rw[FL YF];exact hw;exact hw _
       unfold Pm;rw[adB];split at hh;simp only[BE.af,if_true];exact .inl (yes rfl hh);simp only[BE.af,jG,if_false];exact no hh;rename_i G' _ _;cases hG:G.af ae;simp only[jG,if_false];exact ih (((hs.know hG)).put nW nV.symm) (by rw[AN];exact hd) (by rw[xK];exact hb) bM hF (hh.2 hG);simp only[if_true];exact .inl (yes hG (hh.1 hG))
end
end
section
open Go.RowKit
variable {ae ak:aH}{ph aQ:Ph}{P:Program}
theorem Wn{w0 wR w:World}{cq st:St}{eS:aH}{pS:Ph}{W:List Nat}{aS a:Act}(DZ:Sat w0 eS pS cq aS wR)(hs:Sat w0 ae ph st a w)(bM:bA cq.has eS ae pS ph)(hk:Js cq W st=true):Kept cq eS pS W wR w:=by
 simp only[Js,ao,kG,ig,aM]at hk;refine⟨fun b hb hw=>?_,fun r hr hw=>?_⟩;have DN:=(eK ((hk.1 b hb).resolve_left (by rw[hw];simp))).1;have h1:=(DZ.mem.nJ b hb).2;have h2:=(hs.mem.nJ b DN).2;have hn:=DZ.names.aY b hb;simp only[iQ.all,ao]at hn;rw[<- bM.r _ hn.1,<- kH bM hn.2]at h2;rw[h1,h2];exact absurd (hk.2 r hr) (by rw[hw];simp)
section
variable {aR:kS}{Γ:bX}{R:List DV->Prop}{w0:World}{L:List Nat}{ex:Ex}{h:Option St}{ops:Array Oper}{Q:Exit->Act->World->Prop}{FM:St->au}{F0:Nat->List DV->Prop}{Ps:List (Int->Prop)}
theorem JR{m n:Nat}(h:m<n):(qj m n).toArray.setIfInBounds m true=(qj (m+1) n).toArray:=by
 apply kM;rw[Array.toList_setIfInBounds];simp only[qj];apply List.ext_getElem?;intro j;rw[List.getElem?_set];simp only[List.getElem?_append,ff,List.length_replicate,Ha];grind
theorem Dy(hB:ke P aR)(jb:eN P Γ aR w0)(hex:aak P aR Γ R w0 L ex){cq:St}{eS:aH}(qM:∀p∈aR.no,p.1<cq.next/\(eS p.1).int≠p.2){pS:Ph}{W:List Nat}{wR:World}{aS:Act}(DZ:Sat w0 eS pS cq aS wR)(CV:cq.qd=[])(JF:Region.noSelect ops=true)(JI:qi ops=true)(hQ:∀c a d v w,Q (.panic c) (a.put d v) w->Q (.panic c) a w)
   (hK:∀ak aQ a8 a' w' F',bA (bc cq.next) eS ak pS aQ->(∀j∈L,F' j=F0 j)->Sat w0 ak aQ a8 a' w'->a8.qd=[]->cq.next<=a8.next->(FM a8).holds Γ R Ps ak F'->Q .normal a' w')
   (hP:∀ak aQ a8 (a':Act) w' e,bA (bc cq.next) eS ak pS aQ->a'.defers=[]->tX w0 ak aQ a8 w'->od h a8=true->mT Ps e->Q (.panic [fH aR.cZ e]) a' w') :
   ∀ {ps:List Nat} {lo:Nat} {st:St} {ae:aH} {ph:Ph} {a:Act} {w:World} {F:Nat->List DV->Prop},Sat w0 ae ph st a w->st.qd=[]->cq.next<=st.next->bA (bc cq.next) eS ae pS ph->(∀j∈L,F j=F0 j)->Kept cq eS pS W wR w->
     (xD P aR h ops ex cq W ps lo st FM).holds Γ R Ps ae F->iN P .any ops Q (jF cq eS pS ⟨[],some W⟩ wR) (ops.size-lo) (qj lo ops.size).toArray a w:=by
 have Ee:=dG CV;have NW:mM {aR with fc:=h} (Γ.at (mT Ps)) w0 cq.has eS pS Q:=fun ak aQ a8 a' w' e g1 g2 g3 g4 g5=>hP ak aQ a8 a' w' e (by rw[<- Ee];exact g1) g2 g3 g4 g5;have Vy:ke P {aR with fc:=h}:=⟨hB.aL,hB.Au,hB.yS⟩;have adD:eN P (Γ.at (mT Ps)) {aR with fc:=h} w0:=jb;intro ps;induction ps with
 | nil=>
   intro lo st ae ph a w F hs hd hb bM hF hk hh;have qU:=dG hd;have uO:∀k,cq.has k=true->st.has k=true:=by rw[Ee,qU];exact da hb
   simp only[xD]at hh;split at hh
   . rename_i du a8 hr;simp only[AK]at hr;split at hr
     . rename_i tm;simp only[ao,aM]at tm;obtain⟨aal,tm⟩:=tm;split at hr
       . rename_i r T aam;obtain⟨rfl,rfl,bQ⟩:=kZ hr;have:=(mf (aR:={aR with fc:=h}) (fin:=none) (k:=fun ak=>(FM {r.2 with next:=tN st.next r.2,qd:=[] }).holds Γ R Ps ak F) (G:=Q .normal) (t:=0) (I:=fun _ _ _=>True) (FF Vy adD NW) (fun {_ _ _ _ _} _=>trivial) (fun f c hf=>(jb.1 f c hf).2) JF JI HD DZ.names hQ ⟨rfl,fun _ _ h=>h⟩ (fun n m st r h=>by simp at h) aam).2 _ _ _ _ (xI JI aal) hs (by rw[Ee];exact bM) uO hk trivial (nA hh)
           (fun ak aQ a' w' j4 jQ hm _ dr=>hK ak aQ {r.2 with next:=tN st.next r.2,qd:=[] } a' w' F (mA bM (jc (by rw[<- qU];exact jQ) hb)) hF (j4.close rfl rfl rfl rfl bQ) rfl (kI hb (qT _ _).1) dr)
         rw[gK,u4 tm]at this;exact this
       cases hr
     cases hr
   exact hh.elim
 | cons p ps ih=>
   intro lo st ae ph a w F hs hd hb bM hF hk hh;have qU:=dG hd;have uO:∀k,cq.has k=true->st.has k=true:=by rw[Ee,qU];exact da hb
   simp only[xD]at hh;split at hh
   . rename_i du a8 hr;simp only[AK]at hr;split at hr
     . rename_i hc;simp only[ao,aM]at hc;obtain⟨⟨⟨aal,hp⟩,tm⟩,CS⟩:=hc;rw[HA JI,u4 (by omega)]at CS;split at hr
       . rename_i r T aam;obtain⟨rfl,rfl,bQ⟩:=kZ hr;have he:=nA hh;have hlen:ops.size-lo=(ops.size-p)+(p-lo):=by omega
         rw[hlen,<- u4 (show lo<=ops.size by omega)];refine(mf (aR:={aR with fc:=h}) (fin:=some (Nat.pow 2 p-1)) (G:=fun a' w'=>iN P .any ops Q (jF cq eS pS ⟨[],some W⟩ wR) (ops.size-p) (qj p ops.size).toArray a' w') (t:=ops.size-p) (I:=fun _ _ _=>True) (FF Vy adD NW) (fun {_ _ _ _ _} _=>trivial) (fun f c hf=>(jb.1 f c hf).2) JF JI HD DZ.names hQ (fun a' w' hG=>?_) (fun n m st r h=>by simp at h) aam).2 _ _ _ _ (xI JI aal) hs (by rw[Ee];exact bM) uO hk trivial he
           (fun ak aQ a' w' j4 jQ hm _ dr=>?_)
         rw[u4 (by omega)];exact hG
         ·
           split at dr
           . rename_i o ho;have NQ:=j4.close (a8:={r.2 with next:=tN st.next r.2,qd:=[] }) rfl rfl rfl rfl bQ;have ny:=mA bM (jc (n:=cq.next) (by rw[<- qU];exact jQ) hb);have qg:=vM (Q:=fun e a2 w2=>match e with| .normal=>Kept cq eS pS W wR w2/\iN P .any ops Q (jF cq eS pS ⟨[],some W⟩ wR) (ops.size-(p+1)) (qj (p+1) ops.size).toArray a2 w2|e=>Q e a2 w2) (base:=cq.next) (e0:=eS) (p0:=pS) (F0:=F0) (Ps:=Ps) hB jb hex qM
               (fun jx Po wz a2 w2 F2 g1 g2 g3 g4 g5 g6=>by
                 split at g6;rename_i hkb;have VU:=Wn DZ g3 (by rw[Ee];exact g1) hkb;exact⟨VU,ih g3 g4 g5 g1 g2 VU g6⟩;exact g6.elim) (fun jx Po wz a2 w2 e g1 g2 g3 g4 g5=>hP jx Po wz a2 w2 e g1 g2 g3 g4 g5) (l:=[o]) NQ rfl (kI hb (qT _ _).1) ny hF dr
             have e1:ops.size-p=(ops.size-(p+1))+1:=by omega
             rw[e1];refine BG CS (by simp) fun i hi=>?_;obtain rfl:i=p:=by simpa using hi
             unfold wpOp;simp only[ho];rw[JR hp];exact qg
           exact dr.elim
       cases hr
     cases hr
   exact hh.elim
end
end
section
open Go.RowKit
variable {ae ak:aH}{ph aQ:Ph}{P:Program}
variable{fn:Func}{w:World}{Γ:bX}{w0:World}{F:Nat->List DV->Prop}{Ps:List (Int->Prop)}{R:List DV->Prop}{f:FuncId}{st:St}{c:Code}{ds:List DV}{gi:List Value}{sg:bW}{vs:List V1}
theorem FN{aR:kS}{ops:Array Oper}{a8:St}{du:List Ev}(h:xC P aR ops st=some (du,a8)):a8.qd=[]/\st.next<=a8.next:=by
 unfold xC at h;split at h;split at h;split at h;obtain⟨_,rfl,_⟩:=kZ h;exact⟨rfl,(qT _ _).1⟩;cases h;cases h;cases h
theorem NY{no:List (Nat×Int)}{p:BE}(h:P' no p=true)(qM:∀q∈no,(ae q.1).int≠q.2):p.af ae=false:=by
 unfold P' at h;split at h;rename_i k n;have:=qM (k,n) (by simpa using h);exact decide_eq_false this;cases h
theorem Dz{go:St->au}{a:Act}{X:Prop}:∀ {ps:List (Nat×Nat×Nat)} {st:St},Sat w0 ae ph st a w->(Fj go ps st).holds Γ R Ps ae F->
   (∀kT:St,Sat w0 ae ph kT a w->kT.qd=st.qd->kT.next=st.next->(go kT).holds Γ R Ps ae F->X)->X:=by
 intro ps;induction ps with
 |nil=>intro st hs h hX;exact hX st hs rfl rfl h
 | cons p ps ih=>
   intro st hs h hX;obtain⟨r,x,m⟩:=p;obtain⟨v,hv,h⟩:=FK h;exact ih (hs.fix hv) h (fun kT h1 h2 h3 h4=>hX kT h1 h2 h3 h4)
section
variable {aR:kS}{Γ:bX}{R:List DV->Prop}{w0:World}
theorem JS(hB:ke P aR)(jb:eN P Γ aR w0):∀ {n:Nat} {h:Option St} {L:List Nat} {f:FuncId} {fn:Func} {k:List K} {st:St} {kr:List V1->St->au} {ae:aH} {ph:Ph} {a:Act} {w:World} {F:Nat->List DV->Prop} {Ps:List (Int->Prop)}
   {E:Act->World->Prop} {EP:Int->World->Prop} {b:Frame} {cs:List Frame} {base:Nat} {e0:aH} {p0:Ph} {F0:Nat->List DV->Prop},
   (∀p∈aR.no,p.1<base/\(e0 p.1).int≠p.2)->Sat w0 ae ph st a w->st.qd=[]->base<=st.next->bA (bc base) e0 ae p0 ph->(∀j∈L,F j=F0 j)->HK P aR.cZ b cs w0 E EP F ae ph st.next k->
   (∀ak aQ a8 a' w' rv F',bA (bc base) e0 ak p0 aQ->(∀j∈L,F' j=F0 j)->Sat w0 ak aQ a8 a' w'->a8.qd=[]->base<=a8.next->tL P a8 fn.results.toList=some rv->dH a8.has rv=true->(kr rv a8).holds Γ R Ps ak F'->E a' w')->
   (∀ak aQ a8 w' e,bA (bc base) e0 ak p0 aQ->tX w0 ak aQ a8 w'->od h a8=true->mT Ps e->EP e w')->
   (exec P aR n h L f fn k st kr).holds Γ R Ps ae F->Reach P aR.cZ b cs E EP (lone (b.at a (dg k)) cs w):=by
 intro n;induction n with
 |zero=>intro h L f fn k st kr ae ph a w F Ps E EP b cs base e0 p0 F0 qM hs hd hb bM hF hk hR hP hh;exact hh.elim
 | succ n ih=>
   intro h L f fn k st kr ae ph a w F Ps E EP b cs base e0 p0 F0 qM hs hd hb bM hF hk hR hP hh;have Fu:∀p∈aR.no,p.1<st.next/\(ae p.1).int≠p.2:=fun p hp=>by
     obtain⟨h1,h2⟩:=qM p hp;exact⟨by omega,by rw[<- bM.e p.1 (by simp only[bc,aM];exact h1)];exact h2⟩
   have Fz:(V5 P fn st kr).holds Γ R Ps ae F->E a w:=fun hh=>by
     unfold V5 at hh;split at hh;rename_i vs mo;split at hh;rename_i cK;exact hR ae ph st a w vs F bM hF hs hd hb mo cK hh;exact hh.elim;exact hh.elim
   cases k with
   | nil=>
     simp only[exec]at hh;exact⟨a,w,[],.inl ⟨Fz hh,.one step_end⟩⟩
   | cons x k=>
     cases x with
     | nJ id=>
       simp only[exec]at hh;exact Reach.step step_inBlock (ih qM hs hd hb bM hF hk hR hP hh)
     | loop c=>
       simp only[exec]at hh;exact Reach.step step_inLoop (ih (k:=.code c :: .loop c::k) qM hs hd hb bM hF hk hR hP hh)
     | Ax c id ja hd' ks=>
       simp only[exec]at hh;split at hh;rename_i bP YF;obtain⟨⟨h1,e1,p1,h2,h3⟩,_⟩:=hk;exact h3 ae ph st a w bP h2 hs YF hh;exact hh.elim
     | code c=>
       cases c with
       | skip=>
         simp only[exec]at hh;exact Reach.step step_skip (ih qM hs hd hb bM hF hk hR hP hh)
       | label l=>
         simp only[exec]at hh;exact Reach.step step_label (ih qM hs hd hb bM hF hk hR hP hh)
       | seq x y=>
         simp only[exec]at hh;exact Reach.step step_seq (ih (k:=.code x :: .code y::k) qM hs hd hb bM hF hk hR hP hh)
       | cond x y z=>
         simp only[exec]at hh;split at hh;rename_i hl;have:=aC hl cn hs.tmps;exact Reach.step (step_cond (t:=true) (by rw[this];rfl)) (ih (k:=.code y::k) qM hs hd hb bM hF hk hR hP hh);rename_i hl;have:=aC hl cn hs.tmps;exact Reach.step (step_cond (t:=false) (by rw[this];rfl)) (ih (k:=.code z::k) qM hs hd hb bM hF hk hR hP hh);rename_i p _ _ hl;have:=aC hl cn hs.tmps;simp only[ai.af]at this;split at hh;rename_i cV;have hp:=NY cV (fun q hq=>(Fu q hq).2);exact Reach.step (step_cond (t:=false) (by rw[this,hp])) (ih (k:=.code z::k) qM hs hd hb bM hF hk hR hP hh);obtain⟨h1,h2⟩:=hh;cases hp:p.af ae;exact Reach.step (step_cond (t:=false) (by rw[this,hp])) (ih (k:=.code z::k) qM hs hd hb bM hF hk hR hP (h2 hp));exact Reach.step (step_cond (t:=true) (by rw[this,hp])) (ih (k:=.code y::k) qM hs hd hb bM hF hk hR hP (h1 hp));exact hh.elim
       | block id c=>
         simp only[exec]at hh;exact Reach.step step_block (ih (k:=.code c :: .nJ id::k) qM hs hd hb bM hF hk hR hP hh)
       | exit id=>
         simp only[exec]at hh;split at hh
         . rename_i k' hp;obtain⟨h1,h2⟩:=JP (P:=P) (T:=aR.cZ) (b:=b) (cs:=cs) (w0:=w0) (E:=E) (EP:=EP) (F:=F) (ae:=ae) (ph:=ph) (next:=st.next) hp;exact Reach.step (step_exit h1) (ih qM hs hd hb bM hF (h2 hk) hR hP hh)
         exact hh.elim
       | ret=>
         simp only[exec]at hh;exact⟨a,w,_,.inl ⟨Fz hh,.one step_ret⟩⟩
       | region id ops draw=>
         simp only[exec]at hh;have hex:aak P aR Γ R w0 (L++oh k) (V6 P (fun h' g Pg c a8 kr'=>exec P aR n h' (L++oh k) g Pg [.code c] a8 kr')):=by
           intro h' g vs a8 kr' FA D9 w1 F1 Ps1 NV hM AL aan hv YG hKR hKP;unfold V6 at YG;split at YG
           . rename_i Pg mF;split at YG
             . rename_i c Ef;split at YG;exact YG.elim
               . rename_i JJ;have JJ:(Pg.name == "runtime.NumGoroutine")=false:=by simpa using JJ
                 refine⟨dT mF Ef JJ,fun Qu=>?_⟩;have qU:=dG AL;obtain⟨a',w',todo,BB⟩:=ih (b:={fn:=g,tmps:=#[],todo:=[],defers:=[],mode:=.run,kind:=.normal}) (cs:=Qu) (k:=[.code c]) (base:=a8.next) (e0:=FA) (p0:=D9) (F0:=F1)
                   (E:=fun a' w'=>a'.defers=[]/\∃v,(results Pg a'.tmps).run P w' = .ok v w'/\NV (.returned v) w') (EP:=fun e w'=>NV (.panicked [fH aR.cZ e]) w')
                   aan (D' (fn:=Pg) hM hv) AL (fz _) cQ (fun _ _=>rfl) trivial
                   (fun ak aQ wz a2 w2 rv F' g1 g2 g3 g4 g5 g6 g7 g8=>⟨g3.defers,_,ky g3 g6,hKR ak aQ wz w2 rv F' (by rw[qU];exact g1) g2 g3.toM g4 g5 g7 g8⟩)
                   (fun ak aQ wz w2 e g1 g2 g3 g4=>hKP ak aQ wz w2 e (by rw[qU];exact g1) g2 g3 g4) YG
                 have QD:Frame.enter P g (vs.map (V1.af FA D9)).toArray .normal=Frame.at {fn:=g,tmps:=#[],todo:=[],defers:=[],mode:=.run,kind:=.normal} ⟨(vs.map (V1.af FA D9)).toArray++Array.replicate (Pg.ntmps-(vs.map (V1.af FA D9)).length) undef,[]⟩ (dg [.code c]):=by
                   simp[Frame.enter,Frame.at,mF,Ef,dg]
                 rcases BB with⟨⟨Wo,v,vx,HN⟩,fc⟩|⟨e,Wo,HN,fc⟩;refine⟨.returned v,w',{Frame.at {fn:=g,tmps:=#[],todo:=[],defers:=[],mode:=.run,kind:=.normal} a' todo with mode:=.returning},HN,?_,rfl,⟨rfl,Wo,rfl,Pg,mF,vx⟩⟩;show Steps P (lone (Frame.enter P g _ .normal) Qu w1) _;rw[QD];exact fc;refine⟨.panicked [fH aR.cZ e],w',{Frame.at {fn:=g,tmps:=#[],todo:=[],defers:=[],mode:=.run,kind:=.normal} a' todo with mode:=.panicking [fH aR.cZ e] },HN,?_,rfl,⟨rfl,Wo,Pg,mF⟩⟩;show Steps P (lone (Frame.enter P g _ .normal) Qu w1) _;rw[QD];exact fc
             exact YG.elim
           exact YG.elim
         have go:∀kT:St,Sat w0 ae ph kT a w->kT.qd=[]->kT.next=st.next->(Fm P aR h ops draw ((aR.Yt.find? fun p=>p.1==gid f id).map (·.2)) (V6 P (fun h' g Pg c a8 kr'=>exec P aR n h' (L++oh k) g Pg [.code c] a8 kr')) kT (fun a8=>exec P aR n h L f fn k a8 kr)).holds Γ R Ps ae F->Reach P aR.cZ b cs E EP (lone (b.at a (dg (.code (.region id ops draw)::k))) cs w):=by
           intro kT G1 AL hnx VB;have YH:=dG AL;have QE:∀ak aQ a8 a' w' F',bA (bc kT.next) ae ak ph aQ->(∀j∈L++oh k,F' j=F j)->Sat w0 ak aQ a8 a' w'->a8.qd=[]->kT.next<=a8.next->(exec P aR n h L f fn k a8 kr).holds Γ R Ps ak F'->Reach P aR.cZ b cs E EP (lone (b.at a' (dg k)) cs w'):=by
             intro ak aQ a8 a' w' F' g1 g2 g3 g4 g5 g6;rw[hnx]at g1 g5;exact ih qM g3 g4 (kI hb g5) (mA bM (jc g1 hb)) (fun j hj=>(g2 j (Bh _ hj)).trans (hF j hj)) (HK.mono g1 g5 (HK.QA (fun j hj=>g2 j (Fb _ hj)) hk)) hR hP g6
           have NW:∀ak aQ a8 (a':Act) w' e,bA (bc kT.next) ae ak ph aQ->a'.defers=[]->tX w0 ak aQ a8 w'->od h a8=true->mT Ps e->EP e w':=by
             intro ak aQ a8 a' w' e g1 _ g3 g4 g5;rw[hnx]at g1;exact hP ak aQ a8 w' e (mA bM (jc g1 hb)) g3 g4 g5
           have hwp:(Code.region id ops draw).wp P (fun e a' w'=>(e = .normal/\Reach P aR.cZ b cs E EP (lone (b.at a' (dg k)) cs w'))\/(∃c,e = .panic [fH aR.cZ c]/\a'.defers=[]/\EP c w')) a w:=by
             have hQ:∀(c:List PanicEntry) (a':Act) (d:Option Tmp) (v:Value) (w':World),((Exit.panic c = .normal/\Reach P aR.cZ b cs E EP (lone (b.at (a'.put d v) (dg k)) cs w'))\/(∃c',Exit.panic c = .panic [fH aR.cZ c']/\(a'.put d v).defers=[]/\EP c' w'))->
                 ((Exit.panic c = .normal/\Reach P aR.cZ b cs E EP (lone (b.at a' (dg k)) cs w'))\/(∃c',Exit.panic c = .panic [fH aR.cZ c']/\a'.defers=[]/\EP c' w')):=by
               intro c a' d v w' hq;rcases hq with⟨h1,_⟩|⟨c',h1,h2,h3⟩;cases h1;exact .inr ⟨c',h1,by rw[cS]at h2;exact h2,h3⟩
             unfold Fm at VB;split at VB;rename_i Vz;subst Vz;split at VB;rename_i ps kb _;split at VB;rename_i mE;simp only[ao]at mE;refine tV (S:=jF kT ae ph ⟨[],some ((Jr kT).filter fun i=>!kb.contains i)⟩ {w with drawn:=w.drawn+1}) mE.1.2 ?_;have:=Dy (Q:=fun e a' w'=>(e = .normal/\Reach P aR.cZ b cs E EP (lone (b.at a' (dg k)) cs w'))\/(∃c,e = .panic [fH aR.cZ c]/\a'.defers=[]/\EP c w')) (F0:=F) (FM:=fun a8=>exec P aR n h L f fn k a8 kr) (W:=(Jr kT).filter fun i=>!kb.contains i) (ops:=ops) (h:=h) (Ps:=Ps) hB jb hex (fun p hp=>by rw[hnx];exact Fu p hp) G1.drew AL mE.1.1 mE.2 hQ (fun ak aQ a8 a' w' F' g1 g2 g3 g4 g5 g6=>.inl ⟨rfl,QE ak aQ a8 a' w' F' g1 g2 g3 g4 g5 g6⟩)
               (fun ak aQ a8 a' w' e g1 g2 g3 g4 g5=>.inr ⟨e,rfl,g2,NW ak aQ a8 a' w' e g1 g2 g3 g4 g5⟩) G1.drew AL (fz _) cQ (fun _ _=>rfl) ⟨fun _ _ _=>rfl,fun _ _ _ _ _ _=>rfl⟩ VB
             simpa[qj]using this;exact VB.elim;split at VB;rename_i du a8 hr;obtain⟨ga,hn2⟩:=FN hr;exact Dr (aR:={aR with fc:=h}) (Γ:=Γ.at (mT Ps)) (Q:=fun e a' w'=>(e = .normal/\Reach P aR.cZ b cs E EP (lone (b.at a' (dg k)) cs w'))\/(∃c,e = .panic [fH aR.cZ c]/\a'.defers=[]/\EP c w')) ⟨hB.aL,hB.Au,hB.yS⟩ (fun ak aQ a8 a' w' e g1 g2 g3 g4 g5=>.inr ⟨e,rfl,g2,NW ak aQ a8 a' w' e (by rw[<- YH];exact g1) g2 g3 g4 g5⟩) jb G1 hQ hr (nA VB) (fun ak aQ a' w' g1 g2 g3=>.inl ⟨rfl,QE ak aQ a8 a' w' F (by rw[<- YH];exact g2) (fun _ _=>rfl) g1 ga hn2 g3⟩);exact VB.elim
             . rename_i Vz;have:draw=false:=by simpa using Vz
               subst this;exact wp_region_list (vM (Q:=fun e a' w'=>(e = .normal/\Reach P aR.cZ b cs E EP (lone (b.at a' (dg k)) cs w'))\/(∃c,e = .panic [fH aR.cZ c]/\a'.defers=[]/\EP c w')) (base:=kT.next) (e0:=ae) (p0:=ph) (F0:=F) hB jb hex (fun p hp=>by rw[hnx];exact Fu p hp)
                 (fun ak aQ a8 a' w' F' g1 g2 g3 g4 g5 g6=>.inl ⟨rfl,QE ak aQ a8 a' w' F' g1 g2 g3 g4 g5 g6⟩) (fun ak aQ a8 a' w' e g1 g2 g3 g4 g5=>.inr ⟨e,rfl,g2,NW ak aQ a8 a' w' e g1 g2 g3 g4 g5⟩) G1 AL (fz _) cQ (fun _ _=>rfl) VB)
           obtain⟨e,a',w',hq,M8⟩:=hwp b (dg k) cs;rcases hq with⟨rfl,hG⟩|⟨c,rfl,Wo,hep⟩;exact Reach.steps M8 hG;obtain⟨todo,fc⟩:=M8;exact⟨a',w',todo,.inr ⟨c,Wo,hep,fc⟩⟩
         exact Dz hs hh fun kT h1 h2 h3 h4=>go kT h1 (h2.trans hd) h3 h4
       | loop c=>
         simp only[exec]at hh;split at hh;exact Reach.step step_loop (ih (k:=.code c :: .loop c::k) qM hs hd hb bM hF hk hR hP hh)
         . rename_i i hint hf;split at hh
           . rename_i CV hm;split at hh;exact hh.elim
             . rename_i hnl;simp only[ig,not_or,Bool.not_eq_true]at hnl;obtain⟨hnl,hnL⟩:=hnl;have hnL:∀j∈L,j≠i:=fun j hj e=>by
                 subst e;simp[hj]at hnL
               obtain⟨inv,oW,vX,Ef⟩:=hh;obtain⟨g1,g2,g3,kE,g5,g4⟩:=FH hs hd hm;have rounds:∀N ds (a:Act) (w:World) (aQ:Ph),oW ds=N->inv ds->kinds CV.ks ds=true->bA (bc st.next) ae (ae.aB st.next ds) ph aQ->Sat w0 (ae.aB st.next ds) aQ CV.st a w->Reach P aR.cZ b cs E EP (lone (b.at a (.code c :: .inLoop c::dg k)) cs w):=by
                 intro N;induction N using Nat.strongRecOn with
                 | _ N ihN=>
                   intro ds a w aQ hN hi hkd jQ j4;refine ih (k:=.code c :: .Ax c i st.next CV.st CV.ks::k) qM j4 g1 (by rw[g2];exact kI hb (tI _ _)) (mA bM (jc jQ hb)) (fun j hj=>?_) ⟨⟨by omega,ae,ph,jQ,?_⟩,?_⟩ hR hP (Ef ds hkd hi);funext vs;simp only[qv,if_neg (hnL j hj),hF j hj]
                   . intro ak Po a8 a' w' bP he NQ YF hFF;obtain⟨zO,ph3,adE,hs3⟩:=JN NQ j4.names j4.nest.nm YF;simp only[qv,if_true]at hFF;have hs4:Sat w0 (ae.aB st.next (bP.map (DE.af ak))) ph3 CV.st a' w':=by
                       refine hs3.NT g1 fun j hj=>?_;have hl:=yY zO;rcases qK j st.next with h1|h1
                       rw[aH.cA h1,aH.cA h1,he.e j (by simpa[bc]using h1)]
                       . have cu:j-st.next<(bP.map (DE.af ak)).length:=by omega
                         obtain⟨d,hd⟩:∃d,(bP.map (DE.af ak))[j-st.next]?=some d:=⟨_,eT cu⟩;have hj':j=st.next+(j-st.next):=by omega
                         rw[hj',aH.ei hd,aH.ei hd]
                     have agJ:bA (bc st.next) ae (ae.aB st.next (bP.map (DE.af ak))) ph ph3:=by
                       refine⟨fun j hj=>?_,fun j hj=>(he.r j hj).trans (adE.r j hj),fun j hj=>(he.v j hj).trans (adE.v j hj)⟩;simp only[bc,aM]at hj;rw[aH.cA hj]
                     exact Reach.step step_inLoop (ihN (oW (bP.map (DE.af ak))) (by omega) _ a' w' ph3 rfl hFF.1 zO agJ hs4)
                   refine HK.QA (F:=F) (fun j hj=>?_) (HK.mono jQ (by omega) hk);funext vs;have:j≠i:=fun e=>HL hnl (e▸hj);simp only[qv,if_neg this]
               exact Reach.step step_loop (rounds _ _ a w kE rfl vX g3 g5 g4)
           exact hh.elim
       |_=>exact hh.elim
end
def YI(P:Program)(fn:Func)(res:List VT)(w0:World)(R:List DV->Prop)(a:Act)(w:World):Prop:=
 a.defers=[]/\∃b8 gX,(results fn a.tmps).run P w = .ok (packed (cj res b8)) w/\Below w0.heap.size w0 w/\fitAll (mw w w0.heap.size) (bL res) b8 gX/\iL b8/\R gX
theorem NZ{a:Act}{res:List VT}(hs:Sat w0 ae ph st a w)(mo:tL P st fn.results.toList=some vs)(h:(rX res vs st).holds Γ R Ps ae F):YI P fn res w0 R a w:=by
 unfold rX at h;split at h;rename_i e ks id;split at h;rename_i b hb;split at h;rename_i hc;simp only[ao,aM]at hc;obtain⟨rfl,h0⟩:=hc;split at h;rename_i xs sR;obtain⟨bq,rfl⟩:=eK hb;obtain⟨hB,hh⟩:=hs.mem.nJ b bq;have yP:=tA (ae:=ae) (ph:=ph) sR [] 0 rfl;simp only[nc]at yP;refine⟨hs.defers,[.slice (some ⟨ph.r b.id,0,none⟩) 1 1],[(DE.vu xs).af ae],ky hs mo,hs.below,⟨⟨h0,?_⟩,trivial⟩,?_,h⟩;have e:aF ks [xs.map (b7 ae)]=bS ks 0 (xs.map (b7 ae)):=by simp[aF]
 have hl:=(pj sR).1;show w.ownsRow w0.heap.size b.ty ks.length _ 1 (aF ks [xs.map (b7 ae)]);rw[e,<- yP];refine⟨by simp[hl],.inr ⟨ph.r b.id,1,_,rfl,hB,hh,fz _,by decide,by simp[hl],?_⟩⟩;simp[hl,oS];intro i j u v E8 hu hv k hk dr
 match i,j with
 |0,0=>exact E8 rfl
 |0,j+1=>simp at hv
 |i+1,_=>simp at hu
 exact h.elim;exact h.elim;exact h.elim
 ·
   split at h;rename_i ds xe;split at h;rename_i hc;simp only[ao]at hc;obtain⟨⟨JB,qJ⟩,bN⟩:=hc;rw[Ed]at qJ bN;have qJ:=zZ qJ;have ho:∀row∈cU (bG vs),∃r,r∈st.rows/\r.id=row/\bJ st row=some r/\r.own=true/\r.g.af ae=true:=fun row bl=>by
     have:=kG.1 bN row bl;split at this;rename_i r hr;simp only[ao,aM]at this;obtain⟨hm,lW⟩:=aZ hr;exact⟨r,hm,lW,hr,this.1,by rw[this.2];rfl⟩;cases this
   obtain⟨V8,e1,e2,e7⟩:=tT (ae:=ae) (ph:=ph) (R:=mw w w0.heap.size) (r9 _ _) (fun h=>by rw[nN JB]at h;cases h) xe (fun row bl r hr _=>by
     obtain⟨r',hm,_,cY,dj,hg⟩:=ho row bl;rw[hr,ah]at cY;subst cY;obtain⟨h0,jU⟩:=hs.mem.row r hm hg;rw[if_pos dj]at jU;exact⟨h0,jU⟩) (fun h=>by rw[kp JB]at h;cases h)
   have e7:=e7 (kp JB);subst e7;refine⟨hs.defers,_,_,by rw[<- e1];exact ky hs mo,hs.below,e2,?_,h⟩;intro i j u v E8 hu hv k hk dr;rw[gL]at hu hv;simp only[bH]at hu hv;obtain⟨l,hl,rfl⟩:=hu;obtain⟨l',xl,rfl⟩:=hv;have GR:∀(i:Nat) (l:ai) k,(bG vs)[i]?=some l->(l.af ae ph).ownBlock=some k->∃r,l = .s r:=fun i l k hl h=>by
     obtain⟨c,d,_,BC⟩:=nq (np (kp JB) xe) hl;exact sa BC h
   obtain⟨r,rfl⟩:=GR i l k hl hk;obtain⟨r',rfl⟩:=GR j l' k xl dr;have VM:r∈cU (bG vs):=yR.2 ⟨_,sU hl,rfl⟩;have agK:r'∈cU (bG vs):=yR.2 ⟨_,sU xl,rfl⟩;obtain⟨x,hx,Ls,_,AA,ND⟩:=ho r VM;obtain⟨x',hx',adF,_,agL,agM⟩:=ho r' agK;simp only[ai.af,<- Ls,<- adF]at hk dr;exact hs.mem.rr x hx x' hx' (fun e=>E8 (JO qJ hl (by rw[xl,<- adF,<- e,Ls]))) AA ND agM k (by simp[Row.b9,AA,hk]) (by simp[Row.b9,agL,dr]);split at h;rename_i hc;simp only[ao]at hc;obtain⟨⟨⟨JB,hN⟩,Fq⟩,bN⟩:=hc;rw[Ed]at bN;unfold rT at Fq;rw[hN]at Fq;simp only[Bool.not_true,Bool.false_or,ao,nQ,aM]at Fq;obtain⟨hS,Ft⟩:=Fq;have ho:∀row∈cU (bG vs),bJ st row=none/\∃n,fh st row=some n/\n.own=true:=fun row bl=>by
     have:=kG.1 bN row bl;split at this;rename_i x h1 h2;exact⟨h1,x,h2,this⟩;cases this
   obtain⟨V8,e1,e2,e7⟩:=tT (ae:=ae) (ph:=ph) (R:=mw w w0.heap.size) (r9 _ _) (fun _ row bl n hn _=>by
     obtain⟨_,n',po,qM⟩:=ho row bl;rw[hn,ah]at po;subst po;obtain⟨hm,_⟩:=dp hn;obtain⟨_,h0,P3⟩:=hs.nest.own hm qM;exact⟨h0,_,fun k hk=>⟨hk.2,hs.nest.lt k hk.1⟩,fun k hk hz=>((hs.nest.oz n hm qM).2 k hk).1 hz.1,P3⟩) xe (fun row bl r hr _=>by
     rw[(ho row bl).1]at hr;cases hr) (fun h=>by rw[JB]at h;cases h)
   have e7:=e7 JB;subst e7;refine⟨hs.defers,_,_,by rw[<- e1];exact ky hs mo,hs.below,e2,?_,h⟩;intro i j u v E8 hu hv k hk dr;rw[gL]at hu hv;simp only[bH]at hu hv;obtain⟨l,hl,rfl⟩:=hu;obtain⟨l',xl,rfl⟩:=hv;have GR:∀(i:Nat) (l:ai) k,(bG vs)[i]?=some l->(l.af ae ph).ownBlock=some k->∃c,(bL res)[i]?=some c/\c.yu=true:=fun i l k hl h=>by
     obtain⟨c,d,hc,BC⟩:=nq (np JB xe) hl;obtain⟨r,rfl⟩:=sa BC h;refine⟨c,hc,(NC BC).resolve_left fun hs=>?_⟩;rw[List.any_eq_false]at hS;exact hS c (sU hc) hs
   obtain⟨c,hc,hcn⟩:=GR i l k hl hk;obtain⟨c',CX,agN⟩:=GR j l' k xl dr;exact E8 (Qb Ft hc CX hcn agN);exact h.elim;exact h.elim
def bj:aH:=fun _=>.i 0
def kE:Ph:=⟨fun _=>0,fun _=>(none,0,0),fun _=>False⟩
def D9(w:World)(b8:List Value):Ph:={kE.dK 0 b8 with z:=fun k=>k<w.heap.size}
theorem Eg{args:List VT}{b8:List Value}(hf:fitAll (mK w) (bL args) b8 ds) :
   Sat w (bj.aB 0 ds) (D9 w b8) (start fn args) ⟨(cj args b8).toArray++Array.replicate (fn.ntmps-(cj args b8).length) undef,[]⟩ w:=by
 obtain⟨I3,Jb⟩:=om hf;have vK:=wL (ae:=bj.aB 0 ds) (ph:=D9 w b8) false (.c true) (bL args) 0 b8 ds hf (fun i d hd=>aH.ei hd) (fun i v hv e ks hc=>by
   have Z2:∃a b c,v = .slice a b c:=by
     rcases hc with hc|⟨aO,hc⟩;obtain⟨v',d,xd,hd,dM⟩:=ka hf hc;rw[hv]at xd;simp only[ah]at xd;subst xd;cases d with
     |i n=>simp[kX]at dM
     |b x=>simp[kX]at dM
     | l xs=>
       obtain⟨_,base,cap,rfl,_⟩:=dM;exact⟨_,_,_,rfl⟩
     obtain⟨v',d,xd,hd,dM⟩:=ka hf hc;rw[hv]at xd;simp only[ah]at xd;subst xd;cases d with
     |i n=>simp[kX]at dM
     |b x=>simp[kX]at dM
     | l xs=>
       obtain⟨_,b0,c0,rfl,_⟩:=dM;exact⟨_,_,_,rfl⟩
   obtain⟨a0,b0,c0,rfl⟩:=Z2;exact uV (ph:=kE) hv)
 obtain⟨e1,e2,e3⟩:=vK;have yP:=rY (ae:=bj.aB 0 ds) (ph:=D9 w b8) (.c true) args 0 b8 e1;rw[<- fj]at e2;have jT:∀i,i<(bL args).length->bc (bL args).length (0+i)=true:=fun i hi=>by simpa[bc]using hi
 have cK:=iC (q:=bc (bL args).length) (.c true) rfl (bL args) 0 jT;have adG:=nj (q:=bc (bL args).length) (.c true) rfl args 0 jT;have qU:(start fn args).has=bc (bL args).length:=by rw[dG rfl];rfl
 have hlen:(cg (.c true) 0 args).1.length=(cj args b8).length:=by rw[<- yP,lS]
 refine⟨⟨?_,fun t s ht=>?_⟩,⟨?_,?_,?_,?_,?_⟩,Below.refl _ _,rfl,⟨fun t s ht=>?_,?_,?_⟩,?_⟩;simp[start,mv,hlen];simp only[start,mv]at ht;rw[List.getElem?_append]at ht;split at ht;rename_i cu;rw[gL]at ht;simp only[bH,ah]at ht;obtain⟨v,hv,rfl⟩:=ht;have xd:(cj args b8)[t]?=some (v.af (bj.aB 0 ds) (D9 w b8)):=by rw[<- yP,gL,hv];rfl
 have Ny:=(dh.1 xd).1;rw[Array.getElem?_append,if_pos (by simpa using Ny)];simp only[List.getElem?_toArray,xd,aV.af,BE.af,if_true,SV.af];rw[Ha]at ht;split at ht<;>cases ht;intro b hb;simp[start]at hb;intro b hb;simp[start]at hb;intro r hr hg;simp only[start,mv,jO]at hr;obtain⟨r0,eo,rfl⟩:=hr;obtain⟨i,_,_,_,h0,hR⟩:=e2 r0 eo;exact⟨h0,hR⟩;intro b hb;simp[start]at hb;intro r hr r' cY cV ho;simp only[start,mv,jO]at hr;obtain⟨r0,eo,rfl⟩:=hr;cases ho;rw[qU];simp only[start,mv]at ht;rw[List.getElem?_append]at ht;split at ht;rw[gL]at ht;simp only[bH,ah]at ht;obtain⟨v,hv,rfl⟩:=ht;have:∀ {vs:List V1} {t:Nat} {v:V1},dH (bc (bL args).length) vs=true->vs[t]?=some v->v.all (bc (bL args).length)=true:=by
   intro vs;induction vs with
   |nil=>intro t v _ h;simp at h
   | cons x vs ih=>
     intro t v h hv;simp only[dH,ao]at h;cases t with
     |zero=>simp at hv;subst hv;exact h.1
     |succ t=>exact ih h.2 (by simpa using hv)
 simp only[aV.all,BE.all,SV.all,Bool.true_and];exact this adG hv;rw[Ha]at ht;split at ht<;>cases ht;intro b hb;simp[start]at hb;intro r hr;rw[qU];simp only[start,mv,jO]at hr;obtain⟨r0,eo,rfl⟩:=hr;rw[fj]at eo;exact cK.2 r0 eo;refine⟨fun k hk=>hk,fun b hb=>by simp[start]at hb,fun r hr ho=>?_,fun n hn _=>?_,fun n hn=>?_,fun n hn ho=>?_⟩;simp only[start,mv,jO]at hr;obtain⟨r0,eo,rfl⟩:=hr;cases ho;obtain⟨i,_,_,_,hR,_⟩:=e3 n hn;refine⟨hR.1,?_⟩;unfold fG;rw[if_neg (by rw[(qR _ _ _ _ n hn).2];simp)];exact hR.2;rw[qU];exact wM _ (.c true) rfl (bL args) 0 jT n hn;rw[(qR _ _ _ _ n hn).2]at ho;cases ho
def QF(P:Program)(fn:Func)(sg:bW)(w0:World)(B:Nat)(gi:List Value)(R:List DV->Prop)(a:Act)(w:World):Prop:=
 a.defers=[]/\∃b8 gX,(results fn a.tmps).run P w = .ok (packed (cj sg.res b8)) w/\Below w0.heap.size w0 w/\fitAll (mw w B) (bL sg.res) b8 gX/\iL b8/\
   (∀(i:Nat) (u:Value) (k:Nat),b8[i]?=some u->u.ownBlock=some k->w0.heap.size<=k\/∃(j:Nat) (v:Value),j<sg.cons/\gi[j]?=some v/\v.ownBlock=some k)/\R gX
theorem JT{a:Act}{B:Nat}{ds0:List DV}(hs:Sat w0 ae ph st a w)(mo:tL P st fn.results.toList=some vs)
   (hA:YA sg w0 B gi ds0) (bM:bA (bc (bL sg.args).length) (bj.aB 0 ds0) ae (D9 w0 gi) ph) (h:(og sg vs st).holds Γ R Ps ae F):QF P fn sg w0 B gi R a w:=by
 unfold og at h;split at h;rename_i ds xe;split at h;rename_i hc;simp only[ao]at hc;obtain⟨⟨JB,qJ⟩,bN⟩:=hc;have qJ:=zR qJ;have amS:=om hA.fit;have ho:∀row∈cU (bG vs),∃r,r∈st.rows/\r.id=row/\bJ st row=some r/\r.g.af ae=true/\mw w B r.e (.inl r.ks) (ph.val r.id) (ae r.lv).list/\
     ((r.own=true/\∀k,(ph.val r.id).ownBlock=some k->w0.heap.size<=k)\/(r.id<sg.cons/\gi[r.id]?=some (ph.val r.id)/\∀k,(ph.val r.id).ownBlock=some k->k<w0.heap.size)):=fun row bl=>by
   have:=kG.1 bN row bl;split at this;rename_i r hr;simp only[ao,ig,aM]at this;obtain⟨hg,BB⟩:=this;obtain⟨hm,lW⟩:=aZ hr;have mb:r.g.af ae=true:=by rw[hg];rfl
   obtain⟨h0,jU⟩:=hs.mem.row r hm mb;rcases BB with ho|⟨⟨cu,Al⟩,hct⟩;rw[if_pos ho]at jU;exact⟨r,hm,lW,hr,mb,⟨h0,rZ jU hA.base⟩,.inl ⟨ho,fun k hk=>(jU.lt k hk).1⟩⟩;have aao:=(dh.1 hct).1;have hb:bc (bL sg.args).length r.id=true:=by simpa[bc]using aao
   obtain⟨v,d,hv,hd,dM⟩:=ka (i:=r.id) hA.own (by rw[A9,if_pos cu];exact hct);rw[A9,if_pos cu]at hv hd;cases d with
   |i n=>simp[kX]at dM
   |b x=>simp[kX]at dM
   | l xs=>
     obtain⟨h1,h2⟩:=dM;obtain⟨sl,rfl⟩:=lY h2;have ev:ph.val r.id = .slice sl.1 sl.2.1 sl.2.2:=by
       have hz:(D9 w0 gi).val (0+r.id) = .slice sl.1 sl.2.1 sl.2.2:=uV (ph:=kE) hv;rw[gK]at hz;rw[<- hz];simp only[Ph.val,<- bM.v _ hb]
     have ed:(ae r.lv).list=xs:=by
       rw[Al,<- bM.e _ hb];have:=aH.ei (ae:=bj) (k:=0) hd;rw[gK]at this;rw[this];rfl
     refine⟨r,hm,lW,hr,mb,?_,.inr ⟨cu,by rw[ev];exact hv,fun k hk=>?_⟩⟩;rw[ev,ed];exact⟨h1,vF h2 (lU hs.below) (fun k _=>by simp)⟩;rw[ev]at hk;exact(h2.lt k hk).2
   cases this
 obtain⟨V8,e1,e2,e7⟩:=tT (ae:=ae) (ph:=ph) (R:=mw w B) (r9 _ _) (fun h=>by rw[nN JB]at h;cases h) xe (fun row bl r hr _=>by
   obtain⟨r',_,_,cY,_,dj,_⟩:=ho row bl;rw[hr,ah]at cY;subst cY;exact dj) (fun h=>by rw[kp JB]at h;cases h)
 have e7:=e7 (kp JB);subst e7;have GR:∀(i:Nat) (l:ai) k,(bG vs)[i]?=some l->(l.af ae ph).ownBlock=some k->∃r,l = .s r:=fun i l k hl h=>by
   obtain⟨c,d,_,BC⟩:=nq (np (kp JB) xe) hl;exact sa BC h
 have xG:∀(i:Nat) (u:Value) (k:Nat),((bG vs).map (ai.af ae ph))[i]?=some u->u.ownBlock=some k->∃r∈st.rows,(bG vs)[i]?=some (.s r.id)/\(ph.val r.id).ownBlock=some k/\r.g.af ae=true/\
     ((r.own=true/\w0.heap.size<=k)\/(r.id<sg.cons/\gi[r.id]?=some (ph.val r.id)/\k<w0.heap.size)):=fun i u k hi hu=>by
   rw[gL]at hi;simp only[bH]at hi;obtain⟨l,hl,rfl⟩:=hi;obtain⟨r,rfl⟩:=GR i l k hl hu;have bq:r∈cU (bG vs):=yR.2 ⟨_,sU hl,rfl⟩;obtain⟨x,hx,Ls,_,ND,_,BB⟩:=ho r bq;subst Ls;exact⟨x,hx,hl,hu,ND,BB.imp (fun a=>⟨a.1,a.2 k hu⟩) (fun a=>⟨a.1,a.2.1,a.2.2 k hu⟩)⟩
 refine⟨hs.defers,_,_,by rw[<- e1];exact ky hs mo,hs.below,e2,fun i j u v E8 hu hv k hk dr=>?_,fun i u k hu hk=>?_,h⟩;obtain⟨r,hr,h1,h2,h3,h4⟩:=xG i u k hu hk;obtain⟨r',cY,K5,h2',h3',h4'⟩:=xG j v k hv dr;by_cases he:r.id=r'.id;rw[he]at h1;exact E8 (D7 qJ h1 K5);rcases h4 with⟨a1,a2⟩|⟨a1,a2,a3⟩<;>rcases h4' with⟨b1,b2⟩|⟨b1,b2,b3⟩;exact hs.mem.rr r hr r' cY he a1 h3 h3' k (by simp[Row.b9,a1,h2]) (by simp[Row.b9,b1,h2']);omega;omega;exact hA.apart r.id r'.id _ _ he (by rw[A9,if_pos a1];exact a2) (by rw[A9,if_pos b1];exact b2) k h2 h2';obtain⟨r,hr,h1,h2,h3,⟨_,a2⟩|⟨a1,a2,_⟩⟩:=xG i u k hu hk;exact .inl a2;exact .inr ⟨r.id,_,a1,a2,h2⟩;exact h.elim;exact h.elim
def fw(P:Program)(Wd:World->Prop)(f:FuncId)(c:dJ):Prop:=
 (∀w args,(callFunc f args).run P w = .ok (.enter f args) w)/\
 ∀w vs ds,Wd w->Fo w c.sig.args vs ds->c.pre ds->Calls P f vs.toArray w (fun e w'=>∃b8 gX,e = .returned (packed (cj c.sig.res b8))/\Below w.heap.size w w'/\
   fitAll (mw w' w.heap.size) (bL c.sig.res) b8 gX/\iL b8/\c.rel ds gX)
theorem fw.at{Wd:World->Prop}{c:dJ}(h:fw P Wd f c)(hw:∀w,Below w0.heap.size w0 w->Wd w):wN P w0 f c:=⟨h.1,fun w vs ds hb ha hp=>h.2 w vs ds (hw w hb) ha hp⟩
theorem QG{aR:kS}{fuel:Nat}{X:List DV->Prop}{ret:List V1->St->au}(hB:ke P aR)(jb:eN P Γ aR w)(qM:aR.no=[]){E:Act->World->Prop}{cs:List Frame}
   (hs:Sat w (bj.aB 0 ds) (D9 w gi) (start fn sg.args) ⟨(cj sg.args gi).toArray++Array.replicate (fn.ntmps-(cj sg.args gi).length) undef,[]⟩ w) (hb:fn.body=some c) (NS:(if sg.cons=0 then rX sg.res else og sg)=ret)
   (hE:∀ak aQ a8 a' w' rv F',bA (bc (bL sg.args).length) (bj.aB 0 ds) ak (D9 w gi) aQ->Sat w ak aQ a8 a' w'->tL P a8 fn.results.toList=some rv->(ret rv a8).holds Γ X [] ak F'->E a' w')
   (h:(tP P aR f fn sg fuel).holds Γ X [] (bj.aB 0 ds) (fun _ _=>False)) :
   Reach P aR.cZ {fn:=f,tmps:=#[],todo:=[],defers:=[],mode:=.run,kind:=.normal} cs E (fun _ _=>False) (lone (Frame.at {fn:=f,tmps:=#[],todo:=[],defers:=[],mode:=.run,kind:=.normal} ⟨(cj sg.args gi).toArray++Array.replicate (fn.ntmps-(cj sg.args gi).length) undef,[]⟩ (dg [.code c])) cs w):=by
 subst NS;have main:∀(N1:kS) (kT:St),ke P N1->eN P Γ N1 w->N1.cZ=aR.cZ->(∀p∈N1.no,p.1<(bL sg.args).length/\((bj.aB 0 ds) p.1).int≠p.2)->Sat w (bj.aB 0 ds) (D9 w gi) kT ⟨(cj sg.args gi).toArray++Array.replicate (fn.ntmps-(cj sg.args gi).length) undef,[]⟩ w->kT.qd=[]->kT.next=(bL sg.args).length->
     (exec P N1 fuel none [] f fn [.code c] kT (if sg.cons=0 then rX sg.res else og sg)).holds Γ X [] (bj.aB 0 ds) (fun _ _=>False)->Reach P aR.cZ {fn:=f,tmps:=#[],todo:=[],defers:=[],mode:=.run,kind:=.normal} cs E (fun _ _=>False) (lone (Frame.at {fn:=f,tmps:=#[],todo:=[],defers:=[],mode:=.run,kind:=.normal} ⟨(cj sg.args gi).toArray++Array.replicate (fn.ntmps-(cj sg.args gi).length) undef,[]⟩ (dg [.code c])) cs w):=by
   intro N1 kT hB1 agO hg aan G1 AL ga hh;rw[<- hg];exact JS (b:={fn:=f,tmps:=#[],todo:=[],defers:=[],mode:=.run,kind:=.normal}) (cs:=cs) (base:=(bL sg.args).length) (e0:=bj.aB 0 ds) (p0:=D9 w gi) (F0:=fun _ _=>False) (E:=E) (EP:=fun _ _=>False) (Ps:=[]) (k:=[.code c]) hB1 agO aan G1 AL (by omega) cQ (fun _ _=>rfl) trivial
     (fun ak aQ a8 a' w' rv F' g1 _ g3 _ _ g6 _ g8=>hE ak aQ a8 a' w' rv F' g1 g3 g6 g8) (fun _ _ _ _ _ _ _ _ g=>g) hh
 unfold tP at h;rw[hb]at h;simp only at h;split at h;exact main aR _ hB jb rfl (by rw[qM];intro p hp;simp at hp) hs rfl rfl h;rename_i x m _;split at h;rename_i hx;have hx:x<(bL sg.args).length:=mW hx;rcases FJ h with⟨v,hv,h⟩|⟨cV,h⟩;exact main aR _ hB jb rfl (by rw[qM];intro p hp;simp at hp) (hs.fix hv) rfl rfl h;refine main {aR with no:=(List.range m).map fun(v:Nat)=>(x,(v:Int)) } _ ⟨hB.aL,hB.Au,hB.yS⟩ jb rfl (fun p hp=>?_) hs rfl rfl h;obtain⟨v,hv,rfl⟩:=jO.1 hp;exact⟨hx,cV v hv⟩;exact h.elim
theorem HO{aR:kS}{fuel:Nat}{ct:dJ}(hB:ke P aR){Wd:World->Prop}(jb:∀w,Wd w->eN P Γ aR w)(hf:P.funcs[f]?=some fn)(hb:fn.body=some c)(hn:(fn.name == "runtime.NumGoroutine")=false)(qM:aR.no=[])
   {T:au} (hT:tP P aR f fn ct.sig fuel=T) (h:∀ds,kinds (bL ct.sig.args) ds=true->ct.pre ds->T.holds Γ (ct.rel ds) [] (bj.aB 0 ds) (fun _ _=>False)):if ct.sig.cons=0 then fw P Wd f ct else jv P Wd f ct:=by
 subst hT;have QD:∀gi:List Value,Frame.enter P f (cj ct.sig.args gi).toArray .normal=Frame.at {fn:=f,tmps:=#[],todo:=[],defers:=[],mode:=.run,kind:=.normal} ⟨(cj ct.sig.args gi).toArray++Array.replicate (fn.ntmps-(cj ct.sig.args gi).length) undef,[]⟩ (dg [.code c]):=fun gi=>by
   simp[Frame.enter,Frame.at,hf,hb,dg]
 split;rename_i tU;refine⟨dT hf hb hn,fun w vs ds hwd ha hp cs=>?_⟩;obtain⟨gi,rfl,dM⟩:=ha;have hs:=Eg (fn:=fn) dM;have hh:=h ds (jt dM) hp;obtain⟨a',w',todo,BB⟩:=QG (cs:=cs) (E:=YI P fn ct.sig.res w (ct.rel ds)) (ret:=rX ct.sig.res) hB (jb w hwd) qM hs hb (by rw[if_pos tU]) (fun ak aQ a8 a' w' rv F' _ g3 g6 g8=>NZ g3 g6 g8) hh;rcases BB with⟨⟨Wo,b8,gX,e1,e2,e3,e4,e5⟩,fc⟩|⟨_,_,hf,_⟩;refine⟨.returned (packed (cj ct.sig.res b8)),w',{Frame.at {fn:=f,tmps:=#[],todo:=[],defers:=[],mode:=.run,kind:=.normal} a' todo with mode:=.returning},⟨b8,gX,rfl,e2,e3,e4,e5⟩,?_,?_,⟨rfl,Wo,rfl,fn,hf,e1⟩⟩;show Steps P (lone (Frame.enter P f (cj ct.sig.args gi).toArray .normal) cs w) _;rw[QD];exact fc;rfl;exact hf.elim;rename_i tU;refine⟨dT hf hb hn,fun w B gi ds hwd ha hp cs=>?_⟩;have hs:=Eg (fn:=fn) ha.fit;have hh:=h ds (jt ha.fit) hp;obtain⟨a',w',todo,BB⟩:=QG (cs:=cs) (E:=QF P fn ct.sig w B gi (ct.rel ds)) (ret:=og ct.sig) hB (jb w hwd) qM hs hb (by rw[if_neg tU]) (fun ak aQ a8 a' w' rv F' g1 g3 g6 g8=>JT g3 g6 ha g1 g8) hh;rcases BB with⟨⟨Wo,b8,gX,e1,e2,e3,e4,e5,e6⟩,fc⟩|⟨_,_,hf,_⟩;refine⟨.returned (packed (cj ct.sig.res b8)),w',{Frame.at {fn:=f,tmps:=#[],todo:=[],defers:=[],mode:=.run,kind:=.normal} a' todo with mode:=.returning},⟨b8,gX,rfl,e2,e3,e4,e5,e6⟩,?_,?_,⟨rfl,Wo,rfl,fn,hf,e1⟩⟩;show Steps P (lone (Frame.enter P f (cj ct.sig.args gi).toArray .normal) cs w) _;rw[QD];exact fc;rfl;exact hf.elim
end
section
variable{ae:aH}{Γ:bX}{R:List DV->Prop}{ks:List BE}
theorem Eh(h:∀k∈ks,k.af ae=true):∀ {p:BE},eQ ks p=true->p.af ae=true:=by
 have hc:∀p,ks.contains p=true->p.af ae=true:=fun p hp=>h p (by simpa using hp);intro p;induction p with
 | and a b fb fB=>
   intro hp;simp only[eQ,ig,ao]at hp;rcases hp with hp|⟨h1,h2⟩;exact hc _ hp;simp[BE.af,fb h1,fB h2]
 | or a b fb fB=>
   intro hp;simp only[eQ,ig]at hp;rcases hp with hp|h1|h2;exact hc _ hp;simp[BE.af,fb h1];simp[BE.af,fB h2]
 | c b=>
   intro hp;cases b with
   |true=>rfl
   |false=>exact hc _ (by simpa[eQ]using hp)
 |_=>intro hp;exact hc _ (by simpa[eQ]using hp)
theorem xL(h:∀k∈ks,k.af ae=true){p:BE}:(tQ ks p).af ae=p.af ae:=by
 unfold tQ;split;rename_i g n;split;rename_i hg;simp[BE.af,Eh h hg];rfl;rfl
theorem xM{p:BE}:∀ {ks:List BE},(∀k∈ks,k.af ae=true)->p.af ae=true->∀k∈jP p ks,k.af ae=true:=by
 induction p with
 | and a b fb fB=>
   intro ks h hp k hk;simp only[jP,bF]at hk;have BH:=hp;simp only[BE.af,ao]at BH;rcases hk with rfl|hk;exact hp;exact fb (fB h BH.2) BH.1 k hk
 | _=>
   intro ks h hp k hk;simp only[jP,bF]at hk;rcases hk with rfl|hk;exact hp;exact h k hk
def DA:List (Int->Prop)->List (Int->Prop)->Prop
 | [],[]=>True
 |p::ps,q::qs=>(∀e,p e->q e)/\DA ps qs
 |_,_=>False
theorem DA.refl:∀ {ps:List (Int->Prop)},DA ps ps
 | []=>trivial
 |_::_=>⟨fun _ h=>h,DA.refl⟩
theorem DA.head{ps qs:List (Int->Prop)}(h:DA ps qs){e:Int}(hp:mT ps e):mT qs e:=by
 cases ps with
 |nil=>exact hp.elim
 | cons p ps=>cases qs with
   |nil=>exact h.elim
   |cons q qs=>exact h.1 e hp
theorem BO{fl fl':Int->Prop}{e:Ev}{k k':aH->Prop}(hf:∀e,fl e->fl' e)(hk:∀ae,k ae->k' ae)(h:e.holds (Γ.at fl) k ae):e.holds (Γ.at fl') k' ae:=by
 cases e with
 |dB p e=>exact⟨fun hp=>hk _ (h.1 hp),fun hp=>hf _ (h.2 hp)⟩
 |aL p=>exact⟨h.1,hk _ h.2⟩
 |call f g args res base=>exact Ev.j6 (Γ:=Γ.at fl) (e:=.call f g args res base) hk h
 |cH id op=>exact hk _ h
theorem QH:∀ {t:au} {ae:aH} {F:Nat->List DV->Prop} {Ps Qs:List (Int->Prop)},DA Ps Qs->t.holds Γ R Ps ae F->t.holds Γ R Qs ae F:=by
 intro t;induction t with
 |ret vs=>intro ae F Ps Qs _ h;exact h
 |stuck s=>intro ae F Ps Qs _ h;exact h
 |again id vs=>intro ae F Ps Qs _ h;exact h
 |ev e t ih=>intro ae F Ps Qs hl h;exact BO (fun e he=>hl.head he) (fun ae h=>ih hl h) h
 |ite c a b fb fB=>intro ae F Ps Qs hl h;exact⟨fun hc=>fb hl (h.1 hc),fun hc=>fB hl (h.2 hc)⟩
 | loop id es kd base body ih=>
   intro ae F Ps Qs hl h;obtain⟨inv,oW,h1,h2⟩:=h;exact⟨inv,oW,h1,fun ds hd hi=>ih hl (h2 ds hd hi)⟩
 |fail e=>intro ae F Ps Qs hl h;exact hl.head h
 |fO x tp t DB ih=>intro ae F Ps Qs hl h;exact ih (Ps:=_::Ps) (Qs:=_::Qs) ⟨fun e he=>DB hl he,hl⟩ h
 | pop t ih=>
   intro ae F Ps Qs hl h;cases Ps with
   |nil=>exact h.elim
   | cons p ps=>cases Qs with
     |nil=>exact hl.elim
     |cons q qs=>exact ih hl.2 h
theorem HP:∀ {t:au} {ks:List BE} {ae:aH} {F:Nat->List DV->Prop} {Ps:List (Int->Prop)},(∀k∈ks,k.af ae=true)->(prune ks t).holds Γ R Ps ae F->t.holds Γ R Ps ae F:=by
 intro t;induction t with
 |ret vs=>intro ks ae F Ps _ h;exact h
 |stuck s=>intro ks ae F Ps _ h;exact h
 |again id vs=>intro ks ae F Ps _ h;exact h
 | ev e t ih=>
   intro ks ae F Ps hk h;cases e with
   | aL p=>
     simp only[prune]at h;split at h;rename_i hkn;exact⟨by rw[<- xL hk];exact Eh hk hkn,ih hk h⟩;obtain⟨h1,h2⟩:=h;exact⟨by rw[<- xL hk];exact h1,ih (xM hk h1) h2⟩
   |call f g args res base=>exact Ev.j6 (e:=.call f g args res base) (fun _ h=>ih (ks:=[]) (fun k hk=>by simp at hk) h) h
   |cH id op=>exact ih (ks:=[]) (fun k hk=>by simp at hk) h
   |dB p e=>exact⟨fun hp=>ih (ks:=[]) (fun k hk=>by simp at hk) (h.1 hp),h.2⟩
 | ite c a b fb fB=>
   intro ks ae F Ps hk h;refine⟨fun hc=>fb (xM hk hc) (h.1 hc),fun hc=>fB ?_ (h.2 hc)⟩;intro k dr;rcases bF.1 dr with rfl|dr;rw[BE.cz];simp[BE.af,hc];exact hk k dr
 | loop id es kd base body ih=>
   intro ks ae F Ps hk h;obtain⟨inv,oW,h1,h2⟩:=h;exact⟨inv,oW,h1,fun ds hd hi=>ih (fun k hk=>by simp at hk) (h2 ds hd hi)⟩
 |fail e=>intro ks ae F Ps _ h;exact h
 | fO x tp t DB ih=>
   intro ks ae F Ps hk h;have h2:t.holds Γ R ((fun n=>(prune [] tp).holds Γ R Ps (ae.set x (.i n)) F)::Ps) ae F:=ih hk h;show t.holds Γ R ((fun n=>tp.holds Γ R Ps (ae.set x (.i n)) F)::Ps) ae F;refine QH (Ps:=(fun n=>(prune [] tp).holds Γ R Ps (ae.set x (.i n)) F)::Ps) ?_ h2;exact⟨fun e he=>DB (fun k hk=>by simp at hk) he,DA.refl⟩
 | pop t ih=>
   intro ks ae F Ps hk h;cases Ps with
   |nil=>exact h.elim
   |cons p ps=>exact ih hk h
variable {P:Program}
theorem z8{aR:kS}{f:FuncId}{fn:Func}{c:Code}{fuel:Nat}{ct:dJ}(hB:ke P aR){Wd:World->Prop}(jb:∀w,Wd w->eN P Γ aR w)(hf:P.funcs[f]?=some fn)(hb:fn.body=some c)(hn:(fn.name == "runtime.NumGoroutine")=false)(qM:aR.no=[])
   {T:au} (hT:prune [] (tP P aR f fn ct.sig fuel)=T) (h:∀ds,kinds (bL ct.sig.args) ds=true->ct.pre ds->T.holds Γ (ct.rel ds) [] (bj.aB 0 ds) (fun _ _=>False)):if ct.sig.cons=0 then fw P Wd f ct else jv P Wd f ct:=
 HO hB jb hf hb hn qM rfl fun ds hk hp=>HP (ks:=[]) (fun k hk=>by simp at hk) (by rw[hT];exact h ds hk hp)
end
section
open Go.RowKit
variable{c:dJ}{f:FuncId}{k:Nat}{c':dJ}{ds:List DV}{N:Nat}{R:List DV->Prop}{rs:List DV}{sg:Nat->Option bW}{Γ:bX}
abbrev bY:=Nat->List DV->Option (List DV)
variable{X C:bY}
abbrev sM:=Nat->List DV->Option (List DV)
def Ev.run(C:bY)(e:Ev)(k:aH->Option (List DV))(ae:aH):Option (List DV):=
 match e with
 |.aL p=>if p.af ae=true then k ae else none
 |.call f g args res base=>if g.af ae=true then(match C f (args.map (DE.af ae))with
     |some rs=>k (ae.aB base rs)
     |none=>none)else k (ae.aB base (defs (bL res)))
 |.cH id op=>k (ae.set id (.l (op.af ae)))
 |.dB _ _=>none
def iter(step:(List DV->Option (List DV))->List DV->Option (List DV)):Nat->List DV->Option (List DV)
 |0,_=>none
 |n+1,ds=>step (iter step n) ds
def BT(F:sM)(id:Nat)(G:List DV->Option (List DV)):sM:=fun j vs=>if j=id then G vs else F j vs
def au.run(C:bY)(N:Nat):au->List (Int->Option (List DV))->aH->sM->Option (List DV)
 |.ret bP,_,ae,_=>some (bP.map (DE.af ae))
 |.stuck _,_,_,_=>none
 |.ev e t,Ps,ae,F=>e.run C (fun ak=>t.run C N Ps ak F) ae
 |.ite c a b,Ps,ae,F=>if c.af ae=true then a.run C N Ps ae F else b.run C N Ps ae F
 |.loop id entry _ base body,Ps,ae,F=>iter (fun rec ds=>body.run C N Ps (ae.aB base ds) (BT F id rec)) N (entry.map (DE.af ae))
 |.again id bP,_,ae,F=>F id (bP.map (DE.af ae))
 | .fail e,Ps,ae,_=>match Ps with
   |p::_=>p (e.af ae)
   | []=>none
 |.fO x tp t,Ps,ae,F=>t.run C N ((fun n=>tp.run C N Ps (ae.set x (.i n)) F)::Ps) ae F
 | .pop t,Ps,ae,F=>match Ps with
   |_::z7=>t.run C N z7 ae F
   | []=>none
def YL(r:List DV):List (Int->Option (List DV))->List (Int->Prop)->Prop
 | [],[]=>True
 |p::ps,q::qs=>(∀e,p e=some r->q e)/\YL r ps qs
 |_,_=>False
theorem Ob{r:List DV}(hC:∀f ds rs,C f ds=some rs->∃c,Γ f=some c/\c.pre ds/\∀gh,c.rel ds gh->gh=rs) :
   ∀ {t:au} {Ps:List (Int->Option (List DV))} {Qs:List (Int->Prop)} {ae:aH} {F:sM} {G:Nat->List DV->Prop},YL r Ps Qs->(∀j vs,F j vs=some r->G j vs)->t.run C N Ps ae F=some r->t.holds Γ (fun rs=>rs=r) Qs ae G:=by
 intro t;induction t with
 |ret vs=>intro Ps Qs ae F G _ _ h;show _=r;simpa[au.run]using h
 |stuck s=>intro Ps Qs ae F G _ _ h;cases h
 | ev e t ih=>
   intro Ps Qs ae F G hP hF h;cases e with
   | aL p=>
     simp only[au.run,Ev.run]at h;split at h;rename_i hp;exact⟨hp,ih hP hF h⟩;cases h
   | call f g args res base=>
     simp only[au.run,Ev.run]at h;split at h;rename_i hg;refine⟨fun _=>?_,fun hn=>(by rw[hg]at hn;cases hn)⟩;split at h;rename_i rs yN;obtain⟨c,h1,h2,h3⟩:=hC f _ rs yN;exact⟨c,h1,h2,fun gh _ hr=>by rw[h3 gh hr];exact ih hP hF h⟩;cases h;rename_i hg;exact⟨fun hn=>absurd hn hg,fun _=>ih hP hF h⟩
   |cH id op=>exact ih hP hF h
   |dB p e=>cases h
 | ite c a b fb fB=>
   intro Ps Qs ae F G hP hF h;simp only[au.run]at h;split at h;rename_i hc;exact⟨fun _=>fb hP hF h,fun hn=>(by rw[hc]at hn;cases hn)⟩;rename_i hc;exact⟨fun hn=>absurd hn hc,fun _=>fB hP hF h⟩
 | loop id es kd base body ih=>
   intro Ps Qs ae F G hP hF h;simp only[au.run]at h;let step:(List DV->Option (List DV))->List DV->Option (List DV):=fun rec ds=>body.run C N Ps (ae.aB base ds) (BT F id rec)
   classical
   have HR:∀ds,(∃n,iter step n ds=some r)->∃n,iter step n ds=some r/\∀m,iter step m ds=some r->n<=m:=by
     intro ds ⟨n,hn⟩;induction n using Nat.strongRecOn with
     | _ n ihn=>
       by_cases hx:∃m,m<n/\iter step m ds=some r;obtain⟨m,hm,lK⟩:=hx;exact ihn m hm lK;refine⟨n,hn,fun m hm=>?_⟩;by_cases cu:m<n;exact absurd ⟨m,cu,hm⟩ hx;omega
   refine⟨fun ds=>∃n,iter step n ds=some r,fun ds=>if hx:∃n,iter step n ds=some r then(HR ds hx).choose else 0,⟨N,h⟩,fun ds _ hi=>?_⟩;have Lx:=(HR ds hi).choose_spec;have hme:(if hx:∃n,iter step n ds=some r then(HR ds hx).choose else 0)=(HR ds hi).choose:=by rw[dif_pos hi]
   obtain⟨h1,h2⟩:=Lx;generalize hk:(HR ds hi).choose=k at h1 h2 hme;cases k with
   |zero=>cases h1
   | succ k=>
     refine ih (F:=BT F id (iter step k)) hP ?_ h1;intro j vs hj;unfold qv;unfold BT at hj;split;rename_i e;rw[if_pos e]at hj;refine⟨⟨k,hj⟩,?_⟩;have hx:∃n,iter step n vs=some r:=⟨k,hj⟩;simp only[hme,dif_pos hx];have:=(HR vs hx).choose_spec.2 k hj;omega;rename_i e;rw[if_neg e]at hj;exact hF j vs hj
 |again id vs=>intro Ps Qs ae F G hP hF h;exact hF _ _ h
 | fail e=>
   intro Ps Qs ae F G hP hF h;cases Ps with
   |nil=>cases h
   | cons p ps=>cases Qs with
     |nil=>exact hP.elim
     |cons q qs=>exact hP.1 _ h
 | fO x tp t DB ih=>
   intro Ps Qs ae F G hP hF h;exact ih (Ps:=_::Ps) (Qs:=_::Qs) ⟨fun e he=>DB hP hF he,hP⟩ hF h
 | pop t ih=>
   intro Ps Qs ae F G hP hF h;cases Ps with
   |nil=>cases h
   | cons p ps=>cases Qs with
     |nil=>exact hP.elim
     |cons q qs=>exact ih hP.2 hF h
def Wq(a b:Option (List DV)):Prop:=∀r,a=some r->b=some r
def vN:List (Int->Option (List DV))->List (Int->Option (List DV))->Prop
 | [],[]=>True
 |p::ps,q::qs=>(∀e,Wq (p e) (q e))/\vN ps qs
 |_,_=>False
theorem vN.refl:∀ {ps:List (Int->Option (List DV))},vN ps ps
 | []=>trivial
 |_::_=>⟨fun _ _ h=>h,vN.refl⟩
theorem ou{C':bY}{N':Nat}(hC:∀f ds,Wq (C f ds) (C' f ds))(hN:N<=N') :
   ∀ {t:au} {Ps Qs:List (Int->Option (List DV))} {ae:aH} {F G:sM},vN Ps Qs->(∀j vs,Wq (F j vs) (G j vs))->Wq (t.run C N Ps ae F) (t.run C' N' Qs ae G):=by
 intro t;induction t with
 |ret vs=>intro Ps Qs ae F G _ _ r h;exact h
 |stuck s=>intro Ps Qs ae F G _ _ r h;cases h
 | ev e t ih=>
   intro Ps Qs ae F G hP hF r h;cases e with
   | aL p=>
     simp only[au.run,Ev.run]at h ⊢;split at h;rename_i hp;rw[if_pos hp];exact ih hP hF r h;cases h
   | call f g args res base=>
     simp only[au.run,Ev.run]at h ⊢;split at h;rename_i hg;rw[if_pos hg];split at h;rename_i rs yN;rw[hC _ _ _ yN];exact ih hP hF r h;cases h;rename_i hg;rw[if_neg hg];exact ih hP hF r h
   |cH id op=>exact ih hP hF r h
   |dB p e=>cases h
 | ite c a b fb fB=>
   intro Ps Qs ae F G hP hF r h;simp only[au.run]at h ⊢;split at h;rename_i hc;rw[if_pos hc];exact fb hP hF r h;rename_i hc;rw[if_neg hc];exact fB hP hF r h
 | loop id es kd base body ih=>
   intro Ps Qs ae F G hP hF r h;simp only[au.run]at h ⊢;have key:∀n n' ds,n<=n'->Wq (iter (fun rec ds=>body.run C N Ps (ae.aB base ds) (BT F id rec)) n ds) (iter (fun rec ds=>body.run C' N' Qs (ae.aB base ds) (BT G id rec)) n' ds):=by
     intro n;induction n with
     |zero=>intro n' ds _ r h;cases h
     | succ n ihn=>
       intro n' ds hn r h;cases n' with
       |zero=>omega
       | succ n'=>
         refine ih hP (fun j vs=>?_) r h;unfold BT;split;exact ihn n' vs (by omega);exact hF j vs
   exact key N N' _ hN r h
 |again id vs=>intro Ps Qs ae F G hP hF r h;exact hF _ _ r h
 | fail e=>
   intro Ps Qs ae F G hP hF r h;cases Ps with
   |nil=>cases h
   | cons p ps=>cases Qs with
     |nil=>exact hP.elim
     |cons q qs=>exact hP.1 _ r h
 | fO x tp t DB ih=>
   intro Ps Qs ae F G hP hF r h;exact ih (Ps:=_::Ps) (Qs:=_::Qs) ⟨fun e=>DB hP hF,hP⟩ hF r h
 | pop t ih=>
   intro Ps Qs ae F G hP hF r h;cases Ps with
   |nil=>cases h
   | cons p ps=>cases Qs with
     |nil=>exact hP.elim
     |cons q qs=>exact ih hP.2 hF r h
def au.gY(E:Nat->List DV->List DV->Prop)(R:List DV->Prop):au->List (Int->Prop)->aH->(Nat->List DV->Prop)->Prop
 |.ret bP,_,ae,_=>R (bP.map (DE.af ae))
 |.stuck _,_,_,_=>False
 |.ev (.aL p) t,Ps,ae,F=>p.af ae=true/\t.gY E R Ps ae F
 |.ev (.call f g args res base) t,Ps,ae,F=>(g.af ae=true->∃rs,E f (args.map (DE.af ae)) rs/\t.gY E R Ps (ae.aB base rs) F)/\(g.af ae=false->t.gY E R Ps (ae.aB base (defs (bL res))) F)
 |.ev (.cH id op) t,Ps,ae,F=>t.gY E R Ps (ae.set id (.l (op.af ae))) F
 |.ev (.dB _ _) _,_,_,_=>False
 |.ite c a b,Ps,ae,F=>(c.af ae=true->a.gY E R Ps ae F)/\(c.af ae=false->b.gY E R Ps ae F)
 |.loop id entry _ base body,Ps,ae,F=>∃(inv:List DV->Prop) (oW:List DV->Nat),inv (entry.map (DE.af ae))/\
     ∀ds,inv ds->body.gY E R Ps (ae.aB base ds) (qv F id (fun vs=>inv vs/\oW vs<oW ds))
 |.again id bP,_,ae,F=>F id (bP.map (DE.af ae))
 |.fail e,Ps,ae,_=>mT Ps (e.af ae)
 |.fO x tp t,Ps,ae,F=>t.gY E R ((fun n=>tp.gY E R Ps (ae.set x (.i n)) F)::Ps) ae F
 | .pop t,Ps,ae,F=>match Ps with
   |_::z7=>t.gY E R z7 ae F
   | []=>False
def QO(C:Nat->bY):Prop:=∀n m f ds,n<=m->Wq (C n f ds) (C m f ds)
def aaq(F:Nat->sM):Prop:=∀n m j vs,n<=m->Wq (F n j vs) (F m j vs)
def FO(P:Nat->List (Int->Option (List DV))):Prop:=∀n m,n<=m->vN (P n) (P m)
def YM(R:List DV->Prop)(P:Nat->List (Int->Option (List DV))):List (Int->Prop)->Prop
 | []=>∀n,P n=[]
 |q::qs=>(∀n,P n≠[])/\(∀e,q e->∃n r,((P n).headD (fun _=>none)) e=some r/\R r)/\YM R (fun n=>(P n).tail) qs
theorem FO.tail{P:Nat->List (Int->Option (List DV))}(h:FO P):FO fun n=>(P n).tail:=by
 intro n m hn;have:=h n m hn;show vN (P n).tail (P m).tail;cases h1:P n with
 | nil=>cases h2:P m with
   |nil=>trivial
   |cons q qs=>rw[h1,h2]at this;exact this.elim
 | cons p ps=>cases h2:P m with
   |nil=>rw[h1,h2]at this;exact this.elim
   |cons q qs=>rw[h1,h2]at this;exact this.2
theorem Wr{C:Nat->bY}{E:Nat->List DV->List DV->Prop}(hC:QO C)(hE:∀f ds rs,E f ds rs->∃n,C n f ds=some rs) :
   ∀ {t:au} {P:Nat->List (Int->Option (List DV))} {Qs:List (Int->Prop)} {ae:aH} {F:Nat->sM} {G:Nat->List DV->Prop},FO P->aaq F->YM R P Qs->(∀j vs,G j vs->∃n r,F n j vs=some r/\R r)->
     t.gY E R Qs ae G->∃n r,t.run (C n) n (P n) ae (F n)=some r/\R r:=by
 intro t;induction t with
 |ret vs=>intro P Qs ae F G _ _ _ _ h;exact⟨0,_,rfl,h⟩
 |stuck s=>intro P Qs ae F G _ _ _ _ h;exact h.elim
 | ev e t ih=>
   intro P Qs ae F G hP hF hQ hG h;cases e with
   | aL p=>
     obtain⟨n,r,h1,h2⟩:=ih hP hF hQ hG h.2;exact⟨n,r,by simp only[au.run,Ev.run,if_pos h.1];exact h1,h2⟩
   | call f g args res base=>
     by_cases hg:g.af ae=true;obtain⟨rs,he,ht⟩:=h.1 hg;obtain⟨n1,ga⟩:=hE _ _ _ he;obtain⟨n,r,h1,h2⟩:=ih hP hF hQ hG ht;refine⟨max n n1,r,?_,h2⟩;simp only[au.run,Ev.run,if_pos hg,hC n1 (max n n1) _ _ (Nat.le_max_right ..) _ ga];exact ou (hC n _ · · (Nat.le_max_left ..)) (Nat.le_max_left ..) (hP _ _ (Nat.le_max_left ..)) (hF _ _ · · (Nat.le_max_left ..)) r h1;have DW:g.af ae=false:=by simpa using hg
     obtain⟨n,r,h1,h2⟩:=ih hP hF hQ hG (h.2 DW);exact⟨n,r,by simp only[au.run,Ev.run,if_neg hg];exact h1,h2⟩
   |cH id op=>exact ih hP hF hQ hG h
   |dB p e=>exact h.elim
 | ite c a b fb fB=>
   intro P Qs ae F G hP hF hQ hG h;by_cases hc:c.af ae=true;obtain⟨n,r,h1,h2⟩:=fb hP hF hQ hG (h.1 hc);exact⟨n,r,by simp only[au.run,if_pos hc];exact h1,h2⟩;obtain⟨n,r,h1,h2⟩:=fB hP hF hQ hG (h.2 (by simpa using hc));exact⟨n,r,by simp only[au.run,if_neg hc];exact h1,h2⟩
 | loop id es kd base body ih=>
   intro P Qs ae F G hP hF hQ hG h;obtain⟨inv,oW,h0,hb⟩:=h;let lp:Nat->Nat->List DV->Option (List DV):=fun n=>iter (fun rec ds=>body.run (C n) n (P n) (ae.aB base ds) (BT (F n) id rec))
   have mono:∀k n m ds,n<=m->∀k',k<=k'->Wq (lp n k ds) (lp m k' ds):=by
     intro k;induction k with
     |zero=>intro n m ds _ k' _ r h;cases h
     | succ k ihk=>
       intro n m ds hn k' hk r h;cases k' with
       |zero=>omega
       | succ k'=>
         refine ou (hC n m · · hn) hn (hP n m hn) (fun j vs=>?_) r h;unfold BT;split;exact ihk n m vs hn k' (by omega);exact hF n m j vs hn
   have key:∀x ds,inv ds->oW ds=x->∃n r,lp n n ds=some r/\R r:=by
     intro x;induction x using Nat.strongRecOn with
     | _ x pV=>
       intro ds hi hx;obtain⟨n,r,h1,h2⟩:=ih (F:=fun n=>BT (F n) id (lp n n)) hP (fun n m j vs hn=>by
         show Wq (BT (F n) id (lp n n) j vs) (BT (F m) id (lp m m) j vs);unfold BT;split;exact mono n n m vs hn m hn;exact hF n m j vs hn) hQ (fun j vs hj=>by
         unfold qv at hj;split at hj;rename_i e;subst e;obtain⟨n,r,h1,h2⟩:=pV _ (by omega) vs hj.1 rfl;exact⟨n,r,by simp only[BT,if_pos];exact h1,h2⟩;rename_i e;obtain⟨n,r,h1,h2⟩:=hG j vs hj;exact⟨n,r,by simp only[BT,if_neg e];exact h1,h2⟩) (hb ds hi)
       refine⟨n+1,r,?_,h2⟩;show body.run (C (n+1)) (n+1) (P (n+1)) (ae.aB base ds) (BT (F (n+1)) id (lp (n+1) n))=some r;refine ou (hC n (n+1) · · (by omega)) (by omega) (hP n (n+1) (by omega)) (fun j vs=>?_) r h1;unfold BT;split;exact mono n n (n+1) vs (by omega) n (fz _);exact hF n (n+1) j vs (by omega)
   obtain⟨n,r,h1,h2⟩:=key _ _ h0 rfl;exact⟨n,r,h1,h2⟩
 |again id vs=>intro P Qs ae F G hP hF hQ hG h;exact hG _ _ h
 | fail e=>
   intro P Qs ae F G hP hF hQ hG h;cases Qs with
   |nil=>exact h.elim
   | cons q qs=>
     obtain⟨n,r,h1,h2⟩:=hQ.2.1 _ h;refine⟨n,r,?_,h2⟩;simp only[au.run];cases hp:P n with
     |nil=>exact absurd hp (hQ.1 n)
     |cons p ps=>rw[hp]at h1;exact h1
 | fO x tp t DB ih=>
   intro P Qs ae F G hP hF hQ hG h;refine ih (P:=fun n=>(fun e=>tp.run (C n) n (P n) (ae.set x (.i e)) (F n))::P n) (Qs:=_::Qs) ?_ hF ⟨fun n=>by simp,fun e he=>?_,hQ⟩ hG h;intro n m hn;exact⟨fun e=>ou (hC n m · · hn) hn (hP n m hn) (hF n m · · hn),hP n m hn⟩;exact DB hP hF hQ hG he
 | pop t ih=>
   intro P Qs ae F G hP hF hQ hG h;cases Qs with
   |nil=>exact h.elim
   | cons q qs=>
     obtain⟨n,r,h1,h2⟩:=ih (P:=fun n=>(P n).tail) hP.tail hF hQ.2.2 hG h;refine⟨n,r,?_,h2⟩;simp only[au.run];cases hp:P n with
     |nil=>exact absurd hp (hQ.1 n)
     |cons p ps=>rw[hp]at h1;exact h1
theorem Oc{R':List DV->Prop}(hR:∀rs,R rs->R' rs):∀ {t:au} {Ps:List (Int->Prop)} {ae:aH} {F:Nat->List DV->Prop},t.holds Γ R Ps ae F->t.holds Γ R' Ps ae F:=by
 have gen:∀ {t:au} {Ps Qs:List (Int->Prop)} {ae:aH} {F:Nat->List DV->Prop},DA Ps Qs->t.holds Γ R Ps ae F->t.holds Γ R' Qs ae F:=by
   intro t;induction t with
   |ret vs=>intro Ps Qs ae F _ h;exact hR _ h
   |stuck s=>intro Ps Qs ae F _ h;exact h
   |again id vs=>intro Ps Qs ae F _ h;exact h
   |ev e t ih=>intro Ps Qs ae F hP h;exact BO (fun e he=>hP.head he) (fun _ h=>ih hP h) h
   |ite c a b fb fB=>intro Ps Qs ae F hP h;exact⟨fun hc=>fb hP (h.1 hc),fun hc=>fB hP (h.2 hc)⟩
   | loop id es kd base body ih=>
     intro Ps Qs ae F hP h;obtain⟨inv,oW,h1,h2⟩:=h;exact⟨inv,oW,h1,fun ds hd hi=>ih hP (h2 ds hd hi)⟩
   |fail e=>intro Ps Qs ae F hP h;exact hP.head h
   |fO x tp t DB ih=>intro Ps Qs ae F hP h;exact ih (Ps:=_::Ps) (Qs:=_::Qs) ⟨fun e he=>DB hP he,hP⟩ h
   | pop t ih=>
     intro Ps Qs ae F hP h;cases Ps with
     |nil=>exact h.elim
     | cons p ps=>cases Qs with
       |nil=>exact hP.elim
       |cons q qs=>exact ih hP.2 h
 intro t Ps ae F h;exact gen DA.refl h
structure ir where
 f:FuncId
 tree:au
 sub:List (FuncId×Nat)
variable{T:Nat->Option ir}{e:ir}
def ir.key(e:ir)(g:FuncId):Nat:=match e.sub.find? (fun p=>p.1==g)with
 |some p=>p.2
 |none=>g
def ev(T:Nat->Option ir)(X:bY):Nat->bY
 |0,_,_=>none
 | n+1,k,ds=>match T k with
   |some e=>e.tree.run (fun g=>ev T X n (e.key g)) n [] (bj.aB 0 ds) (fun _ _=>none)
   |none=>X k ds
theorem gT:QO (ev T X):=by
 intro n;induction n with
 |zero=>intro m f ds _ r h;cases h
 | succ n ih=>
   intro m k ds hm r h;cases m with
   |zero=>omega
   | succ m=>
     simp only[ev]at h ⊢;split at h;exact ou (fun g ds=>ih m _ ds (by omega)) (by omega) vN.refl (fun _ _ _ h=>h) r h;exact h
def eR(T:Nat->Option ir)(X:bY)(k:Nat)(ds rs:List DV):Prop:=∃n,ev T X n k ds=some rs
theorem eR.det{gh:List DV}(h:eR T X k ds rs)(h':eR T X k ds gh):rs=gh:=by
 obtain⟨n,hn⟩:=h;obtain⟨m,hm⟩:=h';have a:=gT n (max n m) k ds (Nat.le_max_left ..) rs hn;have b:=gT m (max n m) k ds (Nat.le_max_right ..) gh hm;rw[a]at b;simpa using b
theorem ov(hk:T k=some e)(h:e.tree.gY (fun g=>eR T X (e.key g)) R [] (bj.aB 0 ds) (fun _ _=>False)):∃rs,eR T X k ds rs/\R rs:=by
 obtain⟨n,r,h1,h2⟩:=Wr (C:=fun n g=>ev T X n (e.key g)) (E:=fun g=>eR T X (e.key g)) (R:=R) (fun n m f ds hn=>gT n m _ ds hn) (fun f ds rs h=>h) (t:=e.tree) (P:=fun _=>[]) (Qs:=[]) (ae:=bj.aB 0 ds) (F:=fun _ _ _=>none) (G:=fun _ _=>False)
   (fun _ _ _=>trivial) (fun _ _ _ _ _ _ h=>h) (fun _=>rfl) (fun _ _ h=>h.elim) h
 exact⟨r,⟨n+1,by simp only[ev,hk];exact h1⟩,h2⟩
theorem jy(hk:T k=none)(h:X k ds=some rs):eR T X k ds rs:=⟨1,by simp only[ev,hk];exact h⟩
variable {P:Program}
def pF(T:Nat->Option ir)(k:Nat):FuncId:=match T k with
 |some e=>e.f
 |none=>k
def vO(T:Nat->Option ir)(Xd:Nat->Bool)(k:Nat):Bool:=(T k).isSome||Xd k
def Has(P:Program)(Wd:World->Prop)(f:FuncId)(c:dJ):Prop:=if c.sig.cons=0 then fw P Wd f c\/uY P f c else jv P Wd f c
def Ws:CT->DE->Bool
 |.s _ _,.rows _=>true
 |.s _ _,.vu _=>true
 |c,d=>tO c d
def El:List CT->List DE->Bool
 | [],[]=>true
 |c::cs,d::ds=>Ws c d&&El cs ds
 |_,_=>false
def au.nB(ks:List CT):au->Bool
 |.ret bP=>El ks bP
 |.ev _ t=>t.nB ks
 |.ite _ a b=>a.nB ks&&b.nB ks
 |.loop _ _ _ _ t=>t.nB ks
 |.fO _ a b=>a.nB ks&&b.nB ks
 |.pop t=>t.nB ks
 |_=>true
theorem Od{ae:aH}:∀ {ks:List CT} {ds:List DE},El ks ds=true->kinds ks (ds.map (DE.af ae))=true:=by
 intro ks;induction ks with
 |nil=>intro ds h;cases ds<;>simp_all[El,kinds]
 | cons c ks ih=>intro ds h;cases ds with
   |nil=>simp[El]at h
   | cons d ds=>
     simp only[El,ao]at h;simp only[kD,kinds,ih h.2,Bool.and_true];have:=h.1;cases c with
     |c k=>cases k<;>cases d<;>simp_all[Ws,tO,DE.af,DV.kind]
     |s e ks=>cases d<;>simp_all[Ws,tO,DE.af,DV.kind]
     |n e aO=>cases d<;>simp_all[Ws,tO,DE.af,DV.kind]
theorem Oe{ks:List CT}:∀ {t:au} {Ps:List (Int->Option (List DV))} {ae:aH} {F:sM} {r:List DV},t.nB ks=true->(∀p∈Ps,∀e r,p e=some r->kinds ks r=true)->(∀j vs r,F j vs=some r->kinds ks r=true)->t.run C N Ps ae F=some r->kinds ks r=true:=by
 intro t;induction t with
 |ret vs=>intro Ps ae F r ht _ _ h;simp only[au.run,ah]at h;subst h;exact Od ht
 |stuck s=>intro Ps ae F r _ _ _ h;cases h
 | ev e t ih=>
   intro Ps ae F r ht hP hF h;have ht:t.nB ks=true:=ht;cases e with
   | aL p=>
     simp only[au.run,Ev.run]at h;split at h;exact ih ht hP hF h;cases h
   | call f g args res base=>
     simp only[au.run,Ev.run]at h;split at h;split at h;exact ih ht hP hF h;cases h;exact ih ht hP hF h
   |cH id op=>exact ih ht hP hF h
   |dB p e=>cases h
 | ite c a b fb fB=>
   intro Ps ae F r ht hP hF h;simp only[au.nB,ao]at ht;simp only[au.run]at h;split at h;exact fb ht.1 hP hF h;exact fB ht.2 hP hF h
 | loop id es kd base body ih=>
   intro Ps ae F r ht hP hF h;have ht:body.nB ks=true:=ht;simp only[au.run]at h;have key:∀n ds r,iter (fun rec ds=>body.run C N Ps (ae.aB base ds) (BT F id rec)) n ds=some r->kinds ks r=true:=by
     intro n;induction n with
     |zero=>intro ds r h;cases h
     | succ n ihn=>
       intro ds r h;refine ih ht hP (fun j vs r hj=>?_) h;unfold BT at hj;split at hj;exact ihn vs r hj;exact hF j vs r hj
   exact key N _ r h
 |again id vs=>intro Ps ae F r _ _ hF h;exact hF _ _ _ h
 | fail e=>
   intro Ps ae F r _ hP _ h;cases Ps with
   |nil=>cases h
   |cons p ps=>exact hP p (aU ..) _ _ h
 | fO x tp t DB ih=>
   intro Ps ae F r ht hP hF h;simp only[au.nB,ao]at ht;refine ih (Ps:=_::Ps) ht.2 (fun p hp e r he=>?_) hF h;rcases bF.1 hp with rfl|hp;exact DB ht.1 hP hF he;exact hP p hp e r he
 | pop t ih=>
   intro Ps ae F r ht hP hF h;have ht:t.nB ks=true:=ht;cases Ps with
   |nil=>cases h
   |cons p ps=>exact ih ht (fun q hq=>hP q (bn _ hq)) hF h
def YN(P:Program)(Wd:World->Prop)(T:Nat->Option ir)(Xd:Nat->Bool)(sg:Nat->Option bW)(k:Nat)(e:ir):Prop:=
 ∃aR fn c fuel s,(aR.no=[]/\e.tree.nB (bL s.res)=true)/\sg k=some s/\ke P aR/\(∀g s',aR.sig g=some s'->sg (e.key g)=some s'/\pF T (e.key g)=g)/\(∀g,vO T Xd (e.key g)=true->(aR.sig g).isSome=true)/\
   P.funcs[e.f]?=some fn/\fn.body=some c/\(fn.name == "runtime.NumGoroutine")=false/\prune [] (tP P aR e.f fn s fuel)=e.tree/\
   (∀w,Wd w->∀g cs,(g,cs)∈aR.zN->∃T z,w.heap[g]?=some (.cells (cs.map fun n=>Value.int .i64 n).toArray T z))
structure BU(P:Program)(Wd:World->Prop)(T:Nat->Option ir)(X:bY)(Xd:Nat->Bool)(sg:Nat->Option bW):Prop where
 stays:∀w w',Wd w->Below w.heap.size w w'->Wd w'
 ent:∀k e,T k=some e->YN P Wd T Xd sg k e
 adJ:∀k s,T k=none->sg k=some s->∀ds rs,X k ds=some rs->kinds (bL s.res) rs=true
 ext:∀k s,T k=none->Xd k=true->sg k=some s->Has P Wd k ⟨s,fun ds=>∃rs,kinds (bL s.res) rs=true/\X k ds=some rs,fun ds rs=>X k ds=some rs,fun _ h=>h⟩
 non:∀k ds,Xd k=false->X k ds=none
theorem jv.weaken{Wd:World->Prop}(h:jv P Wd f c)(hs:c'.sig=c.sig)(hp:∀ds,c'.pre ds->c.pre ds)(hr:∀ds rs,c'.pre ds->c.rel ds rs->c'.rel ds rs):jv P Wd f c':=by
 obtain⟨s,pre,rel,ne⟩:=c;obtain⟨s',FP,HS,ne'⟩:=c';simp only at hs;subst hs;exact⟨h.1,fun w B gi ds hw ha hd=>(h.2 w B gi ds hw ha (hp ds hd)).mono fun e w' he=>by
   obtain⟨b8,gX,e1,e2,e3,e4,e5,e6⟩:=he;exact⟨b8,gX,e1,e2,e3,e4,e5,hr _ _ hd e6⟩⟩
theorem fw.weaken{Wd:World->Prop}(h:fw P Wd f c)(hs:c'.sig=c.sig)(hp:∀ds,c'.pre ds->c.pre ds)(hr:∀ds rs,c'.pre ds->c.rel ds rs->c'.rel ds rs):fw P Wd f c':=by
 obtain⟨s,pre,rel,ne⟩:=c;obtain⟨s',FP,HS,ne'⟩:=c';simp only at hs;subst hs;exact⟨h.1,fun w vs ds hw ha hd=>(h.2 w vs ds hw ha (hp ds hd)).mono fun e w' he=>by
   obtain⟨b8,gX,e1,e2,e3,e4,e5⟩:=he;exact⟨b8,gX,e1,e2,e3,e4,hr _ _ hd e5⟩⟩
theorem uY.weaken(h:uY P f c)(hs:c'.sig=c.sig)(hp:∀ds,c'.pre ds->c.pre ds)(hr:∀ds rs,c'.pre ds->c.rel ds rs->c'.rel ds rs):uY P f c':=by
 obtain⟨s,pre,rel,ne⟩:=c;obtain⟨s',FP,HS,ne'⟩:=c';simp only at hs;subst hs;exact fun w vs ds ha hd=>by
   obtain⟨b8,gX,e1,e2,e3,e4⟩:=h w vs ds ha (hp ds hd);exact⟨b8,gX,e1,e2,e3,hr _ _ hd e4⟩
theorem Has.weaken{Wd:World->Prop}(h:Has P Wd f c)(hs:c'.sig=c.sig)(hp:∀ds,c'.pre ds->c.pre ds)(hr:∀ds rs,c'.pre ds->c.rel ds rs->c'.rel ds rs):Has P Wd f c':=by
 unfold Has at h ⊢;rw[hs];split at h;rename_i hc;rw[if_pos hc];exact h.imp (fun a=>a.weaken hs hp hr) (fun a=>a.weaken hs hp hr);rename_i hc;rw[if_neg hc];exact h.weaken hs hp hr
theorem QP{Wd:World->Prop}(h:if c.sig.cons=0 then fw P Wd f c else jv P Wd f c):Has P Wd f c:=by
 unfold Has;split at h;rename_i hc;rw[if_pos hc];exact .inl h;rename_i hc;rw[if_neg hc];exact h
theorem Has.known{Wd:World->Prop}{w0:World}(h:Has P Wd f c)(hw:∀w,Below w0.heap.size w0 w->Wd w):if c.sig.cons=0 then wN P w0 f c\/uY P f c else jv P (Below w0.heap.size w0) f c:=by
 unfold Has at h;split at h;rename_i hc;rw[if_pos hc];exact h.imp (fun a=>a.at hw) (fun a=>a);rename_i hc;rw[if_neg hc];exact⟨h.1,fun w B gi ds hb ha hp=>h.2 w B gi ds (hw w hb) ha hp⟩
abbrev evC(T:Nat->Option ir)(X:bY)(n k:Nat)(s:bW):dJ:=⟨s,fun ds=>∃rs,kinds (bL s.res) rs=true/\ev T X n k ds=some rs,fun ds rs=>ev T X n k ds=some rs,fun _ h=>h⟩
theorem ud{Wd:World->Prop}{Xd:Nat->Bool}(h:BU P Wd T X Xd sg){n:Nat}{s:bW}(hs:sg k=some s)(hr:ev T X n k ds=some rs):kinds (bL s.res) rs=true:=by
 cases n with
 |zero=>cases hr
 | succ n=>
   simp only[ev]at hr;cases hT:T k with
   |none=>rw[hT]at hr;exact h.adJ k s hT hs ds rs hr
   | some e=>
     rw[hT]at hr;obtain⟨aR,fn,c,fuel,s',h0,h1,_⟩:=h.ent k e hT;rw[hs,ah]at h1;subst h1;exact Oe h0.2 (fun p hp=>by simp at hp) (fun j vs r hj=>by cases hj) hr
theorem QQ{Wd:World->Prop}{Xd:Nat->Bool}(h:BU P Wd T X Xd sg) :
   ∀n k s,sg k=some s->vO T Xd k=true->Has P Wd (pF T k) (evC T X n k s):=by
 intro n;induction n with
 | zero=>
   intro k s hs hd;cases hT:T k with
   | none=>
     have hx:Xd k=true:=by simpa[vO,hT]using hd
     have hf:pF T k=k:=by simp[pF,hT]
     rw[hf];refine(h.ext k s hT hx hs).weaken rfl (fun ds hp=>?_) (fun ds rs hp _=>?_)<;>(obtain⟨rs,_,yN⟩:=hp;cases yN)
   | some e=>
     obtain⟨aR,fn,c,fuel,s',h0,h1,h2,_,_,h5,h6,h7,h8,h9⟩:=h.ent k e hT;rw[hs,ah]at h1;subst h1;have hf:pF T k=e.f:=by simp[pF,hT]
     rw[hf];refine QP (z8 (Γ:=⟨fun _=>none,fun _=>False⟩) h2 (fun w hw=>⟨fun f c hc=>(by cases hc),h9 w hw⟩) h5 h6 h7 h0.1 h8 fun ds hk hp=>?_);obtain⟨rs,_,yN⟩:=hp;cases yN
 | succ n ih=>
   intro k s hs hd;cases hT:T k with
   | none=>
     have hx:Xd k=true:=by simpa[vO,hT]using hd
     have hf:pF T k=k:=by simp[pF,hT]
     rw[hf];refine(h.ext k s hT hx hs).weaken rfl (fun ds hp=>?_) (fun ds rs hp hr=>?_)<;>simp only[ev,hT]at * <;>assumption
   | some e=>
     obtain⟨aR,fn,c,fuel,s',h0,h1,h2,h3,h4,h5,h6,h7,h8,h9⟩:=h.ent k e hT;rw[hs,ah]at h1;subst h1;have hf:pF T k=e.f:=by simp[pF,hT]
     rw[hf];let Γ:bX:=⟨fun g=>match aR.sig g with
       |some s'=>if vO T Xd (e.key g)=true then some (evC T X n (e.key g) s')else none
       |none=>none,fun _=>False⟩
     have jb:∀w,Wd w->eN P Γ aR w:=by
       refine fun w hw=>⟨fun g c hc=>?_,h9 w hw⟩;simp only[Γ]at hc;split at hc;rename_i s' j4;split at hc;rename_i hdg;simp only[ah]at hc;subst hc;obtain⟨g1,g2⟩:=h3 g s' j4;have:=ih (e.key g) s' g1 hdg;rw[g2]at this;exact⟨this.known fun w' hb=>h.stays w w' hw hb,j4⟩;cases hc;cases hc
     refine QP (z8 (Γ:=Γ) h2 jb h5 h6 h7 h0.1 h8 fun ds hk hp=>?_);obtain⟨r,_,hr⟩:=hp;have cY:=hr;simp only[ev,hT]at hr;have:=Ob (Γ:=Γ) (C:=fun g=>ev T X n (e.key g)) (N:=n) (r:=r) (fun g ds rs hg=>by
       have hdg:vO T Xd (e.key g)=true:=by
         unfold vO;cases hTg:T (e.key g)with
         |some _=>rfl
         | none=>
           cases n with
           |zero=>cases hg
           | succ n=>
             simp only[ev,hTg]at hg;cases hx:Xd (e.key g)with
             |true=>rfl
             |false=>rw[h.non _ _ hx]at hg;cases hg
       obtain⟨s',j4⟩:=A6.1 (h4 g hdg);refine⟨evC T X n (e.key g) s',by simp only[Γ,j4,hdg,if_true],⟨rs,ud h (h3 g s' j4).1 hg,hg⟩,fun gh cY=>?_⟩;have cY:ev T X n (e.key g) ds=some gh:=cY;rw[hg]at cY;simpa using cY.symm) (Ps:=[]) (Qs:=[]) (G:=fun _ _=>False) trivial (fun j vs hj=>by cases hj) hr
     refine Oc (fun rs yN=>?_) this;subst yN;exact cY
theorem xO{Wd:World->Prop}{Xd:Nat->Bool}(h:BU P Wd T X Xd sg){ct:dJ}(hT:T k=some e)(hs:sg k=some ct.sig)(tU:ct.sig.cons=0)(hp:∀ds,kinds (bL ct.sig.args) ds=true->ct.pre ds->∃rs,eR T X k ds rs/\ct.rel ds rs) :
   fw P Wd e.f ct:=by
 have hd:vO T Xd k=true:=by simp[vO,hT]
 have hf:pF T k=e.f:=by simp[pF,hT]
 obtain⟨aR,fn,c,fuel,s',h0,h1,h2,h3,h4,h5,h6,h7,h8,h9⟩:=h.ent k e hT;refine⟨dT h5 h6 h7,fun w vs ds hwd ha Dm=>?_⟩;have hk:kinds (bL ct.sig.args) ds=true:=by obtain⟨_,_,hf⟩:=ha;exact jt hf
 obtain⟨rs,⟨n,hn⟩,hr⟩:=hp ds hk Dm;have hc:=QQ h n k ct.sig hs hd;rw[hf]at hc;unfold Has at hc;rw[if_pos tU]at hc;rcases hc with hc|hc;refine(hc.2 w vs ds hwd ha ⟨rs,ud h hs hn,hn⟩).mono fun ex w' he=>?_;obtain⟨b8,gX,e1,e2,e3,e4,e5⟩:=he;have e5:ev T X n k ds=some gX:=e5;rw[hn,ah]at e5;subst e5;exact⟨b8,rs,e1,e2,e3,e4,hr⟩;obtain⟨b8,gX,e1,_,_,_⟩:=hc w vs ds ha ⟨rs,ud h hs hn,hn⟩;have:=(dT h5 h6 h7) w vs.toArray;rw[this]at e1;cases e1
end
section
variable{pre:List DV->Prop}{rel:List DV->List DV->Prop}{T:Nat->Option ir}{X:bY}{id k:Nat}{FP:List DV->Prop}{HS:List DV->List DV->Prop}{bP:List DE}{base:Nat}{f:FuncId}
def vy(T:Nat->Option ir)(X:bY)(k:Nat)(pre:List DV->Prop)(rel:List DV->List DV->Prop):Prop:=∀ds,pre ds->∃rs,eR T X k ds rs/\rel ds rs
theorem vy.weaken(h:vy T X k pre rel)(hp:∀ds,FP ds->pre ds)(hr:∀ds rs,FP ds->rel ds rs->HS ds rs):vy T X k FP HS:=
 fun ds hd=>let⟨rs,h1,h2⟩:=h ds (hp ds hd);⟨rs,h1,hr ds rs hd h2⟩
theorem vy.and(h:vy T X k pre rel)(h':vy T X k FP HS):vy T X k (fun ds=>pre ds/\FP ds) (fun ds rs=>rel ds rs/\HS ds rs):=
 fun ds hd=>by
   obtain⟨rs,h1,h2⟩:=h ds hd.1;obtain⟨gh,K5,h2'⟩:=h' ds hd.2;cases h1.det K5;exact⟨rs,h1,h2,h2'⟩
theorem wT{tr:au}{sub:List (FuncId×Nat)}(hk:T k=some ⟨f,tr,sub⟩)
   (h:∀ds,pre ds->tr.gY (fun g=>eR T X ((ir.mk f tr sub).key g)) (rel ds) [] (bj.aB 0 ds) (fun _ _=>False)):vy T X k pre rel:=fun ds hd=>ov hk (h ds hd)
variable {E:Nat->List DV->List DV->Prop}{R:List DV->Prop}{Ps:List (Int->Prop)}{ae:aH}{F:Nat->List DV->Prop}{t t':au}
theorem sk{p:BE}(h:p.af ae=true)(ht:t.gY E R Ps ae F):(au.ev (.aL p) t).gY E R Ps ae F:=⟨h,ht⟩
theorem gU{op:dw}{M:List (List Int)}(e:op.af ae=M)(ht:t.gY E R Ps (ae.set id (.l M)) F):(au.ev (.cH id op) t).gY E R Ps ae F:=by subst e;exact ht
theorem ue{args:List DE}{res:List VT}(hc:∀ds,pre ds->∃rs,E f ds rs/\rel ds rs)(hp:pre (args.map (DE.af ae)))
   (ht:∀rs,E f (args.map (DE.af ae)) rs->rel (args.map (DE.af ae)) rs->t.gY E R Ps (ae.aB base rs) F):(au.ev (.call f (.c true) args res base) t).gY E R Ps ae F:=
 ⟨fun _=>let⟨rs,h1,h2⟩:=hc _ hp;⟨rs,h1,ht rs h1 h2⟩,fun h=>by simp[BE.af]at h⟩
theorem jR{c:BE}(h1:c.af ae=true->t.gY E R Ps ae F)(h2:c.af ae=false->t'.gY E R Ps ae F):(au.ite c t t').gY E R Ps ae F:=⟨h1,h2⟩
theorem mN{entry:List DE}{ks:List CT}{body:au}(inv:List DV->Prop)(oW:List DV->Nat)(h0:inv (entry.map (DE.af ae)))
   (hb:∀ds,inv ds->body.gY E R Ps (ae.aB base ds) (qv F id (fun vs=>inv vs/\oW vs<oW ds))):(au.loop id entry ks base body).gY E R Ps ae F:=⟨inv,oW,h0,hb⟩
theorem ld{G:List DV->Prop}(h:G (bP.map (DE.af ae))):(au.again id bP).gY E R Ps ae (qv F id G):=by
 simpa[au.gY,qv]using h
theorem BV(h:R (bP.map (DE.af ae))):(au.ret bP).gY E R Ps ae F:=h
end
section
variable{base id:Nat}{args bP:List DE}{f:FuncId}{res:List VT}
def au.par(E:Nat->List DV->List DV->Prop)(R:List DV->Prop):au->List (Int->Prop)->aH->(Nat->List DV->Prop)->Prop
 |.ret bP,_,ae,_=>R (bP.map (DE.af ae))
 |.stuck _,_,_,_=>True
 |.ev (.aL p) t,Ps,ae,F=>p.af ae=true->t.par E R Ps ae F
 |.ev (.call f g args res base) t,Ps,ae,F=>(g.af ae=true->∀rs,E f (args.map (DE.af ae)) rs->t.par E R Ps (ae.aB base rs) F)/\(g.af ae=false->t.par E R Ps (ae.aB base (defs (bL res))) F)
 |.ev (.cH id op) t,Ps,ae,F=>t.par E R Ps (ae.set id (.l (op.af ae))) F
 |.ev (.dB _ _) _,_,_,_=>True
 |.ite c a b,Ps,ae,F=>(c.af ae=true->a.par E R Ps ae F)/\(c.af ae=false->b.par E R Ps ae F)
 |.loop id entry _ base body,Ps,ae,F=>∃inv:List DV->Prop,inv (entry.map (DE.af ae))/\∀ds,inv ds->body.par E R Ps (ae.aB base ds) (qv F id inv)
 |.again id bP,_,ae,F=>F id (bP.map (DE.af ae))
 |.fail e,Ps,ae,_=>mT Ps (e.af ae)
 |.fO x tp t,Ps,ae,F=>t.par E R ((fun n=>tp.par E R Ps (ae.set x (.i n)) F)::Ps) ae F
 |.pop t,Ps,ae,F=>t.par E R Ps.tail ae F
def YW(R:List DV->Prop):List (Int->Option (List DV))->List (Int->Prop)->Prop
 | [],_=>True
 |p::ps,q::qs=>(∀e,q e->∀r,p e=some r->R r)/\YW R ps qs
 |_::_,[]=>False
theorem WK{C:bY}{N:Nat}{E:Nat->List DV->List DV->Prop}{R:List DV->Prop}(hC:∀f ds rs,C f ds=some rs->E f ds rs) :
   ∀ {t:au} {Ps:List (Int->Option (List DV))} {Qs:List (Int->Prop)} {ae:aH} {F:sM} {G:Nat->List DV->Prop},YW R Ps Qs->(∀j vs,G j vs->∀r,F j vs=some r->R r)->t.par E R Qs ae G->∀r,t.run C N Ps ae F=some r->R r:=by
 intro t;induction t with
 |ret bP=>intro Ps Qs ae F G _ _ h r e;cases e;exact h
 |stuck s=>intro Ps Qs ae F G _ _ h r e;cases e
 | ev e t ih=>
   intro Ps Qs ae F G hP hF h r er;cases e with
   | aL p=>
     simp only[au.run,Ev.run]at er;split at er;rename_i hp;exact ih hP hF (h hp) r er;cases er
   | call f g args res base=>
     simp only[au.run,Ev.run]at er;split at er;rename_i hg;split at er;rename_i rs yN;exact ih hP hF (h.1 hg rs (hC _ _ _ yN)) r er;cases er;rename_i hg;exact ih hP hF (h.2 (by simpa using hg)) r er
   |cH id op=>exact ih hP hF h r er
   |dB p e=>cases er
 | ite c a b fb fB=>
   intro Ps Qs ae F G hP hF h r er;simp only[au.run]at er;split at er;rename_i hc;exact fb hP hF (h.1 hc) r er;rename_i hc;exact fB hP hF (h.2 (by simpa using hc)) r er
 | loop id es kd base body ih=>
   intro Ps Qs ae F G hP hF h r er;obtain⟨inv,h0,hb⟩:=h;simp only[au.run]at er;have key:∀n ds,inv ds->∀r,iter (fun rec ds=>body.run C N Ps (ae.aB base ds) (BT F id rec)) n ds=some r->R r:=by
     intro n;induction n with
     |zero=>intro ds _ r e;cases e
     | succ n ihn=>
       intro ds hi r e;refine ih hP (fun j vs hj r hr=>?_) (hb ds hi) r e;unfold qv at hj;unfold BT at hr;split at hj;rename_i e;rw[if_pos e]at hr;exact ihn vs hj r hr;rename_i e;rw[if_neg e]at hr;exact hF j vs hj r hr
   exact key N _ h0 r er
 |again id vs=>intro Ps Qs ae F G hP hF h r er;exact hF _ _ h r er
 | fail e=>
   intro Ps Qs ae F G hP hF h r er;cases Ps with
   |nil=>cases er
   | cons p ps=>cases Qs with
     |nil=>exact hP.elim
     |cons q qs=>exact hP.1 _ h r er
 | fO x tp t DB ih=>
   intro Ps Qs ae F G hP hF h r er;exact ih (Ps:=_::Ps) (Qs:=_::Qs) ⟨fun e he r hr=>DB hP hF he r hr,hP⟩ hF h r er
 | pop t ih=>
   intro Ps Qs ae F G hP hF h r er;cases Ps with
   |nil=>cases er
   | cons p ps=>cases Qs with
     |nil=>exact hP.elim
     |cons q qs=>exact ih hP.2 hF h r er
theorem bV{T:Nat->Option ir}{X:bY}{k:Nat}{e:ir}{ds rs:List DV}{R:List DV->Prop}(hk:T k=some e)(h:e.tree.par (fun g=>eR T X (e.key g)) R [] (bj.aB 0 ds) (fun _ _=>True))(hg:eR T X k ds rs):R rs:=by
 obtain⟨n,hn⟩:=hg;cases n with
 |zero=>cases hn
 | succ n=>
   simp only[ev,hk]at hn;exact WK (E:=fun g=>eR T X (e.key g)) (Ps:=[]) (Qs:=[]) (G:=fun _ _=>True) (fun f ds rs hf=>⟨n,hf⟩) trivial (fun j vs _ r hr=>by cases hr) h rs hn
variable {E:Nat->List DV->List DV->Prop}{R:List DV->Prop}{Ps:List (Int->Prop)}{ae:aH}{F:Nat->List DV->Prop}{t t':au}
theorem bh{p:BE}(ht:p.af ae=true->t.par E R Ps ae F):(au.ev (.aL p) t).par E R Ps ae F:=ht
theorem xV{op:dw}(ht:t.par E R Ps (ae.set id (.l (op.af ae))) F):(au.ev (.cH id op) t).par E R Ps ae F:=ht
theorem bp(ht:∀rs,E f (args.map (DE.af ae)) rs->t.par E R Ps (ae.aB base rs) F):(au.ev (.call f (.c true) args res base) t).par E R Ps ae F:=
 ⟨fun _=>ht,fun h=>by simp[BE.af]at h⟩
theorem LY{g:BE}(ht:g.af ae=true->∀rs,E f (args.map (DE.af ae)) rs->t.par E R Ps (ae.aB base rs) F)(hn:g.af ae=false->t.par E R Ps (ae.aB base (defs (bL res))) F):(au.ev (.call f g args res base) t).par E R Ps ae F:=⟨ht,hn⟩
theorem lk{c:BE}(h1:c.af ae=true->t.par E R Ps ae F)(h2:c.af ae=false->t'.par E R Ps ae F):(au.ite c t t').par E R Ps ae F:=⟨h1,h2⟩
theorem ll{entry:List DE}{ks:List CT}{body:au}(inv:List DV->Prop)(h0:inv (entry.map (DE.af ae)))
   (hb:∀ds,inv ds->body.par E R Ps (ae.aB base ds) (qv F id inv)):(au.loop id entry ks base body).par E R Ps ae F:=⟨inv,h0,hb⟩
theorem vb{G:List DV->Prop}(h:G (bP.map (DE.af ae))):(au.again id bP).par E R Ps ae (qv F id G):=by
 simpa[au.par,qv]using h
theorem c8(h:R (bP.map (DE.af ae))):(au.ret bP).par E R Ps ae F:=h
end
end Go.Sx

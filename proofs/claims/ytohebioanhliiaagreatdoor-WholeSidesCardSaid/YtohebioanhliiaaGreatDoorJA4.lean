/- The symbolic executor: its soundness, and what a table of functions gives. -/
import Derived.Test.YtohebioanhliiaaGreatDoorJA3
set_option linter.unusedVariables false
set_option linter.unusedSimpArgs false
namespace Go.Sx
section
open Go.RowKit
variable {ae aq:az}{ph aJ:Ph}{P:Program}
theorem Eh{w:World}{g:Nat}{v:Value}{T:TypeId}{z:Nat×Nat}(h:w.heap[g]?=some (.cells #[v] T z)):w.setCell ⟨g,0,none⟩ v=w:=by
 obtain⟨heap,tape,drawn,os,output⟩:=w;simp only[World.setCell];congr 1;apply Array.ext_getElem?;intro k;rw[Array.getElem?_modify];split;rename_i e;simp only at h e ⊢;subst e;rw[h];simp;rfl
theorem za(w:World)(g j:Nat)(v:Value):w.grownBy (w.setCell ⟨g,j,none⟩ v) (some g):=
 ⟨rfl,rfl,rfl,by simp[World.setCell],fun k _ hk=>Below.heap_setCell _ _ _ _ (fun e=>hk (by rw[e]))⟩
theorem lA{h st:St}(hp:nS (some h) st=true){b:iA}(hb:b∈h.aX):b∈st.aX:=by
 simp only[nS,ao,jE,aC]at hp;exact(eA (hp.1.1 b hb)).1
theorem LP{h st:St}(hp:nS (some h) st=true){r:Row}(hr:r∈h.rows):r∈st.rows:=by
 simp only[nS,ao,jE,aC]at hp;exact(aY (hp.1.2 r hr)).1
theorem nY{h st:St}(hp:nS (some h) st=true){r:dX}(hr:r∈h.a8):r∈st.a8:=by
 simp only[nS,ao,jE,aC]at hp;simpa using hp.2 r hr
theorem F9{aM:kp}{w0 w2:World}{st uZ:St}{c:Int}{o:Obj}(hd:st.o0=[])(hnb:∀b∈st.aX,b.all st.has=true)(qn:∀r∈st.rows,r.all st.has=true)(hnn:∀r∈st.a8,r.all st.has=true)(hM:sS w0 aq aJ uZ w2)(hp:nS (some (fO aM st)) uZ=true)
   (Ty:aM.FH.contains st.next=false) (bL:∀k,k<st.next+1->ae k=aq k) :
   sS w0 (ae.set (st.next+1) (.i c)) aJ (lU (fO aM st) st.next (.v (st.next+1))) ((w2.alloc o).setCell ⟨aJ.r st.next,0,none⟩ (.int .i64 c)):=by
 have hh:=dy hd;rw[hh]at hnb qn hnn;have YG:(⟨st.next,aM.pc,[.i .i64 (.c 0)]⟩:iA)∈(fO aM st).aX:=by
   simp only[fO,pR,T3,jA,gk,true_or,true_and,Ty,Bool.not_false]
 have JG:=hM.mem.ny _ (lA hp YG);have bn:∀b∈(fO aM st).aX,b=⟨st.next,aM.pc,[.i .i64 (.c 0)]⟩\/(b∈st.aX/\b.id<st.next):=fun b hb=>by
   simp only[fO,pR,T3,jA,gk]at hb;rcases hb.1 with h|h;exact .inl h;refine .inr ⟨h,?_⟩;have:=hnb b h;simp only[iA.all,ao,bh,aC]at this;exact this.1
 have gT:(fO aM st).rows=st.rows:=rfl;have jB:∀k,bh st.next k=true->aq k=ae.set (st.next+1) (.i c) k:=fun k hk=>by
   simp only[bh,aC]at hk;rw[<- bL k (by omega),az.set,if_neg (by omega)]
 have hA:bt (bh st.next) aq (ae.set (st.next+1) (.i c)) aJ aJ:=⟨jB,fun _ _=>rfl,fun _ _=>rfl⟩;have NS:w2.grownBy (w2.alloc o) (some (aJ.r st.next)):=iZ (World.grownBy_alloc w2 _ none);have hg:w2.grownBy ((w2.alloc o).setCell ⟨aJ.r st.next,0,none⟩ (.int .i64 c)) (some (aJ.r st.next)):=oZ NS (za _ _ _ _);have hrf:∀r∈st.rows,r.bU (ae.set (st.next+1) (.i c)) aJ=r.bU aq aJ/\r.g.af (ae.set (st.next+1) (.i c))=r.g.af aq/\r∈uZ.rows:=fun r hr=>by
   have:=qn r hr;simp only[Row.all,ao]at this;refine⟨by unfold Row.bU;rw[<- jB _ this.2.1],(BE.ar jB this.2.2).symm,LP hp (by rw[gT];exact hr)⟩
 have Au:∀b'∈(lU (fO aM st) st.next (.v (st.next+1))).aX,∃b∈(fO aM st).aX,b'.id=b.id/\b∈uZ.aX/\((b.id=st.next/\b' = {b with cells:=[.i .i64 (.v (st.next+1))] }/\b=⟨st.next,aM.pc,[.i .i64 (.c 0)]⟩)\/(b.id≠st.next/\b'=b/\b∈st.aX)):=fun b' nB=>by
   simp only[lU,jb]at nB;obtain⟨b,hb,rfl⟩:=nB;refine⟨b,hb,by split<;>rfl,lA hp hb,?_⟩;rcases bn b hb with h|⟨h1,h2⟩;exact .inl ⟨by rw[h],by rw[if_pos (by rw[h])],h⟩;exact .inr ⟨by omega,by rw[if_neg (by omega)],h1⟩
 refine⟨⟨fun b' nB=>?_,fun b' nB b1' agf cQ=>?_,fun r hr h1=>?_,fun b' nB r hr h1=>?_,fun r hr r' cO cQ ho h1 h2 k hk cY=>?_⟩,?_,fun b' nB=>?_,fun r hr=>?_,?_⟩
 . obtain⟨b,hb,kT,uS,⟨h1,h2,h3⟩|⟨h1,h2,h3⟩⟩:=Au b' nB
   . subst h3;subst h2;refine⟨JG.1,?_⟩;have hx:(w2.alloc o).heap[aJ.r st.next]?=some (.cells #[.int .i64 0] aM.pc (0,0)):=by
       rw[Below.heap_alloc _ _ _ JG.lt];simpa[ak.af,IE.af]using JG.2
     simp only[World.setCell,Array.getElem?_modify,if_true,hx];simp[ak.af,IE.af,az.set,DV.int]
   . subst h2;have Tz:=hM.mem.ny _ uS;have cQ:aJ.r b'.id≠aJ.r st.next:=hM.mem.bb _ uS _ (lA hp YG) h1
     have h4:=Tz.grown hg (fun e=>cQ (by simpa using e));have ch:=hnb _ h3;simp only[iA.all,ao]at ch;refine⟨h4.1,?_⟩;rw[h4.2,j7 hA ch.2]
 obtain⟨b,hb,kT,uS,_⟩:=Au b' nB;obtain⟨b1,xh,agh,agi,_⟩:=Au b1' agf;rw[kT,agh]at cQ ⊢;exact hM.mem.bb b uS b1 agi cQ;have hr:r∈st.rows:=hr;obtain⟨e1,e2,e3⟩:=hrf r hr;have h4:=(hM.mem.row r e3 (by rw[<- e2];exact h1)).grown hg (fun k hk e=>hM.mem.br _ (lA hp YG) r e3 (by rw[<- e2];exact h1) (by rw[hk];exact e));have ch:=qn r hr;simp only[Row.all,ao]at ch;unfold gA at *;rw[<- jB _ ch.2.1];exact h4;obtain⟨b,hb,kT,uS,_⟩:=Au b' nB;have hr:r∈st.rows:=hr;obtain⟨e1,e2,e3⟩:=hrf r hr;rw[kT,e1];exact hM.mem.br b uS r e3 (by rw[<- e2];exact h1);have hr:r∈st.rows:=hr;have cO:r'∈st.rows:=cO;obtain⟨e1,e2,e3⟩:=hrf r hr;obtain⟨f1,f2,f3⟩:=hrf r' cO;exact hM.mem.rr r e3 r' f3 cQ ho (by rw[<- e2];exact h1) (by rw[<- f2];exact h2) k (by rw[<- e1];exact hk) (by rw[<- f1];exact cY)
 . refine(hM.below.alloc hM.below.size o).setCell (p:=⟨aJ.r st.next,0,none⟩) JG.1 _
 . have hn:(lU (fO aM st) st.next (.v (st.next+1))).has=bh (st.next+gW):=dy rfl;rw[hn];obtain⟨b,hb,kT,uS,⟨h1,h2,h3⟩|⟨h1,h2,h3⟩⟩:=Au b' nB;subst h3;subst h2;simp[iA.all,bh,gW,bq,ak.all,IE.all];subst h2;exact iA.aD (cS (sC _ _)) (hnb _ h3)
 . have hn:(lU (fO aM st) st.next (.v (st.next+1))).has=bh (st.next+gW):=dy rfl;rw[hn];exact Row.aD (cS (sC _ _)) (qn _ hr)
 . have hn:=hM.nest;refine⟨fun k hk=>DB (hn.lt k hk) hg.size,fun b' nB=>?_,fun r hr ho h1 k hk=>?_,fun n fP h1=>?_,fun n fP=>?_,fun n fP ho=>?_⟩;obtain⟨b,hb,kT,uS,_⟩:=Au b' nB;rw[kT];exact hn.bz b uS;have hr:r∈st.rows:=hr;obtain⟨e1,e2,e3⟩:=hrf r hr;exact hn.rz r e3 ho (by rw[<- e2];exact h1) k (by rw[<- e1];exact hk)
   . have fP:n∈st.a8:=fP;have ch:=hnn n fP;simp only[dX.all,ao]at ch;obtain⟨h2,h3⟩:=hn.rd n (nY hp fP) (by rw[BE.ar jB ch.2.2];exact h1);refine⟨h2,?_⟩;have hgz:∀k,aJ.z k->some k≠some (aJ.r st.next):=fun k hk e=>by
       simp only[ah]at e;subst e;exact hn.bz _ (lA hp YG) hk
     unfold ft at *;rw[<- jB _ ch.2.1];split;rename_i ho;rw[if_pos ho]at h3;exact h3.mL (fun k hk=>hg.block k (hn.lt k hk.1) (hgz k hk.1)) (fun _ h=>h) (fun k hk=>hg.block k (hn.oX (nY hp fP) ho hk).2 (fun e=>by
       simp only[ah]at e;exact((hn.oz n (nY hp fP) ho).2 k hk).2.1 _ (lA hp YG) e.symm))
     rename_i ho;rw[if_neg ho]at h3;exact h3.mL (fun k hk=>hg.block k (hn.lt k hk) (hgz k hk)) (fun _ h=>h)
   . have M8:(lU (fO aM st) st.next (.v (st.next+1))).has=bh (st.next+gW):=dy rfl;rw[M8];exact dX.aD (cS (sC _ _)) (hnn _ fP)
   have fP:n∈st.a8:=fP;obtain⟨f1,f2⟩:=hn.oz n (nY hp fP) ho;refine⟨f1,fun k hk=>?_⟩;obtain⟨g1,g2,g3,g4⟩:=f2 k hk;refine⟨g1,fun b' nB e=>?_,fun r hr h1 hf=>?_,fun n' o7 ql cQ=>g4 n' (nY hp o7) ql cQ⟩;obtain⟨b,hb,kT,uS,_⟩:=Au b' nB;rw[kT]at e;exact g2 b uS e;have hr:r∈st.rows:=hr;obtain⟨e1,e2,e3⟩:=hrf r hr;exact g3 r e3 (by rw[<- e2];exact h1) (by rw[<- e1];exact hf)
end
section
open Go.RowKit
variable {ae aq:az}{ph aJ:Ph}{P:Program}
def YH(P:Program)(aM:kp)(Γ:bS)(R:List DV->Prop)(w0:World)(L:List Nat)(ex:Ex):Prop:=
 ∀(h:Option St) (g:FuncId) (vs:List V1) (st:St) (kr:List V1->St->au) (ae:az) (ph:Ph) (w:World) (F:Nat->List DV->Prop) (Ps:List (Int->Prop)) (LQ:Ending->World->Prop),
   sS w0 ae ph st w->st.o0=[]->(∀p∈aM.no,p.1<st.next/\(ae p.1).int≠p.2)->dF st.has vs=true->(ex h g vs st kr).holds Γ R Ps ae F->
   (∀aq aJ bc w' rv F',bt st.has ae aq ph aJ->(∀j∈L,F' j=F j)->sS w0 aq aJ bc w'->bc.o0=[]->st.next<=bc.next->dF bc.has rv=true->(kr rv bc).holds Γ R Ps aq F'->LQ (.returned (packed (rv.map (V1.af aq aJ)))) w')->
   (∀aq aJ bc w' e,bt st.has ae aq ph aJ->sS w0 aq aJ bc w'->nS h bc=true->jY Ps e->LQ (.panicked [fv aM.cR e]) w')->
   (∀w args,(callFunc g args).run P w = .ok (.enter g args) w)/\Calls P g (vs.map (V1.af ae ph)).toArray w LQ
end
section
open Go.RowKit
variable {ae aq:az}{ph aJ:Ph}{P:Program}
theorem zn{st:St}{dst:Option Tmp}{s:aT}:(st.put dst s).o0=st.o0:=by cases dst<;>rfl
theorem vZ{st:St}{dst:Option Tmp}{s:aT}:(st.put dst s).next=st.next:=by cases dst<;>rfl
theorem HY{st bc:St}(h1:st.o0=[])(h2:bc.o0=[])(h:st.next<=bc.next):∀k,st.has k=true->bc.has k=true:=by
 rw[dy h1,dy h2];exact cS h
theorem aT.Oz{p:BE}{v:Bool}(hp:p.af ae=v)(s:aT):(s.know p v).af ae ph=s.af ae ph:=by
 unfold aT.know;split;rename_i x hx;split;rename_i he;subst he;simp only[aT.af,hx,SV.af,V1.af,ak.af,BE.af,hp];split;rename_i he;subst he;simp only[aT.af,hx,SV.af,V1.af,ak.af,BE.cn,BE.af,hp];rfl;rfl
theorem aT.OA{p:BE}{v:Bool}{q:Nat->Bool}{s:aT}(h:s.all q=true):(s.know p v).all q=true:=by
 have hg:s.g.all q=true:=by
   simp only[aT.all,ao]at h;exact h.1
 unfold aT.know;split;split;simp[aT.all,SV.all,V1.all,ak.all,BE.all,hg];split;simp[aT.all,SV.all,V1.all,ak.all,BE.all,hg];exact h;exact h
theorem Sat.know{w0 w:World}{st:St}{a:Act}{p:BE}{v:Bool}(hs:Sat w0 ae ph st a w)(hp:p.af ae=v):Sat w0 ae ph (st.know p v) a w:=by
 have Lb:∀(t:Nat) (s:aT),(st.know p v).tmps[t]?=some (some s)->∃s0,st.tmps[t]?=some (some s0)/\s=s0.know p v:=fun t s ht=>by
   simp only[St.know,jt,bJ]at ht;obtain⟨x,hx,ht⟩:=ht;obtain⟨s0,rfl,rfl⟩:=ht;exact⟨s0,hx,rfl⟩
 refine⟨⟨by rw[<- hs.tmps.1];simp[St.know],fun t s ht=>?_⟩,hs.mem,hs.below,hs.defers,⟨fun t s ht=>?_,hs.names.aX,hs.names.rows⟩,hs.nest.same (fun _ h=>h) rfl rfl rfl⟩;obtain⟨s0,h0,rfl⟩:=Lb t s ht;rw[aT.Oz hp];exact hs.tmps.2 t s0 h0;obtain⟨s0,h0,rfl⟩:=Lb t s ht;exact aT.OA (hs.names.tmps t s0 h0)
section
variable {aM:kp}{Γ:bS}{R:List DV->Prop}{w0:World}{L:List Nat}{ex:Ex}{h:Option St}{ops:Array Oper}{Q:Exit->Act->World->Prop}{Ei:St->au}{base:Nat}{e0:az}{p0:Ph}{F0:Nat->List DV->Prop}{Ps:List (Int->Prop)}
theorem uA(hB:jN P aM)(iO:eD P Γ aM w0)(hex:YH P aM Γ R w0 L ex)(pP:∀p∈aM.no,p.1<base/\(e0 p.1).int≠p.2)
   (hK:∀aq aJ bc a' w' F',bt (bh base) e0 aq p0 aJ->(∀j∈L,F' j=F0 j)->Sat w0 aq aJ bc a' w'->bc.o0=[]->base<=bc.next->(Ei bc).holds Γ R Ps aq F'->Q .normal a' w')
   (hP:∀aq aJ bc (a':Act) w' e,bt (bh base) e0 aq p0 aJ->a'.defers=[]->sS w0 aq aJ bc w'->nS h bc=true->jY Ps e->Q (.panic [fv aM.cR e]) a' w') :
   ∀ {l:List Oper} {st:St} {ae:az} {ph:Ph} {a:Act} {w:World} {F:Nat->List DV->Prop},Sat w0 ae ph st a w->st.o0=[]->base<=st.next->bt (bh base) e0 ae p0 ph->(∀j∈L,F j=F0 j)->(kx P aM h ops ex l st Ei).holds Γ R Ps ae F->wpList P ops Q l a w:=by
 intro l;induction l with
 | nil=>
   intro st ae ph a w F hs hd hb bL hF hh;exact hK ae ph st a w F bL hF hs hd hb hh
 | cons o l ih=>
   intro st ae ph a w F hs hd hb bL hF hh;simp only[kx]at hh;have qa:=dy hd;have D1:∀p∈aM.no,p.1<st.next/\(ae p.1).int≠p.2:=fun p hp=>by
     obtain⟨h1,h2⟩:=pP p hp;exact⟨by omega,by rw[<- bL.e p.1 (by simp only[bh,aC];exact h1)];exact h2⟩
   have hup:∀ {aq aJ},bt st.has ae aq ph aJ->bt (bh base) e0 aq p0 aJ:=fun h=>lX bL (iP (by rw[<- qa];exact h) hb);split at hh;exact hh.elim
   . rename_i G hg;have ab7:=jh hg hs.tmps;show Nh P ops Q o (wpList P ops Q l) a w;split at hh
     . split at hh
       . rename_i r mQ;split at hh
         . rename_i dm bc oq;have he:=mZ hh;obtain⟨rfl,rfl,hm⟩:=kA oq;exact mX (Γ:=Γ.at (jY Ps)) (dm:=r.1) (bc:=r.2) hs mQ he iO fun D6 CE a1 w1 dV ud=>ih (dV.sat.close (bc:={r.2 with next:=sI st.next r.2,o0:=[] }) rfl rfl rfl rfl hm) rfl (kL hb (p8 _ _).1) (hup dV.agree) hF ud
         exact hh.elim
       exact hh.elim
     . rename_i sp Tw;have no:(kx P aM h ops ex l (st.put o.dst kf) Ei).holds Γ R Ps ae F->wpList P ops Q l (a.put o.dst undef) w:=fun hn=>
         ih (hs.put nK nJ.symm) (by rw[zn];exact hd) (by rw[vZ];exact hb) bL hF hn
       have yes:G.af ae=true->(Jt aM h ex st o.dst (fun bc=>kx P aM h ops ex l bc Ei) sp).holds Γ R Ps ae F->o.wp P a w (wpList P ops Q l) Q:=by
         intro hG hy;have uy:=yu (P:=P) hB hG hs.tmps Tw;cases sp with
         | inl g vs=>
           obtain⟨hv,cF⟩:=uy;obtain⟨lL,oF⟩:=hex h g vs st _ ae ph w F Ps (fun e w'=>match e with
             |.returned v=>wpList P ops Q l (a.put o.dst v) w'
             |.panicked c=>Q (.panic c) a w'
             | .outgrown=>LetsOut Q) hs.Yr hd D1 hv hy (fun aq aJ bc w' rv F' g1 g2 g3 g4 g5 g6 g7=>by
               refine ih (g3.back hs g1 (HY hd g4 g5) ?_ tJ.symm) g4 (kL hb g5) (hup g1) (fun j hj=>(g2 j hj).trans (hF j hj)) g7;have:=pU (G:=.c true) (q:=bc.has) rfl g6;simpa[aT.all,BE.all]using this) (fun aq aJ bc w' e g1 g2 g3 g4=>hP aq aJ bc a w' e (hup g1) hs.defers g2 g3 g4)
           unfold Oper.wp;rw[cF lL w,Oper.upon_enter];refine Calls.mono oF fun e w' he=>?_;cases e<;>exact he
         | val x=>
           obtain⟨hx,cF⟩:=uy;unfold Oper.wp;rw[cF w,Oper.upon_value];exact ih (hs.put (s:=⟨.c true,.v x⟩) (v:=x.af ae ph) (by simp only[aT.all,BE.all,Bool.true_and];exact hx) (by simp[aT.af,BE.af,SV.af])) (by rw[zn];exact hd) (by rw[vZ];exact hb) bL hF hy
         | aG ok e=>
           obtain⟨f,hf,he,gD,cF⟩:=uy;obtain⟨lL,hc⟩:=hB.aG f hf;unfold Oper.wp;rw[cF lL w,Oper.upon_enter];refine Calls.mono (hc (ok.af ae) (e.af ae) w) ?_;rintro en w' ⟨rfl,⟨gD,rfl⟩|⟨gD,rfl⟩⟩;exact ih (hs.put (s:=⟨.c true,.Hc []⟩) (v:=.tuple #[]) rfl (by simp[aT.af,BE.af,SV.af])) (by rw[zn];exact hd) (by rw[vZ];exact hb) bL hF (hy.1 gD);have h2:=hy.2 gD;unfold WB at h2;split at h2;rename_i kN;simp only[ao]at kN;exact hP ae ph st a _ _ bL hs.defers hs.Yr kN.1 h2;exact h2.elim
         | Lm g vs=>
           simp only[Jt]at hy;split at hy;exact hy.elim
           . rename_i Ty;have Ty:aM.FH.contains st.next=false:=by simpa using Ty
             obtain⟨f,hf,hv,cF⟩:=uy;obtain⟨lL,hc⟩:=hB.xr f hf;obtain⟨_,dV⟩:=Cr (dst:=none) (key:=st.next) (e:=aM.pc) (ls:=[.i .i64 (.c 0)]) (dm:=[]) hs (by unfold pK;rw[if_pos (by simp[St.free,hd,bq,ak.all,IE.all])]);have hw1:(w.alloc (.cells (([ak.i .i64 (.c 0)]).map (ak.af ae ph)).toArray aM.pc))=w.alloc (.cells #[.int .i64 0] aM.pc):=by simp[ak.af,IE.af]
             rw[hw1]at dV;have hT:sS w0 ae (ph.o6 st.next w.heap.size) (pR aM st) (w.alloc (.cells #[.int .i64 0] aM.pc)):=(dV.sat.close (bc:=pR aM st) rfl rfl rfl rfl (by
               intro k hk;have hn:(pR aM st).has=bh (st.next+gW):=dy rfl;rw[hn];have hk:(st.bB st.next 1).has k=true:=hk;rw[xc,qa]at hk;simp only[bh,fF,ao,aC]at hk;have h64:gW=512:=rfl;simp only[bh,aC];omega)).Yr
             have htn:(pR aM st).has=bh (st.next+gW):=dy rfl;have ab8:bt st.has ae ae ph (ph.o6 st.next w.heap.size):=dV.agree;have JH:∀ {aq aJ},bt (pR aM st).has ae aq (ph.o6 st.next w.heap.size) aJ->bt st.has ae aq ph aJ:=fun g=>lX ab8 ⟨fun k hk=>g.e k (by rw[htn];rw[qa]at hk;exact cS (sC _ _) k hk),fun k hk=>g.r k (by rw[htn];rw[qa]at hk;exact cS (sC _ _) k hk),fun k hk=>g.v k (by rw[htn];rw[qa]at hk;exact cS (sC _ _) k hk)⟩;have il:∀ {aq aJ},bt (pR aM st).has ae aq (ph.o6 st.next w.heap.size) aJ->aJ.r st.next=w.heap.size:=fun g=>by
               rw[<- g.r st.next (by rw[htn];simp[bh,gW])];simp[Ph.o6]
             have YG:(⟨st.next,aM.pc,[.i .i64 (.c 0)]⟩:iA)∈(fO aM st).aX:=by
               simp only[fO,pR,T3,jA,gk,true_or,true_and,Ty,Bool.not_false]
             obtain⟨agj,oF⟩:=hex (some (fO aM st)) g vs (pR aM st) _ ae (ph.o6 st.next w.heap.size) (w.alloc (.cells #[.int .i64 0] aM.pc)) F _ (fun e w2=>w2.heap[w.heap.size]?=some (.cells #[.int .i64 0] aM.pc (0,0))/\((e = .returned (.tuple #[])/\(w2.heap[w.heap.size]?=some (.cells #[.int .i64 0] aM.pc (0,0))/\wpList P ops Q l (a.put o.dst (.int .i64 0)) w2))\/∃c,e = .panicked [fv aM.cR c]/\∀ob,wpList P ops Q l (a.put o.dst (.int .i64 c)) ((w2.alloc ob).setCell ⟨w.heap.size,0,none⟩ (.int .i64 c)))) hT rfl (fun p hp=>⟨DB (D1 p hp).1 (sC _ _),(D1 p hp).2⟩) (by rw[htn];rw[qa]at hv;exact(xV (cS (sC _ _)) hv)) hy
               (fun aq aJ bc w2 rv F' g1 g2 g3 g4 g5 g6 g7=>by
                 split at g7;rename_i kN;simp only[ao,aC]at kN;obtain⟨rfl,DM⟩:=kN;have kM:=(g3.mem.ny _ (eA DM).1).2;simp only[il g1,jK,nN,ak.af,IE.af]at kM;refine⟨kM,.inl ⟨rfl,kM,?_⟩⟩;simp only[au.holds]at g7;exact ih (g3.back hs (JH g1) (HY hd g4 (kL (sC _ _) g5)) rfl rfl) g4 (kL hb (kL (sC _ _) g5)) (hup (JH g1)) (fun j hj=>(g2 j hj).trans (hF j hj)) g7;exact g7.elim)
               (fun aq aJ bc w2 e g1 g2 g3 g4=>by
                 have kM:=(g2.mem.ny _ (lA g3 YG)).2;simp only[il g1,jK,nN,ak.af,IE.af]at kM;refine⟨kM,.inr ⟨e,rfl,fun ob=>?_⟩⟩;have hC:=F9 (c:=e) (o:=ob) (ae:=ae) hd hs.names.aX hs.names.rows hs.nest.nm g2 g3 Ty (fun k hk=>g1.e k (by
                   have h64:gW=512:=rfl;rw[htn];simp only[bh,aC];omega))
                 rw[il g1]at hC;have mY:bt st.has ae (ae.set (st.next+1) (.i e)) ph aJ:=by
                   refine⟨fun k hk=>?_,(JH g1).r,(JH g1).v⟩;rw[qa]at hk;simp only[bh,aC]at hk;rw[az.set,if_neg (by omega)]
                 refine ih (hC.back hs mY (HY hd rfl (sC _ _)) (by
                   have hn:(lU (fO aM st) st.next (.v (st.next+1))).has=bh (st.next+gW):=dy rfl;rw[hn];simp[SV.all,V1.all,ak.all,IE.all,bh,gW]) (by simp[SV.af,V1.af,ak.af,IE.af,az.set,DV.int])) rfl (kL hb (sC _ _)) (hup mY) hF g4)
             rw[<- Ch ab8 hv]at oF;unfold Oper.wp;rw[cF lL w,Oper.upon_enter];refine Calls.mono (hc g _ w _ _ (fun w=>agj w _) oF) ?_;rintro en w' ⟨w2,⟨rfl,⟨WL,hw⟩,rfl⟩|⟨c,rfl,hw,rfl⟩⟩;simp only;rw[Eh WL];exact hw;exact hw _
       unfold Nh;rw[ab7];split at hh;simp only[BE.af,if_true];exact .inl (yes rfl hh);simp only[BE.af,jy,if_false];exact no hh;rename_i G' _ _;cases hG:G.af ae;simp only[jy,if_false];exact ih (((hs.know hG)).put nK nJ.symm) (by rw[zn];exact hd) (by rw[vZ];exact hb) bL hF (hh.2 hG);simp only[if_true];exact .inl (yes hG (hh.1 hG))
end
end
section
open Go.RowKit
variable {ae aq:az}{ph aJ:Ph}{P:Program}
theorem Un{w0 wR w:World}{ck st:St}{eS:az}{pS:Ph}{W:List Nat}{aS a:Act}(Cu:Sat w0 eS pS ck aS wR)(hs:Sat w0 ae ph st a w)(bL:bt ck.has eS ae pS ph)(hk:HB ck W st=true):Kept ck eS pS W wR w:=by
 simp only[HB,ao,jE,fF,aC]at hk;refine⟨fun b hb hw=>?_,fun r hr hw=>?_⟩;have Ci:=(eA ((hk.1 b hb).resolve_left (by rw[hw];simp))).1;have h1:=(Cu.mem.ny b hb).2;have h2:=(hs.mem.ny b Ci).2;have hn:=Cu.names.aX b hb;simp only[iA.all,ao]at hn;rw[<- bL.r _ hn.1,<- j7 bL hn.2]at h2;rw[h1,h2];exact absurd (hk.2 r hr) (by rw[hw];simp)
section
variable {aM:kp}{Γ:bS}{R:List DV->Prop}{w0:World}{L:List Nat}{ex:Ex}{h:Option St}{ops:Array Oper}{Q:Exit->Act->World->Prop}{Ei:St->au}{F0:Nat->List DV->Prop}{Ps:List (Int->Prop)}
theorem HZ{m n:Nat}(h:m<n):(pg m n).toArray.setIfInBounds m true=(pg (m+1) n).toArray:=by
 apply ke;rw[Array.toList_setIfInBounds];simp only[pg];apply List.ext_getElem?;intro j;rw[List.getElem?_set];simp only[List.getElem?_append,eY,List.length_replicate,Fu];grind
theorem B5(hB:jN P aM)(iO:eD P Γ aM w0)(hex:YH P aM Γ R w0 L ex){ck:St}{eS:az}(pP:∀p∈aM.no,p.1<ck.next/\(eS p.1).int≠p.2){pS:Ph}{W:List Nat}{wR:World}{aS:Act}(Cu:Sat w0 eS pS ck aS wR)(Bv:ck.o0=[])(HO:Region.noSelect ops=true)(HR:pf ops=true)(hQ:∀c a d v w,Q (.panic c) (a.put d v) w->Q (.panic c) a w)
   (hK:∀aq aJ bc a' w' F',bt (bh ck.next) eS aq pS aJ->(∀j∈L,F' j=F0 j)->Sat w0 aq aJ bc a' w'->bc.o0=[]->ck.next<=bc.next->(Ei bc).holds Γ R Ps aq F'->Q .normal a' w')
   (hP:∀aq aJ bc (a':Act) w' e,bt (bh ck.next) eS aq pS aJ->a'.defers=[]->sS w0 aq aJ bc w'->nS h bc=true->jY Ps e->Q (.panic [fv aM.cR e]) a' w') :
   ∀ {ps:List Nat} {lo:Nat} {st:St} {ae:az} {ph:Ph} {a:Act} {w:World} {F:Nat->List DV->Prop},Sat w0 ae ph st a w->st.o0=[]->ck.next<=st.next->bt (bh ck.next) eS ae pS ph->(∀j∈L,F j=F0 j)->Kept ck eS pS W wR w->
     (vS P aM h ops ex ck W ps lo st Ei).holds Γ R Ps ae F->ix P .any ops Q (jq ck eS pS ⟨[],some W⟩ wR) (ops.size-lo) (pg lo ops.size).toArray a w:=by
 have CL:=dy Bv;have LR:mr {aM with dV:=h} (Γ.at (jY Ps)) w0 ck.has eS pS Q:=fun aq aJ bc a' w' e g1 g2 g3 g4 g5=>hP aq aJ bc a' w' e (by rw[<- CL];exact g1) g2 g3 g4 g5;have Tx:jN P {aM with dV:=h}:=⟨hB.aG,hB.yY,hB.xr⟩;have ab9:eD P (Γ.at (jY Ps)) {aM with dV:=h} w0:=iO;intro ps;induction ps with
 | nil=>
   intro lo st ae ph a w F hs hd hb bL hF hk hh;have qa:=dy hd;have tB:∀k,ck.has k=true->st.has k=true:=by rw[CL,qa];exact cS hb
   simp only[vS]at hh;split at hh
   . rename_i dm bc hr;simp only[zj]at hr;split at hr
     . rename_i vE;simp only[ao,aC]at vE;obtain⟨YI,vE⟩:=vE;split at hr
       . rename_i r T YJ;obtain⟨rfl,rfl,bO⟩:=kA hr;have:=(lM (aM:={aM with dV:=h}) (fin:=none) (k:=fun aq=>(Ei {r.2 with next:=sI st.next r.2,o0:=[] }).holds Γ R Ps aq F) (G:=Q .normal) (t:=0) (I:=fun _ _ _=>True) (Eb Tx ab9 LR) (fun {_ _ _ _ _} _=>trivial) (fun f c hf=>(iO.1 f c hf).2) HO HR FX Cu.names hQ ⟨rfl,fun _ _ h=>h⟩ (fun n m st r h=>by simp at h) YJ).2 _ _ _ _ (vX HR YI) hs (by rw[CL];exact bL) tB hk trivial (mZ hh)
           (fun aq aJ a' w' ir jB hm _ cY=>hK aq aJ {r.2 with next:=sI st.next r.2,o0:=[] } a' w' F (lX bL (iP (by rw[<- qa];exact jB) hb)) hF (ir.close rfl rfl rfl rfl bO) rfl (kL hb (p8 _ _).1) cY)
         rw[fC,tM vE]at this;exact this
       cases hr
     cases hr
   exact hh.elim
 | cons p ps ih=>
   intro lo st ae ph a w F hs hd hb bL hF hk hh;have qa:=dy hd;have tB:∀k,ck.has k=true->st.has k=true:=by rw[CL,qa];exact cS hb
   simp only[vS]at hh;split at hh
   . rename_i dm bc hr;simp only[zj]at hr;split at hr
     . rename_i hc;simp only[ao,aC]at hc;obtain⟨⟨⟨YI,hp⟩,vE⟩,Bt⟩:=hc;rw[FU HR,tM (by omega)]at Bt;split at hr
       . rename_i r T YJ;obtain⟨rfl,rfl,bO⟩:=kA hr;have he:=mZ hh;have hlen:ops.size-lo=(ops.size-p)+(p-lo):=by omega
         rw[hlen,<- tM (show lo<=ops.size by omega)];refine(lM (aM:={aM with dV:=h}) (fin:=some (Nat.pow 2 p-1)) (G:=fun a' w'=>ix P .any ops Q (jq ck eS pS ⟨[],some W⟩ wR) (ops.size-p) (pg p ops.size).toArray a' w') (t:=ops.size-p) (I:=fun _ _ _=>True) (Eb Tx ab9 LR) (fun {_ _ _ _ _} _=>trivial) (fun f c hf=>(iO.1 f c hf).2) HO HR FX Cu.names hQ (fun a' w' hG=>?_) (fun n m st r h=>by simp at h) YJ).2 _ _ _ _ (vX HR YI) hs (by rw[CL];exact bL) tB hk trivial he
           (fun aq aJ a' w' ir jB hm _ cY=>?_)
         rw[tM (by omega)];exact hG
         ·
           split at cY
           . rename_i o ho;have LL:=ir.close (bc:={r.2 with next:=sI st.next r.2,o0:=[] }) rfl rfl rfl rfl bO;have mY:=lX bL (iP (n:=ck.next) (by rw[<- qa];exact jB) hb);have mQ:=uA (Q:=fun e a2 w2=>match e with| .normal=>Kept ck eS pS W wR w2/\ix P .any ops Q (jq ck eS pS ⟨[],some W⟩ wR) (ops.size-(p+1)) (pg (p+1) ops.size).toArray a2 w2|e=>Q e a2 w2) (base:=ck.next) (e0:=eS) (p0:=pS) (F0:=F0) (Ps:=Ps) hB iO hex pP
               (fun fU Nj uZ a2 w2 F2 g1 g2 g3 g4 g5 g6=>by
                 split at g6;rename_i hkb;have TV:=Un Cu g3 (by rw[CL];exact g1) hkb;exact⟨TV,ih g3 g4 g5 g1 g2 TV g6⟩;exact g6.elim) (fun fU Nj uZ a2 w2 e g1 g2 g3 g4 g5=>hP fU Nj uZ a2 w2 e g1 g2 g3 g4 g5) (l:=[o]) LL rfl (kL hb (p8 _ _).1) mY hF cY
             have e1:ops.size-p=(ops.size-(p+1))+1:=by omega
             rw[e1];refine Am Bt (by simp) fun i hi=>?_;obtain rfl:i=p:=by simpa using hi
             unfold wpOp;simp only[ho];rw[HZ hp];exact mQ
           exact cY.elim
       cases hr
     cases hr
   exact hh.elim
end
end
section
open Go.RowKit
variable {ae aq:az}{ph aJ:Ph}{P:Program}
theorem Ej{aM:kp}{ops:Array Oper}{st bc:St}{dm:List Ev}(h:vR P aM ops st=some (dm,bc)):bc.o0=[]/\st.next<=bc.next:=by
 unfold vR at h;split at h;split at h;split at h;obtain⟨_,rfl,_⟩:=kA h;exact⟨rfl,(p8 _ _).1⟩;cases h;cases h;cases h
theorem LS{no:List (Nat×Int)}{p:BE}(h:N5 no p=true)(pP:∀q∈no,(ae q.1).int≠q.2):p.af ae=false:=by
 unfold N5 at h;split at h;rename_i k n;have:=pP (k,n) (by simpa using h);exact decide_eq_false this;cases h
theorem B6{Γ:bS}{R:List DV->Prop}{Ps:List (Int->Prop)}{F:Nat->List DV->Prop}{go:St->au}{w0 w:World}{a:Act}{X:Prop}:∀ {ps:List (Nat×Nat×Nat)} {st:St},Sat w0 ae ph st a w->(DX go ps st).holds Γ R Ps ae F->
   (∀kq:St,Sat w0 ae ph kq a w->kq.o0=st.o0->kq.next=st.next->(go kq).holds Γ R Ps ae F->X)->X:=by
 intro ps;induction ps with
 |nil=>intro st hs h hX;exact hX st hs rfl rfl h
 | cons p ps ih=>
   intro st hs h hX;obtain⟨r,x,m⟩:=p;obtain⟨v,hv,h⟩:=Eg h;exact ih (hs.fix hv) h (fun kq h1 h2 h3 h4=>hX kq h1 h2 h3 h4)
section
variable {aM:kp}{Γ:bS}{R:List DV->Prop}{w0:World}
theorem H0(hB:jN P aM)(iO:eD P Γ aM w0):∀ {n:Nat} {h:Option St} {L:List Nat} {f:FuncId} {fn:Func} {k:List K} {st:St} {kr:List V1->St->au} {ae:az} {ph:Ph} {a:Act} {w:World} {F:Nat->List DV->Prop} {Ps:List (Int->Prop)}
   {E:Act->World->Prop} {EP:Int->World->Prop} {b:Frame} {cs:List Frame} {base:Nat} {e0:az} {p0:Ph} {F0:Nat->List DV->Prop},
   (∀p∈aM.no,p.1<base/\(e0 p.1).int≠p.2)->Sat w0 ae ph st a w->st.o0=[]->base<=st.next->bt (bh base) e0 ae p0 ph->(∀j∈L,F j=F0 j)->F7 P aM.cR b cs w0 E EP F ae ph st.next k->
   (∀aq aJ bc a' w' rv F',bt (bh base) e0 aq p0 aJ->(∀j∈L,F' j=F0 j)->Sat w0 aq aJ bc a' w'->bc.o0=[]->base<=bc.next->sG P bc fn.results.toList=some rv->dF bc.has rv=true->(kr rv bc).holds Γ R Ps aq F'->E a' w')->
   (∀aq aJ bc w' e,bt (bh base) e0 aq p0 aJ->sS w0 aq aJ bc w'->nS h bc=true->jY Ps e->EP e w')->
   (exec P aM n h L f fn k st kr).holds Γ R Ps ae F->Reach P aM.cR b cs E EP (lone (b.at a (cV k)) cs w):=by
 intro n;induction n with
 |zero=>intro h L f fn k st kr ae ph a w F Ps E EP b cs base e0 p0 F0 pP hs hd hb bL hF hk hR hP hh;exact hh.elim
 | succ n ih=>
   intro h L f fn k st kr ae ph a w F Ps E EP b cs base e0 p0 F0 pP hs hd hb bL hF hk hR hP hh;have D1:∀p∈aM.no,p.1<st.next/\(ae p.1).int≠p.2:=fun p hp=>by
     obtain⟨h1,h2⟩:=pP p hp;exact⟨by omega,by rw[<- bL.e p.1 (by simp only[bh,aC];exact h1)];exact h2⟩
   have LH:(T5 P fn st kr).holds Γ R Ps ae F->E a w:=fun hh=>by
     unfold T5 at hh;split at hh;rename_i vs mj;split at hh;rename_i ch;exact hR ae ph st a w vs F bL hF hs hd hb mj ch hh;exact hh.elim;exact hh.elim
   cases k with
   | nil=>
     simp only[exec]at hh;exact⟨a,w,[],.inl ⟨LH hh,.one step_end⟩⟩
   | cons x k=>
     cases x with
     | ny id=>
       simp only[exec]at hh;exact Reach.step step_inBlock (ih pP hs hd hb bL hF hk hR hP hh)
     | loop c=>
       simp only[exec]at hh;exact Reach.step step_inLoop (ih (k:=.code c :: .loop c::k) pP hs hd hb bL hF hk hR hP hh)
     | yZ c id iL YK ks=>
       simp only[exec]at hh;split at hh;rename_i bG WL;obtain⟨⟨h1,e1,p1,h2,h3⟩,_⟩:=hk;exact h3 ae ph st a w bG h2 hs WL hh;exact hh.elim
     | code c=>
       cases c with
       | skip=>
         simp only[exec]at hh;exact Reach.step step_skip (ih pP hs hd hb bL hF hk hR hP hh)
       | label l=>
         simp only[exec]at hh;exact Reach.step step_label (ih pP hs hd hb bL hF hk hR hP hh)
       | seq x y=>
         simp only[exec]at hh;exact Reach.step step_seq (ih (k:=.code x :: .code y::k) pP hs hd hb bL hF hk hR hP hh)
       | cond x y z=>
         simp only[exec]at hh;split at hh;rename_i hl;have:=aA hl cj hs.tmps;exact Reach.step (step_cond (t:=true) (by rw[this];rfl)) (ih (k:=.code y::k) pP hs hd hb bL hF hk hR hP hh);rename_i hl;have:=aA hl cj hs.tmps;exact Reach.step (step_cond (t:=false) (by rw[this];rfl)) (ih (k:=.code z::k) pP hs hd hb bL hF hk hR hP hh);rename_i p _ _ hl;have:=aA hl cj hs.tmps;simp only[ak.af]at this;split at hh;rename_i cQ;have hp:=LS cQ (fun q hq=>(D1 q hq).2);exact Reach.step (step_cond (t:=false) (by rw[this,hp])) (ih (k:=.code z::k) pP hs hd hb bL hF hk hR hP hh);obtain⟨h1,h2⟩:=hh;cases hp:p.af ae;exact Reach.step (step_cond (t:=false) (by rw[this,hp])) (ih (k:=.code z::k) pP hs hd hb bL hF hk hR hP (h2 hp));exact Reach.step (step_cond (t:=true) (by rw[this,hp])) (ih (k:=.code y::k) pP hs hd hb bL hF hk hR hP (h1 hp));exact hh.elim
       | block id c=>
         simp only[exec]at hh;exact Reach.step step_block (ih (k:=.code c :: .ny id::k) pP hs hd hb bL hF hk hR hP hh)
       | exit id=>
         simp only[exec]at hh;split at hh
         . rename_i k' hp;obtain⟨h1,h2⟩:=HX (P:=P) (T:=aM.cR) (b:=b) (cs:=cs) (w0:=w0) (E:=E) (EP:=EP) (F:=F) (ae:=ae) (ph:=ph) (next:=st.next) hp;exact Reach.step (step_exit h1) (ih pP hs hd hb bL hF (h2 hk) hR hP hh)
         exact hh.elim
       | ret=>
         simp only[exec]at hh;exact⟨a,w,_,.inl ⟨LH hh,.one step_ret⟩⟩
       | region id ops draw=>
         simp only[exec]at hh;have hex:YH P aM Γ R w0 (L++nV k) (T6 P (fun h' g Nd c bc kr'=>exec P aM n h' (L++nV k) g Nd [.code c] bc kr')):=by
           intro h' g vs bc kr' D6 CE w1 F1 Ps1 LQ hM zl YL hv WM hKR hKP;unfold T6 at WM;split at WM
           . rename_i Nd lL;split at WM
             . rename_i c CM;split at WM;exact WM.elim
               . rename_i HS;have HS:(Nd.name == "runtime.NumGoroutine")=false:=by simpa using HS
                 refine⟨dQ lL CM HS,fun Oq=>?_⟩;have qa:=dy zl;obtain⟨a',w',todo,Aj⟩:=ih (b:={fn:=g,tmps:=#[],todo:=[],defers:=[],mode:=.run,kind:=.normal}) (cs:=Oq) (k:=[.code c]) (base:=bc.next) (e0:=D6) (p0:=CE) (F0:=F1)
                   (E:=fun a' w'=>a'.defers=[]/\∃v,(results Nd a'.tmps).run P w' = .ok v w'/\LQ (.returned v) w') (EP:=fun e w'=>LQ (.panicked [fv aM.cR e]) w')
                   YL (CF (fn:=Nd) hM hv) zl (fu _) cC (fun _ _=>rfl) trivial
                   (fun aq aJ uZ a2 w2 rv F' g1 g2 g3 g4 g5 g6 g7 g8=>⟨g3.defers,_,jX g3 g6,hKR aq aJ uZ w2 rv F' (by rw[qa];exact g1) g2 g3.Yr g4 g5 g7 g8⟩)
                   (fun aq aJ uZ w2 e g1 g2 g3 g4=>hKP aq aJ uZ w2 e (by rw[qa];exact g1) g2 g3 g4) WM
                 have OB:Frame.enter P g (vs.map (V1.af D6 CE)).toArray .normal=Frame.at {fn:=g,tmps:=#[],todo:=[],defers:=[],mode:=.run,kind:=.normal} ⟨(vs.map (V1.af D6 CE)).toArray++Array.replicate (Nd.ntmps-(vs.map (V1.af D6 CE)).length) undef,[]⟩ (cV [.code c]):=by
                   simp[Frame.enter,Frame.at,lL,CM,cV]
                 rcases Aj with⟨⟨Uo,v,ue,Ga⟩,dV⟩|⟨e,Uo,Ga,dV⟩;refine⟨.returned v,w',{Frame.at {fn:=g,tmps:=#[],todo:=[],defers:=[],mode:=.run,kind:=.normal} a' todo with mode:=.returning},Ga,?_,rfl,⟨rfl,Uo,rfl,Nd,lL,ue⟩⟩;show Steps P (lone (Frame.enter P g _ .normal) Oq w1) _;rw[OB];exact dV;refine⟨.panicked [fv aM.cR e],w',{Frame.at {fn:=g,tmps:=#[],todo:=[],defers:=[],mode:=.run,kind:=.normal} a' todo with mode:=.panicking [fv aM.cR e] },Ga,?_,rfl,⟨rfl,Uo,Nd,lL⟩⟩;show Steps P (lone (Frame.enter P g _ .normal) Oq w1) _;rw[OB];exact dV
             exact WM.elim
           exact WM.elim
         have go:∀kq:St,Sat w0 ae ph kq a w->kq.o0=[]->kq.next=st.next->(DY P aM h ops draw ((aM.Wz.find? fun p=>p.1==gid f id).map (·.2)) (T6 P (fun h' g Nd c bc kr'=>exec P aM n h' (L++nV k) g Nd [.code c] bc kr')) kq (fun bc=>exec P aM n h L f fn k bc kr)).holds Γ R Ps ae F->Reach P aM.cR b cs E EP (lone (b.at a (cV (.code (.region id ops draw)::k))) cs w):=by
           intro kq Fi zl hnx TA;have WN:=dy zl;have OC:∀aq aJ bc a' w' F',bt (bh kq.next) ae aq ph aJ->(∀j∈L++nV k,F' j=F j)->Sat w0 aq aJ bc a' w'->bc.o0=[]->kq.next<=bc.next->(exec P aM n h L f fn k bc kr).holds Γ R Ps aq F'->Reach P aM.cR b cs E EP (lone (b.at a' (cV k)) cs w'):=by
             intro aq aJ bc a' w' F' g1 g2 g3 g4 g5 g6;rw[hnx]at g1 g5;exact ih pP g3 g4 (kL hb g5) (lX bL (iP g1 hb)) (fun j hj=>(g2 j (yV _ hj)).trans (hF j hj)) (F7.mono g1 g5 (F7.Oy (fun j hj=>g2 j (BJ _ hj)) hk)) hR hP g6
           have LR:∀aq aJ bc (a':Act) w' e,bt (bh kq.next) ae aq ph aJ->a'.defers=[]->sS w0 aq aJ bc w'->nS h bc=true->jY Ps e->EP e w':=by
             intro aq aJ bc a' w' e g1 _ g3 g4 g5;rw[hnx]at g1;exact hP aq aJ bc w' e (lX bL (iP g1 hb)) g3 g4 g5
           have hwp:(Code.region id ops draw).wp P (fun e a' w'=>(e = .normal/\Reach P aM.cR b cs E EP (lone (b.at a' (cV k)) cs w'))\/(∃c,e = .panic [fv aM.cR c]/\a'.defers=[]/\EP c w')) a w:=by
             have hQ:∀(c:List PanicEntry) (a':Act) (d:Option Tmp) (v:Value) (w':World),((Exit.panic c = .normal/\Reach P aM.cR b cs E EP (lone (b.at (a'.put d v) (cV k)) cs w'))\/(∃c',Exit.panic c = .panic [fv aM.cR c']/\(a'.put d v).defers=[]/\EP c' w'))->
                 ((Exit.panic c = .normal/\Reach P aM.cR b cs E EP (lone (b.at a' (cV k)) cs w'))\/(∃c',Exit.panic c = .panic [fv aM.cR c']/\a'.defers=[]/\EP c' w')):=by
               intro c a' d v w' hq;rcases hq with⟨h1,_⟩|⟨c',h1,h2,h3⟩;cases h1;exact .inr ⟨c',h1,by rw[cH]at h2;exact h2,h3⟩
             unfold DY at TA;split at TA;rename_i Ty;subst Ty;split at TA;rename_i ps kb _;split at TA;rename_i kN;simp only[ao]at kN;refine sQ (S:=jq kq ae ph ⟨[],some ((HA kq).filter fun i=>!kb.contains i)⟩ {w with drawn:=w.drawn+1}) kN.1.2 ?_;have:=B5 (Q:=fun e a' w'=>(e = .normal/\Reach P aM.cR b cs E EP (lone (b.at a' (cV k)) cs w'))\/(∃c,e = .panic [fv aM.cR c]/\a'.defers=[]/\EP c w')) (F0:=F) (Ei:=fun bc=>exec P aM n h L f fn k bc kr) (W:=(HA kq).filter fun i=>!kb.contains i) (ops:=ops) (h:=h) (Ps:=Ps) hB iO hex (fun p hp=>by rw[hnx];exact D1 p hp) Fi.drew zl kN.1.1 kN.2 hQ (fun aq aJ bc a' w' F' g1 g2 g3 g4 g5 g6=>.inl ⟨rfl,OC aq aJ bc a' w' F' g1 g2 g3 g4 g5 g6⟩)
               (fun aq aJ bc a' w' e g1 g2 g3 g4 g5=>.inr ⟨e,rfl,g2,LR aq aJ bc a' w' e g1 g2 g3 g4 g5⟩) Fi.drew zl (fu _) cC (fun _ _=>rfl) ⟨fun _ _ _=>rfl,fun _ _ _ _ _ _=>rfl⟩ TA
             simpa[pg]using this;exact TA.elim;split at TA;rename_i dm bc hr;obtain⟨fP,hn2⟩:=Ej hr;exact BX (aM:={aM with dV:=h}) (Γ:=Γ.at (jY Ps)) (Q:=fun e a' w'=>(e = .normal/\Reach P aM.cR b cs E EP (lone (b.at a' (cV k)) cs w'))\/(∃c,e = .panic [fv aM.cR c]/\a'.defers=[]/\EP c w')) ⟨hB.aG,hB.yY,hB.xr⟩ (fun aq aJ bc a' w' e g1 g2 g3 g4 g5=>.inr ⟨e,rfl,g2,LR aq aJ bc a' w' e (by rw[<- WN];exact g1) g2 g3 g4 g5⟩) iO Fi hQ hr (mZ TA) (fun aq aJ a' w' g1 g2 g3=>.inl ⟨rfl,OC aq aJ bc a' w' F (by rw[<- WN];exact g2) (fun _ _=>rfl) g1 fP hn2 g3⟩);exact TA.elim
             . rename_i Ty;have:draw=false:=by simpa using Ty
               subst this;exact wp_region_list (uA (Q:=fun e a' w'=>(e = .normal/\Reach P aM.cR b cs E EP (lone (b.at a' (cV k)) cs w'))\/(∃c,e = .panic [fv aM.cR c]/\a'.defers=[]/\EP c w')) (base:=kq.next) (e0:=ae) (p0:=ph) (F0:=F) hB iO hex (fun p hp=>by rw[hnx];exact D1 p hp)
                 (fun aq aJ bc a' w' F' g1 g2 g3 g4 g5 g6=>.inl ⟨rfl,OC aq aJ bc a' w' F' g1 g2 g3 g4 g5 g6⟩) (fun aq aJ bc a' w' e g1 g2 g3 g4 g5=>.inr ⟨e,rfl,g2,LR aq aJ bc a' w' e g1 g2 g3 g4 g5⟩) Fi zl (fu _) cC (fun _ _=>rfl) TA)
           obtain⟨e,a',w',hq,K2⟩:=hwp b (cV k) cs;rcases hq with⟨rfl,hG⟩|⟨c,rfl,Uo,hep⟩;exact Reach.steps K2 hG;obtain⟨todo,dV⟩:=K2;exact⟨a',w',todo,.inr ⟨c,Uo,hep,dV⟩⟩
         exact B6 hs hh fun kq h1 h2 h3 h4=>go kq h1 (h2.trans hd) h3 h4
       | loop c=>
         simp only[exec]at hh;split at hh;exact Reach.step step_loop (ih (k:=.code c :: .loop c::k) pP hs hd hb bL hF hk hR hP hh)
         . rename_i i hint hf;split at hh
           . rename_i Bv hm;split at hh;exact hh.elim
             . rename_i hnl;simp only[fF,not_or,Bool.not_eq_true]at hnl;obtain⟨hnl,hnL⟩:=hnl;have hnL:∀j∈L,j≠i:=fun j hj e=>by
                 subst e;simp[hj]at hnL
               obtain⟨inv,p9,rK,CM⟩:=hh;obtain⟨g1,g2,g3,j6,g5,g4⟩:=Ed hs hd hm;have rounds:∀N ds (a:Act) (w:World) (aJ:Ph),p9 ds=N->inv ds->kinds Bv.ks ds=true->bt (bh st.next) ae (ae.av st.next ds) ph aJ->Sat w0 (ae.av st.next ds) aJ Bv.st a w->Reach P aM.cR b cs E EP (lone (b.at a (.code c :: .inLoop c::cV k)) cs w):=by
                 intro N;induction N using Nat.strongRecOn with
                 | _ N ihN=>
                   intro ds a w aJ hN hi yz jB ir;refine ih (k:=.code c :: .yZ c i st.next Bv.st Bv.ks::k) pP ir g1 (by rw[g2];exact kL hb (sC _ _)) (lX bL (iP jB hb)) (fun j hj=>?_) ⟨⟨by omega,ae,ph,jB,?_⟩,?_⟩ hR hP (CM ds yz hi);funext vs;simp only[lN,if_neg (hnL j hj),hF j hj]
                   . intro aq Nj bc a' w' bG he LL WL hFF;obtain⟨ud,ph3,ab',hs3⟩:=HV LL ir.names ir.nest.nm WL;simp only[lN,if_true]at hFF;have hs4:Sat w0 (ae.av st.next (bG.map (DE.af aq))) ph3 Bv.st a' w':=by
                       refine hs3.LO g1 fun j hj=>?_;have hl:=xy ud;rcases mS j st.next with h1|h1
                       rw[az.bd h1,az.bd h1,he.e j (by simpa[bh]using h1)]
                       . have cJ:j-st.next<(bG.map (DE.af aq)).length:=by omega
                         obtain⟨d,hd⟩:∃d,(bG.map (DE.af aq))[j-st.next]?=some d:=⟨_,dG cJ⟩;have hj':j=st.next+(j-st.next):=by omega
                         rw[hj',az.c8 hd,az.c8 hd]
                     have agk:bt (bh st.next) ae (ae.av st.next (bG.map (DE.af aq))) ph ph3:=by
                       refine⟨fun j hj=>?_,fun j hj=>(he.r j hj).trans (ab'.r j hj),fun j hj=>(he.v j hj).trans (ab'.v j hj)⟩;simp only[bh,aC]at hj;rw[az.bd hj]
                     exact Reach.step step_inLoop (ihN (p9 (bG.map (DE.af aq))) (by omega) _ a' w' ph3 rfl hFF.1 ud agk hs4)
                   refine F7.Oy (F:=F) (fun j hj=>?_) (F7.mono jB (by omega) hk);funext vs;have:j≠i:=fun e=>F8 hnl (e▸hj);simp only[lN,if_neg this]
               exact Reach.step step_loop (rounds _ _ a w j6 rfl rK g3 g5 g4)
           exact hh.elim
       |_=>exact hh.elim
end
def WO(P:Program)(fn:Func)(res:List VT)(w0:World)(R:List DV->Prop)(a:Act)(w:World):Prop:=
 a.defers=[]/\∃bT gG,(results fn a.tmps).run P w = .ok (packed (bZ res bT)) w/\Below w0.heap.size w0 w/\fitAll (kV w w0.heap.size) (bI res) bT gG/\gM bT/\R gG
theorem LU{Γ:bS}{R:List DV->Prop}{Ps:List (Int->Prop)}{F:Nat->List DV->Prop}{w0 w:World}{st:St}{a:Act}{fn:Func}{res:List VT}{vs:List V1}(hs:Sat w0 ae ph st a w)(mj:sG P st fn.results.toList=some vs)(h:(qK res vs st).holds Γ R Ps ae F):WO P fn res w0 R a w:=by
 unfold qK at h;split at h;rename_i e ks id;split at h;rename_i b hb;split at h;rename_i hc;simp only[ao,aC]at hc;obtain⟨rfl,h0⟩:=hc;split at h;rename_i xs pH;obtain⟨bn,rfl⟩:=eA hb;obtain⟨hB,hh⟩:=hs.mem.ny b bn;have xn:=sk (ae:=ae) (ph:=ph) pH [] 0 rfl;simp only[mP]at xn;refine⟨hs.defers,[.slice (some ⟨ph.r b.id,0,none⟩) 1 1],[(DE.uV xs).af ae],jX hs mj,hs.below,⟨⟨h0,?_⟩,trivial⟩,?_,h⟩;have e:aB ks [xs.map (b9 ae)]=bP ks 0 (xs.map (b9 ae)):=by simp[aB]
 have hl:=(oC pH).1;show w.ownsRow w0.heap.size b.ty ks.length _ 1 (aB ks [xs.map (b9 ae)]);rw[e,<- xn];refine⟨by simp[hl],.inr ⟨ph.r b.id,1,_,rfl,hB,hh,fu _,by decide,by simp[hl],?_⟩⟩;simp[hl,pI];intro i j u v DK hu hv k hk cY
 match i,j with
 |0,0=>exact DK rfl
 |0,j+1=>simp at hv
 |i+1,_=>simp at hu
 exact h.elim;exact h.elim;exact h.elim
 ·
   split at h;rename_i ds rF;split at h;rename_i hc;simp only[ao]at hc;obtain⟨⟨HK,pN⟩,bM⟩:=hc;rw[CJ]at pN bM;have pN:=yx pN;have ho:∀row∈cL (bF vs),∃r,r∈st.rows/\r.id=row/\bK st row=some r/\r.own=true/\r.g.af ae=true:=fun row bj=>by
     have:=jE.1 bM row bj;split at this;rename_i r hr;simp only[ao,aC]at this;obtain⟨hm,kT⟩:=aY hr;exact⟨r,hm,kT,hr,this.1,by rw[this.2];rfl⟩;cases this
   obtain⟨Ua,e1,e2,e7⟩:=sP (ae:=ae) (ph:=ph) (R:=kV w w0.heap.size) (qN _ _) (fun h=>by rw[nD HK]at h;cases h) rF (fun row bj r hr _=>by
     obtain⟨r',hm,_,cO,cW,hg⟩:=ho row bj;rw[hr,ah]at cO;subst cO;obtain⟨h0,gD⟩:=hs.mem.row r hm hg;rw[if_pos cW]at gD;exact⟨h0,gD⟩) (fun h=>by rw[jU HK]at h;cases h)
   have e7:=e7 (jU HK);subst e7;refine⟨hs.defers,_,_,by rw[<- e1];exact jX hs mj,hs.below,e2,?_,h⟩;intro i j u v DK hu hv k hk cY;rw[jt]at hu hv;simp only[bJ]at hu hv;obtain⟨l,hl,rfl⟩:=hu;obtain⟨l',uM,rfl⟩:=hv;have FB:∀(i:Nat) (l:ak) k,(bF vs)[i]?=some l->(l.af ae ph).ownBlock=some k->∃r,l = .s r:=fun i l k hl h=>by
     obtain⟨c,d,_,Ak⟩:=mW (mV (jU HK) rF) hl;exact qP Ak h
   obtain⟨r,rfl⟩:=FB i l k hl hk;obtain⟨r',rfl⟩:=FB j l' k uM cY;have TN:r∈cL (bF vs):=xq.2 ⟨_,rN hl,rfl⟩;have agl:r'∈cL (bF vs):=xq.2 ⟨_,rN uM,rfl⟩;obtain⟨x,hx,Jx,_,y9,Lx⟩:=ho r TN;obtain⟨x',YD,aca,_,agm,agn⟩:=ho r' agl;simp only[ak.af,<- Jx,<- aca]at hk cY;exact hs.mem.rr x hx x' YD (fun e=>DK (HW pN hl (by rw[uM,<- aca,<- e,Jx]))) y9 Lx agn k (by simp[Row.bU,y9,hk]) (by simp[Row.bU,agm,cY]);split at h;rename_i hc;simp only[ao]at hc;obtain⟨⟨⟨HK,hN⟩,DZ⟩,bM⟩:=hc;rw[CJ]at bM;unfold qG at DZ;rw[hN]at DZ;simp only[Bool.not_true,Bool.false_or,ao,mg,aC]at DZ;obtain⟨hS,D0⟩:=DZ;have ho:∀row∈cL (bF vs),bK st row=none/\∃n,eT st row=some n/\n.own=true:=fun row bj=>by
     have:=jE.1 bM row bj;split at this;rename_i x h1 h2;exact⟨h1,x,h2,this⟩;cases this
   obtain⟨Ua,e1,e2,e7⟩:=sP (ae:=ae) (ph:=ph) (R:=kV w w0.heap.size) (qN _ _) (fun _ row bj n hn _=>by
     obtain⟨_,n',o7,pP⟩:=ho row bj;rw[hn,ah]at o7;subst o7;obtain⟨hm,_⟩:=da hn;obtain⟨_,h0,NV⟩:=hs.nest.own hm pP;exact⟨h0,_,fun k hk=>⟨hk.2,hs.nest.lt k hk.1⟩,fun k hk hz=>((hs.nest.oz n hm pP).2 k hk).1 hz.1,NV⟩) rF (fun row bj r hr _=>by
     rw[(ho row bj).1]at hr;cases hr) (fun h=>by rw[HK]at h;cases h)
   have e7:=e7 HK;subst e7;refine⟨hs.defers,_,_,by rw[<- e1];exact jX hs mj,hs.below,e2,?_,h⟩;intro i j u v DK hu hv k hk cY;rw[jt]at hu hv;simp only[bJ]at hu hv;obtain⟨l,hl,rfl⟩:=hu;obtain⟨l',uM,rfl⟩:=hv;have FB:∀(i:Nat) (l:ak) k,(bF vs)[i]?=some l->(l.af ae ph).ownBlock=some k->∃c,(bI res)[i]?=some c/\c.wM=true:=fun i l k hl h=>by
     obtain⟨c,d,hc,Ak⟩:=mW (mV HK rF) hl;obtain⟨r,rfl⟩:=qP Ak h;refine⟨c,hc,(Lw Ak).resolve_left fun hs=>?_⟩;rw[List.any_eq_false]at hS;exact hS c (rN hc) hs
   obtain⟨c,hc,hcn⟩:=FB i l k hl hk;obtain⟨c',CN,ago⟩:=FB j l' k uM cY;exact DK (N7 D0 hc CN hcn ago);exact h.elim;exact h.elim
def aR:az:=fun _=>.i 0
def j6:Ph:=⟨fun _=>0,fun _=>(none,0,0),fun _=>False⟩
def CE(w:World)(bT:List Value):Ph:={j6.dI 0 bT with z:=fun k=>k<w.heap.size}
theorem CO{w:World}{fn:Func}{args:List VT}{bT:List Value}{ds:List DV}(hf:fitAll (mo w) (bI args) bT ds) :
   Sat w (aR.av 0 ds) (CE w bT) (start fn args) ⟨(bZ args bT).toArray++Array.replicate (fn.ntmps-(bZ args bT).length) undef,[]⟩ w:=by
 obtain⟨Ct,zH⟩:=nW hf;have uy:=vb (ae:=aR.av 0 ds) (ph:=CE w bT) false (.c true) (bI args) 0 bT ds hf (fun i d hd=>az.c8 hd) (fun i v hv e ks hc=>by
   have Yg:∃a b c,v = .slice a b c:=by
     rcases hc with hc|⟨aN,hc⟩;obtain⟨v',d,vy,hd,dJ⟩:=jM hf hc;rw[hv]at vy;simp only[ah]at vy;subst vy;cases d with
     |i n=>simp[ky]at dJ
     |b x=>simp[ky]at dJ
     | l xs=>
       obtain⟨_,base,cap,rfl,_⟩:=dJ;exact⟨_,_,_,rfl⟩
     obtain⟨v',d,vy,hd,dJ⟩:=jM hf hc;rw[hv]at vy;simp only[ah]at vy;subst vy;cases d with
     |i n=>simp[ky]at dJ
     |b x=>simp[ky]at dJ
     | l xs=>
       obtain⟨_,b0,c0,rfl,_⟩:=dJ;exact⟨_,_,_,rfl⟩
   obtain⟨a0,b0,c0,rfl⟩:=Yg;exact tI (ph:=j6) hv)
 obtain⟨e1,e2,e3⟩:=uy;have xn:=qL (ae:=aR.av 0 ds) (ph:=CE w bT) (.c true) args 0 bT e1;rw[<- eU]at e2;have jF:∀i,i<(bI args).length->bh (bI args).length (0+i)=true:=fun i hi=>by simpa[bh]using hi
 have ch:=ie (q:=bh (bI args).length) (.c true) rfl (bI args) 0 jF;have acb:=mU (q:=bh (bI args).length) (.c true) rfl args 0 jF;have qa:(start fn args).has=bh (bI args).length:=by rw[dy rfl];rfl
 have hlen:(cd (.c true) 0 args).1.length=(bZ args bT).length:=by rw[<- xn,ot]
 refine⟨⟨?_,fun t s ht=>?_⟩,⟨?_,?_,?_,?_,?_⟩,Below.refl _ _,rfl,⟨fun t s ht=>?_,?_,?_⟩,?_⟩;simp[start,lV,hlen];simp only[start,lV]at ht;rw[List.getElem?_append]at ht;split at ht;rename_i cJ;rw[jt]at ht;simp only[bJ,ah]at ht;obtain⟨v,hv,rfl⟩:=ht;have vy:(bZ args bT)[t]?=some (v.af (aR.av 0 ds) (CE w bT)):=by rw[<- xn,jt,hv];rfl
 have Lr:=(dc.1 vy).1;rw[Array.getElem?_append,if_pos (by simpa using Lr)];simp only[List.getElem?_toArray,vy,aT.af,BE.af,if_true,SV.af];rw[Fu]at ht;split at ht<;>cases ht;intro b hb;simp[start]at hb;intro b hb;simp[start]at hb;intro r hr hg;simp only[start,lV,jb]at hr;obtain⟨r0,dZ,rfl⟩:=hr;obtain⟨i,_,_,_,h0,hR⟩:=e2 r0 dZ;exact⟨h0,hR⟩;intro b hb;simp[start]at hb;intro r hr r' cO cQ ho;simp only[start,lV,jb]at hr;obtain⟨r0,dZ,rfl⟩:=hr;cases ho;rw[qa];simp only[start,lV]at ht;rw[List.getElem?_append]at ht;split at ht;rw[jt]at ht;simp only[bJ,ah]at ht;obtain⟨v,hv,rfl⟩:=ht;have:∀ {vs:List V1} {t:Nat} {v:V1},dF (bh (bI args).length) vs=true->vs[t]?=some v->v.all (bh (bI args).length)=true:=by
   intro vs;induction vs with
   |nil=>intro t v _ h;simp at h
   | cons x vs ih=>
     intro t v h hv;simp only[dF,ao]at h;cases t with
     |zero=>simp at hv;subst hv;exact h.1
     |succ t=>exact ih h.2 (by simpa using hv)
 simp only[aT.all,BE.all,SV.all,Bool.true_and];exact this acb hv;rw[Fu]at ht;split at ht<;>cases ht;intro b hb;simp[start]at hb;intro r hr;rw[qa];simp only[start,lV,jb]at hr;obtain⟨r0,dZ,rfl⟩:=hr;rw[eU]at dZ;exact ch.2 r0 dZ;refine⟨fun k hk=>hk,fun b hb=>by simp[start]at hb,fun r hr ho=>?_,fun n hn _=>?_,fun n hn=>?_,fun n hn ho=>?_⟩;simp only[start,lV,jb]at hr;obtain⟨r0,dZ,rfl⟩:=hr;cases ho;obtain⟨i,_,_,_,hR,_⟩:=e3 n hn;refine⟨hR.1,?_⟩;unfold ft;rw[if_neg (by rw[(pV _ _ _ _ n hn).2];simp)];exact hR.2;rw[qa];exact vd _ (.c true) rfl (bI args) 0 jF n hn;rw[(pV _ _ _ _ n hn).2]at ho;cases ho
def OD(P:Program)(fn:Func)(sg:bR)(w0:World)(B:Nat)(fT:List Value)(R:List DV->Prop)(a:Act)(w:World):Prop:=
 a.defers=[]/\∃bT gG,(results fn a.tmps).run P w = .ok (packed (bZ sg.res bT)) w/\Below w0.heap.size w0 w/\fitAll (kV w B) (bI sg.res) bT gG/\gM bT/\
   (∀(i:Nat) (u:Value) (k:Nat),bT[i]?=some u->u.ownBlock=some k->w0.heap.size<=k\/∃(j:Nat) (v:Value),j<sg.cons/\fT[j]?=some v/\v.ownBlock=some k)/\R gG
theorem H2{Γ:bS}{R:List DV->Prop}{Ps:List (Int->Prop)}{F:Nat->List DV->Prop}{w0 w:World}{st:St}{a:Act}{fn:Func}{sg:bR}{vs:List V1}{B:Nat}{fT:List Value}{YM:List DV}(hs:Sat w0 ae ph st a w)(mj:sG P st fn.results.toList=some vs)
   (hA:WG sg w0 B fT YM) (bL:bt (bh (bI sg.args).length) (aR.av 0 YM) ae (CE w0 fT) ph) (h:(nU sg vs st).holds Γ R Ps ae F):OD P fn sg w0 B fT R a w:=by
 unfold nU at h;split at h;rename_i ds rF;split at h;rename_i hc;simp only[ao]at hc;obtain⟨⟨HK,pN⟩,bM⟩:=hc;have pN:=ym pN;have anz:=nW hA.fit;have ho:∀row∈cL (bF vs),∃r,r∈st.rows/\r.id=row/\bK st row=some r/\r.g.af ae=true/\kV w B r.e (.inl r.ks) (ph.val r.id) (ae r.lv).list/\
     ((r.own=true/\∀k,(ph.val r.id).ownBlock=some k->w0.heap.size<=k)\/(r.id<sg.cons/\fT[r.id]?=some (ph.val r.id)/\∀k,(ph.val r.id).ownBlock=some k->k<w0.heap.size)):=fun row bj=>by
   have:=jE.1 bM row bj;split at this;rename_i r hr;simp only[ao,fF,aC]at this;obtain⟨hg,Aj⟩:=this;obtain⟨hm,kT⟩:=aY hr;have lJ:r.g.af ae=true:=by rw[hg];rfl
   obtain⟨h0,gD⟩:=hs.mem.row r hm lJ;rcases Aj with ho|⟨⟨cJ,yP⟩,hct⟩;rw[if_pos ho]at gD;exact⟨r,hm,kT,hr,lJ,⟨h0,qM gD hA.base⟩,.inl ⟨ho,fun k hk=>(gD.lt k hk).1⟩⟩;have YN:=(dc.1 hct).1;have hb:bh (bI sg.args).length r.id=true:=by simpa[bh]using YN
   obtain⟨v,d,hv,hd,dJ⟩:=jM (i:=r.id) hA.own (by rw[zI,if_pos cJ];exact hct);rw[zI,if_pos cJ]at hv hd;cases d with
   |i n=>simp[ky]at dJ
   |b x=>simp[ky]at dJ
   | l xs=>
     obtain⟨h1,h2⟩:=dJ;obtain⟨sl,rfl⟩:=lr h2;have ev:ph.val r.id = .slice sl.1 sl.2.1 sl.2.2:=by
       have hz:(CE w0 fT).val (0+r.id) = .slice sl.1 sl.2.1 sl.2.2:=tI (ph:=j6) hv;rw[fC]at hz;rw[<- hz];simp only[Ph.val,<- bL.v _ hb]
     have ed:(ae r.lv).list=xs:=by
       rw[yP,<- bL.e _ hb];have:=az.c8 (ae:=aR) (k:=0) hd;rw[fC]at this;rw[this];rfl
     refine⟨r,hm,kT,hr,lJ,?_,.inr ⟨cJ,by rw[ev];exact hv,fun k hk=>?_⟩⟩;rw[ev,ed];exact⟨h1,ur h2 (lk hs.below) (fun k _=>by simp)⟩;rw[ev]at hk;exact(h2.lt k hk).2
   cases this
 obtain⟨Ua,e1,e2,e7⟩:=sP (ae:=ae) (ph:=ph) (R:=kV w B) (qN _ _) (fun h=>by rw[nD HK]at h;cases h) rF (fun row bj r hr _=>by
   obtain⟨r',_,_,cO,_,cW,_⟩:=ho row bj;rw[hr,ah]at cO;subst cO;exact cW) (fun h=>by rw[jU HK]at h;cases h)
 have e7:=e7 (jU HK);subst e7;have FB:∀(i:Nat) (l:ak) k,(bF vs)[i]?=some l->(l.af ae ph).ownBlock=some k->∃r,l = .s r:=fun i l k hl h=>by
   obtain⟨c,d,_,Ak⟩:=mW (mV (jU HK) rF) hl;exact qP Ak h
 have vV:∀(i:Nat) (u:Value) (k:Nat),((bF vs).map (ak.af ae ph))[i]?=some u->u.ownBlock=some k->∃r∈st.rows,(bF vs)[i]?=some (.s r.id)/\(ph.val r.id).ownBlock=some k/\r.g.af ae=true/\
     ((r.own=true/\w0.heap.size<=k)\/(r.id<sg.cons/\fT[r.id]?=some (ph.val r.id)/\k<w0.heap.size)):=fun i u k hi hu=>by
   rw[jt]at hi;simp only[bJ]at hi;obtain⟨l,hl,rfl⟩:=hi;obtain⟨r,rfl⟩:=FB i l k hl hu;have bn:r∈cL (bF vs):=xq.2 ⟨_,rN hl,rfl⟩;obtain⟨x,hx,Jx,_,Lx,_,Aj⟩:=ho r bn;subst Jx;exact⟨x,hx,hl,hu,Lx,Aj.imp (fun a=>⟨a.1,a.2 k hu⟩) (fun a=>⟨a.1,a.2.1,a.2.2 k hu⟩)⟩
 refine⟨hs.defers,_,_,by rw[<- e1];exact jX hs mj,hs.below,e2,fun i j u v DK hu hv k hk cY=>?_,fun i u k hu hk=>?_,h⟩;obtain⟨r,hr,h1,h2,h3,h4⟩:=vV i u k hu hk;obtain⟨r',cO,uK,Hi,T8,h4'⟩:=vV j v k hv cY;by_cases he:r.id=r'.id;rw[he]at h1;exact DK (CC pN h1 uK);rcases h4 with⟨a1,a2⟩|⟨a1,a2,a3⟩<;>rcases h4' with⟨b1,b2⟩|⟨b1,b2,b3⟩;exact hs.mem.rr r hr r' cO he a1 h3 T8 k (by simp[Row.bU,a1,h2]) (by simp[Row.bU,b1,Hi]);omega;omega;exact hA.apart r.id r'.id _ _ he (by rw[zI,if_pos a1];exact a2) (by rw[zI,if_pos b1];exact b2) k h2 Hi;obtain⟨r,hr,h1,h2,h3,⟨_,a2⟩|⟨a1,a2,_⟩⟩:=vV i u k hu hk;exact .inl a2;exact .inr ⟨r.id,_,a1,a2,h2⟩;exact h.elim;exact h.elim
def fj(P:Program)(Wd:World->Prop)(f:FuncId)(c:dg):Prop:=
 (∀w args,(callFunc f args).run P w = .ok (.enter f args) w)/\
 ∀w vs ds,Wd w->Ae w c.sig.args vs ds->c.pre ds->Calls P f vs.toArray w (fun e w'=>∃bT gG,e = .returned (packed (bZ c.sig.res bT))/\Below w.heap.size w w'/\
   fitAll (kV w' w.heap.size) (bI c.sig.res) bT gG/\gM bT/\c.rel ds gG)
theorem fj.at{Wd:World->Prop}{f:FuncId}{c:dg}{w0:World}(h:fj P Wd f c)(hw:∀w,Below w0.heap.size w0 w->Wd w):qO P w0 f c:=⟨h.1,fun w vs ds hb ha hp=>h.2 w vs ds (hw w hb) ha hp⟩
theorem OE{Γ:bS}{aM:kp}{f:FuncId}{fn:Func}{c:Code}{sg:bR}{fuel:Nat}{X:List DV->Prop}{ret:List V1->St->au}{w:World}{fT:List Value}{ds:List DV}(hB:jN P aM)(iO:eD P Γ aM w)(pP:aM.no=[]){E:Act->World->Prop}{cs:List Frame}
   (hs:Sat w (aR.av 0 ds) (CE w fT) (start fn sg.args) ⟨(bZ sg.args fT).toArray++Array.replicate (fn.ntmps-(bZ sg.args fT).length) undef,[]⟩ w) (hb:fn.body=some c) (LN:(if sg.cons=0 then qK sg.res else nU sg)=ret)
   (hE:∀aq aJ bc a' w' rv F',bt (bh (bI sg.args).length) (aR.av 0 ds) aq (CE w fT) aJ->Sat w aq aJ bc a' w'->sG P bc fn.results.toList=some rv->(ret rv bc).holds Γ X [] aq F'->E a' w')
   (h:(sK P aM f fn sg fuel).holds Γ X [] (aR.av 0 ds) (fun _ _=>False)) :
   Reach P aM.cR {fn:=f,tmps:=#[],todo:=[],defers:=[],mode:=.run,kind:=.normal} cs E (fun _ _=>False) (lone (Frame.at {fn:=f,tmps:=#[],todo:=[],defers:=[],mode:=.run,kind:=.normal} ⟨(bZ sg.args fT).toArray++Array.replicate (fn.ntmps-(bZ sg.args fT).length) undef,[]⟩ (cV [.code c])) cs w):=by
 subst LN;have main:∀(LV:kp) (kq:St),jN P LV->eD P Γ LV w->LV.cR=aM.cR->(∀p∈LV.no,p.1<(bI sg.args).length/\((aR.av 0 ds) p.1).int≠p.2)->Sat w (aR.av 0 ds) (CE w fT) kq ⟨(bZ sg.args fT).toArray++Array.replicate (fn.ntmps-(bZ sg.args fT).length) undef,[]⟩ w->kq.o0=[]->kq.next=(bI sg.args).length->
     (exec P LV fuel none [] f fn [.code c] kq (if sg.cons=0 then qK sg.res else nU sg)).holds Γ X [] (aR.av 0 ds) (fun _ _=>False)->Reach P aM.cR {fn:=f,tmps:=#[],todo:=[],defers:=[],mode:=.run,kind:=.normal} cs E (fun _ _=>False) (lone (Frame.at {fn:=f,tmps:=#[],todo:=[],defers:=[],mode:=.run,kind:=.normal} ⟨(bZ sg.args fT).toArray++Array.replicate (fn.ntmps-(bZ sg.args fT).length) undef,[]⟩ (cV [.code c])) cs w):=by
   intro LV kq hB1 agp hg YL Fi zl fP hh;rw[<- hg];exact H0 (b:={fn:=f,tmps:=#[],todo:=[],defers:=[],mode:=.run,kind:=.normal}) (cs:=cs) (base:=(bI sg.args).length) (e0:=aR.av 0 ds) (p0:=CE w fT) (F0:=fun _ _=>False) (E:=E) (EP:=fun _ _=>False) (Ps:=[]) (k:=[.code c]) hB1 agp YL Fi zl (by omega) cC (fun _ _=>rfl) trivial
     (fun aq aJ bc a' w' rv F' g1 _ g3 _ _ g6 _ g8=>hE aq aJ bc a' w' rv F' g1 g3 g6 g8) (fun _ _ _ _ _ _ _ _ g=>g) hh
 unfold sK at h;rw[hb]at h;simp only at h;split at h;exact main aM _ hB iO rfl (by rw[pP];intro p hp;simp at hp) hs rfl rfl h;rename_i x m _;split at h;rename_i hx;have hx:x<(bI sg.args).length:=mC hx;rcases Ef h with⟨v,hv,h⟩|⟨cQ,h⟩;exact main aM _ hB iO rfl (by rw[pP];intro p hp;simp at hp) (hs.fix hv) rfl rfl h;refine main {aM with no:=(List.range m).map fun(v:Nat)=>(x,(v:Int)) } _ ⟨hB.aG,hB.yY,hB.xr⟩ iO rfl (fun p hp=>?_) hs rfl rfl h;obtain⟨v,hv,rfl⟩:=jb.1 hp;exact⟨hx,cQ v hv⟩;exact h.elim
theorem Gb{Γ:bS}{aM:kp}{f:FuncId}{fn:Func}{c:Code}{fuel:Nat}{ct:dg}(hB:jN P aM){Wd:World->Prop}(iO:∀w,Wd w->eD P Γ aM w)(hf:P.funcs[f]?=some fn)(hb:fn.body=some c)(hn:(fn.name == "runtime.NumGoroutine")=false)(pP:aM.no=[])
   {T:au} (hT:sK P aM f fn ct.sig fuel=T) (h:∀ds,kinds (bI ct.sig.args) ds=true->ct.pre ds->T.holds Γ (ct.rel ds) [] (aR.av 0 ds) (fun _ _=>False)):if ct.sig.cons=0 then fj P Wd f ct else jg P Wd f ct:=by
 subst hT;have OB:∀fT:List Value,Frame.enter P f (bZ ct.sig.args fT).toArray .normal=Frame.at {fn:=f,tmps:=#[],todo:=[],defers:=[],mode:=.run,kind:=.normal} ⟨(bZ ct.sig.args fT).toArray++Array.replicate (fn.ntmps-(bZ ct.sig.args fT).length) undef,[]⟩ (cV [.code c]):=fun fT=>by
   simp[Frame.enter,Frame.at,hf,hb,cV]
 split;rename_i wN;refine⟨dQ hf hb hn,fun w vs ds hwd ha hp cs=>?_⟩;obtain⟨fT,rfl,dJ⟩:=ha;have hs:=CO (fn:=fn) dJ;have hh:=h ds (je dJ) hp;obtain⟨a',w',todo,Aj⟩:=OE (cs:=cs) (E:=WO P fn ct.sig.res w (ct.rel ds)) (ret:=qK ct.sig.res) hB (iO w hwd) pP hs hb (by rw[if_pos wN]) (fun aq aJ bc a' w' rv F' _ g3 g6 g8=>LU g3 g6 g8) hh;rcases Aj with⟨⟨Uo,bT,gG,e1,e2,e3,e4,e5⟩,dV⟩|⟨_,_,hf,_⟩;refine⟨.returned (packed (bZ ct.sig.res bT)),w',{Frame.at {fn:=f,tmps:=#[],todo:=[],defers:=[],mode:=.run,kind:=.normal} a' todo with mode:=.returning},⟨bT,gG,rfl,e2,e3,e4,e5⟩,?_,?_,⟨rfl,Uo,rfl,fn,hf,e1⟩⟩;show Steps P (lone (Frame.enter P f (bZ ct.sig.args fT).toArray .normal) cs w) _;rw[OB];exact dV;rfl;exact hf.elim;rename_i wN;refine⟨dQ hf hb hn,fun w B fT ds hwd ha hp cs=>?_⟩;have hs:=CO (fn:=fn) ha.fit;have hh:=h ds (je ha.fit) hp;obtain⟨a',w',todo,Aj⟩:=OE (cs:=cs) (E:=OD P fn ct.sig w B fT (ct.rel ds)) (ret:=nU ct.sig) hB (iO w hwd) pP hs hb (by rw[if_neg wN]) (fun aq aJ bc a' w' rv F' g1 g3 g6 g8=>H2 g3 g6 ha g1 g8) hh;rcases Aj with⟨⟨Uo,bT,gG,e1,e2,e3,e4,e5,e6⟩,dV⟩|⟨_,_,hf,_⟩;refine⟨.returned (packed (bZ ct.sig.res bT)),w',{Frame.at {fn:=f,tmps:=#[],todo:=[],defers:=[],mode:=.run,kind:=.normal} a' todo with mode:=.returning},⟨bT,gG,rfl,e2,e3,e4,e5,e6⟩,?_,?_,⟨rfl,Uo,rfl,fn,hf,e1⟩⟩;show Steps P (lone (Frame.enter P f (bZ ct.sig.args fT).toArray .normal) cs w) _;rw[OB];exact dV;rfl;exact hf.elim
end
section
theorem CP{ae:az}{ks:List BE}(h:∀k∈ks,k.af ae=true):∀ {p:BE},iM ks p=true->p.af ae=true:=by
 have hc:∀p,ks.contains p=true->p.af ae=true:=fun p hp=>h p (by simpa using hp);intro p;induction p with
 | and a b eW fA=>
   intro hp;simp only[iM,fF,ao]at hp;rcases hp with hp|⟨h1,h2⟩;exact hc _ hp;simp[BE.af,eW h1,fA h2]
 | or a b eW fA=>
   intro hp;simp only[iM,fF]at hp;rcases hp with hp|h1|h2;exact hc _ hp;simp[BE.af,eW h1];simp[BE.af,fA h2]
 | c b=>
   intro hp;cases b with
   |true=>rfl
   |false=>exact hc _ (by simpa[iM]using hp)
 |_=>intro hp;exact hc _ (by simpa[iM]using hp)
theorem v8{ae:az}{ks:List BE}(h:∀k∈ks,k.af ae=true){p:BE}:(sL ks p).af ae=p.af ae:=by
 unfold sL;split;rename_i g n;split;rename_i hg;simp[BE.af,CP h hg];rfl;rfl
theorem wa{ae:az}{p:BE}:∀ {ks:List BE},(∀k∈ks,k.af ae=true)->p.af ae=true->∀k∈iN p ks,k.af ae=true:=by
 induction p with
 | and a b eW fA=>
   intro ks h hp k hk;simp only[iN,bD]at hk;have xx:=hp;simp only[BE.af,ao]at xx;rcases hk with rfl|hk;exact hp;exact eW (fA h xx.2) xx.1 k hk
 | _=>
   intro ks h hp k hk;simp only[iN,bD]at hk;rcases hk with rfl|hk;exact hp;exact h k hk
def B7:List (Int->Prop)->List (Int->Prop)->Prop
 | [],[]=>True
 |p::ps,q::qs=>(∀e,p e->q e)/\B7 ps qs
 |_,_=>False
theorem B7.refl:∀ {ps:List (Int->Prop)},B7 ps ps
 | []=>trivial
 |_::_=>⟨fun _ h=>h,B7.refl⟩
theorem B7.head{ps qs:List (Int->Prop)}(h:B7 ps qs){e:Int}(hp:jY ps e):jY qs e:=by
 cases ps with
 |nil=>exact hp.elim
 | cons p ps=>cases qs with
   |nil=>exact h.elim
   |cons q qs=>exact h.1 e hp
theorem Ax{Γ:bS}{fl fl':Int->Prop}{e:Ev}{k k':az->Prop}{ae:az}(hf:∀e,fl e->fl' e)(hk:∀ae,k ae->k' ae)(h:e.holds (Γ.at fl) k ae):e.holds (Γ.at fl') k' ae:=by
 cases e with
 |du p e=>exact⟨fun hp=>hk _ (h.1 hp),fun hp=>hf _ (h.2 hp)⟩
 |aG p=>exact⟨h.1,hk _ h.2⟩
 |call f g args res base=>exact Ev.jL (Γ:=Γ.at fl) (e:=.call f g args res base) hk h
 |bW id op=>exact hk _ h
theorem OF{Γ:bS}{R:List DV->Prop}:∀ {t:au} {ae:az} {F:Nat->List DV->Prop} {Ps Qs:List (Int->Prop)},B7 Ps Qs->t.holds Γ R Ps ae F->t.holds Γ R Qs ae F:=by
 intro t;induction t with
 |ret vs=>intro ae F Ps Qs _ h;exact h
 |stuck s=>intro ae F Ps Qs _ h;exact h
 |again id vs=>intro ae F Ps Qs _ h;exact h
 |ev e t ih=>intro ae F Ps Qs hl h;exact Ax (fun e he=>hl.head he) (fun ae h=>ih hl h) h
 |ite c a b eW fA=>intro ae F Ps Qs hl h;exact⟨fun hc=>eW hl (h.1 hc),fun hc=>fA hl (h.2 hc)⟩
 | loop id es kd base body ih=>
   intro ae F Ps Qs hl h;obtain⟨inv,p9,h1,h2⟩:=h;exact⟨inv,p9,h1,fun ds hd hi=>ih hl (h2 ds hd hi)⟩
 |fail e=>intro ae F Ps Qs hl h;exact hl.head h
 |fz x tp t B9 ih=>intro ae F Ps Qs hl h;exact ih (Ps:=_::Ps) (Qs:=_::Qs) ⟨fun e he=>B9 hl he,hl⟩ h
 | pop t ih=>
   intro ae F Ps Qs hl h;cases Ps with
   |nil=>exact h.elim
   | cons p ps=>cases Qs with
     |nil=>exact hl.elim
     |cons q qs=>exact ih hl.2 h
theorem Gc{Γ:bS}{R:List DV->Prop}:∀ {t:au} {ks:List BE} {ae:az} {F:Nat->List DV->Prop} {Ps:List (Int->Prop)},(∀k∈ks,k.af ae=true)->(prune ks t).holds Γ R Ps ae F->t.holds Γ R Ps ae F:=by
 intro t;induction t with
 |ret vs=>intro ks ae F Ps _ h;exact h
 |stuck s=>intro ks ae F Ps _ h;exact h
 |again id vs=>intro ks ae F Ps _ h;exact h
 | ev e t ih=>
   intro ks ae F Ps hk h;cases e with
   | aG p=>
     simp only[prune]at h;split at h;rename_i hkn;exact⟨by rw[<- v8 hk];exact CP hk hkn,ih hk h⟩;obtain⟨h1,h2⟩:=h;exact⟨by rw[<- v8 hk];exact h1,ih (wa hk h1) h2⟩
   |call f g args res base=>exact Ev.jL (e:=.call f g args res base) (fun _ h=>ih (ks:=[]) (fun k hk=>by simp at hk) h) h
   |bW id op=>exact ih (ks:=[]) (fun k hk=>by simp at hk) h
   |du p e=>exact⟨fun hp=>ih (ks:=[]) (fun k hk=>by simp at hk) (h.1 hp),h.2⟩
 | ite c a b eW fA=>
   intro ks ae F Ps hk h;refine⟨fun hc=>eW (wa hk hc) (h.1 hc),fun hc=>fA ?_ (h.2 hc)⟩;intro k cY;rcases bD.1 cY with rfl|cY;rw[BE.cn];simp[BE.af,hc];exact hk k cY
 | loop id es kd base body ih=>
   intro ks ae F Ps hk h;obtain⟨inv,p9,h1,h2⟩:=h;exact⟨inv,p9,h1,fun ds hd hi=>ih (fun k hk=>by simp at hk) (h2 ds hd hi)⟩
 |fail e=>intro ks ae F Ps _ h;exact h
 | fz x tp t B9 ih=>
   intro ks ae F Ps hk h;have h2:t.holds Γ R ((fun n=>(prune [] tp).holds Γ R Ps (ae.set x (.i n)) F)::Ps) ae F:=ih hk h;show t.holds Γ R ((fun n=>tp.holds Γ R Ps (ae.set x (.i n)) F)::Ps) ae F;refine OF (Ps:=(fun n=>(prune [] tp).holds Γ R Ps (ae.set x (.i n)) F)::Ps) ?_ h2;exact⟨fun e he=>B9 (fun k hk=>by simp at hk) he,B7.refl⟩
 | pop t ih=>
   intro ks ae F Ps hk h;cases Ps with
   |nil=>exact h.elim
   |cons p ps=>exact ih hk h
variable {P:Program}
theorem yA{Γ:bS}{aM:kp}{f:FuncId}{fn:Func}{c:Code}{fuel:Nat}{ct:dg}(hB:jN P aM){Wd:World->Prop}(iO:∀w,Wd w->eD P Γ aM w)(hf:P.funcs[f]?=some fn)(hb:fn.body=some c)(hn:(fn.name == "runtime.NumGoroutine")=false)(pP:aM.no=[])
   {T:au} (hT:prune [] (sK P aM f fn ct.sig fuel)=T) (h:∀ds,kinds (bI ct.sig.args) ds=true->ct.pre ds->T.holds Γ (ct.rel ds) [] (aR.av 0 ds) (fun _ _=>False)):if ct.sig.cons=0 then fj P Wd f ct else jg P Wd f ct:=
 Gb hB iO hf hb hn pP rfl fun ds hk hp=>Gc (ks:=[]) (fun k hk=>by simp at hk) (by rw[hT];exact h ds hk hp)
end
section
variable {Γ:bS}{R:List DV->Prop}{Ps:List (Int->Prop)}{ae:az}{F:Nat->List DV->Prop}{t t':au}
end
section
open Go.RowKit
abbrev bH:=Nat->List DV->Option (List DV)
abbrev rH:=Nat->List DV->Option (List DV)
def Ev.run(C:bH)(e:Ev)(k:az->Option (List DV))(ae:az):Option (List DV):=
 match e with
 |.aG p=>if p.af ae=true then k ae else none
 |.call f g args res base=>if g.af ae=true then(match C f (args.map (DE.af ae))with
     |some rs=>k (ae.av base rs)
     |none=>none)else k (ae.av base (defs (bI res)))
 |.bW id op=>k (ae.set id (.l (op.af ae)))
 |.du _ _=>none
def iter(step:(List DV->Option (List DV))->List DV->Option (List DV)):Nat->List DV->Option (List DV)
 |0,_=>none
 |n+1,ds=>step (iter step n) ds
def Bx(F:rH)(id:Nat)(G:List DV->Option (List DV)):rH:=fun j vs=>if j=id then G vs else F j vs
def au.run(C:bH)(N:Nat):au->List (Int->Option (List DV))->az->rH->Option (List DV)
 |.ret bG,_,ae,_=>some (bG.map (DE.af ae))
 |.stuck _,_,_,_=>none
 |.ev e t,Ps,ae,F=>e.run C (fun aq=>t.run C N Ps aq F) ae
 |.ite c a b,Ps,ae,F=>if c.af ae=true then a.run C N Ps ae F else b.run C N Ps ae F
 |.loop id entry _ base body,Ps,ae,F=>iter (fun rec ds=>body.run C N Ps (ae.av base ds) (Bx F id rec)) N (entry.map (DE.af ae))
 |.again id bG,_,ae,F=>F id (bG.map (DE.af ae))
 | .fail e,Ps,ae,_=>match Ps with
   |p::_=>p (e.af ae)
   | []=>none
 |.fz x tp t,Ps,ae,F=>t.run C N ((fun n=>tp.run C N Ps (ae.set x (.i n)) F)::Ps) ae F
 | .pop t,Ps,ae,F=>match Ps with
   |_::YF=>t.run C N YF ae F
   | []=>none
def WT(r:List DV):List (Int->Option (List DV))->List (Int->Prop)->Prop
 | [],[]=>True
 |p::ps,q::qs=>(∀e,p e=some r->q e)/\WT r ps qs
 |_,_=>False
theorem L7{Γ:bS}{C:bH}{N:Nat}{r:List DV}(hC:∀f ds rs,C f ds=some rs->∃c,Γ f=some c/\c.pre ds/\∀eo,c.rel ds eo->eo=rs) :
   ∀ {t:au} {Ps:List (Int->Option (List DV))} {Qs:List (Int->Prop)} {ae:az} {F:rH} {G:Nat->List DV->Prop},WT r Ps Qs->(∀j vs,F j vs=some r->G j vs)->t.run C N Ps ae F=some r->t.holds Γ (fun rs=>rs=r) Qs ae G:=by
 intro t;induction t with
 |ret vs=>intro Ps Qs ae F G _ _ h;show _=r;simpa[au.run]using h
 |stuck s=>intro Ps Qs ae F G _ _ h;cases h
 | ev e t ih=>
   intro Ps Qs ae F G hP hF h;cases e with
   | aG p=>
     simp only[au.run,Ev.run]at h;split at h;rename_i hp;exact⟨hp,ih hP hF h⟩;cases h
   | call f g args res base=>
     simp only[au.run,Ev.run]at h;split at h;rename_i hg;refine⟨fun _=>?_,fun hn=>(by rw[hg]at hn;cases hn)⟩;split at h;rename_i rs vz;obtain⟨c,h1,h2,h3⟩:=hC f _ rs vz;exact⟨c,h1,h2,fun eo _ hr=>by rw[h3 eo hr];exact ih hP hF h⟩;cases h;rename_i hg;exact⟨fun hn=>absurd hn hg,fun _=>ih hP hF h⟩
   |bW id op=>exact ih hP hF h
   |du p e=>cases h
 | ite c a b eW fA=>
   intro Ps Qs ae F G hP hF h;simp only[au.run]at h;split at h;rename_i hc;exact⟨fun _=>eW hP hF h,fun hn=>(by rw[hc]at hn;cases hn)⟩;rename_i hc;exact⟨fun hn=>absurd hn hc,fun _=>fA hP hF h⟩
 | loop id es kd base body ih=>
   intro Ps Qs ae F G hP hF h;simp only[au.run]at h;let step:(List DV->Option (List DV))->List DV->Option (List DV):=fun rec ds=>body.run C N Ps (ae.av base ds) (Bx F id rec)
   classical
   have Gd:∀ds,(∃n,iter step n ds=some r)->∃n,iter step n ds=some r/\∀m,iter step m ds=some r->n<=m:=by
     intro ds ⟨n,hn⟩;induction n using Nat.strongRecOn with
     | _ n YO=>
       by_cases hx:∃m,m<n/\iter step m ds=some r;obtain⟨m,hm,kR⟩:=hx;exact YO m hm kR;refine⟨n,hn,fun m hm=>?_⟩;by_cases cJ:m<n;exact absurd ⟨m,cJ,hm⟩ hx;omega
   refine⟨fun ds=>∃n,iter step n ds=some r,fun ds=>if hx:∃n,iter step n ds=some r then(Gd ds hx).choose else 0,⟨N,h⟩,fun ds _ hi=>?_⟩;have Tw:=(Gd ds hi).choose_spec;have hme:(if hx:∃n,iter step n ds=some r then(Gd ds hx).choose else 0)=(Gd ds hi).choose:=by rw[dif_pos hi]
   obtain⟨h1,h2⟩:=Tw;generalize hk:(Gd ds hi).choose=k at h1 h2 hme;cases k with
   |zero=>cases h1
   | succ k=>
     refine ih (F:=Bx F id (iter step k)) hP ?_ h1;intro j vs hj;unfold lN;unfold Bx at hj;split;rename_i e;rw[if_pos e]at hj;refine⟨⟨k,hj⟩,?_⟩;have hx:∃n,iter step n vs=some r:=⟨k,hj⟩;simp only[hme,dif_pos hx];have:=(Gd vs hx).choose_spec.2 k hj;omega;rename_i e;rw[if_neg e]at hj;exact hF j vs hj
 |again id vs=>intro Ps Qs ae F G hP hF h;exact hF _ _ h
 | fail e=>
   intro Ps Qs ae F G hP hF h;cases Ps with
   |nil=>cases h
   | cons p ps=>cases Qs with
     |nil=>exact hP.elim
     |cons q qs=>exact hP.1 _ h
 | fz x tp t B9 ih=>
   intro Ps Qs ae F G hP hF h;exact ih (Ps:=_::Ps) (Qs:=_::Qs) ⟨fun e he=>B9 hP hF he,hP⟩ hF h
 | pop t ih=>
   intro Ps Qs ae F G hP hF h;cases Ps with
   |nil=>cases h
   | cons p ps=>cases Qs with
     |nil=>exact hP.elim
     |cons q qs=>exact ih hP.2 hF h
def Ur(a b:Option (List DV)):Prop:=∀r,a=some r->b=some r
def wg:List (Int->Option (List DV))->List (Int->Option (List DV))->Prop
 | [],[]=>True
 |p::ps,q::qs=>(∀e,Ur (p e) (q e))/\wg ps qs
 |_,_=>False
theorem wg.refl:∀ {ps:List (Int->Option (List DV))},wg ps ps
 | []=>trivial
 |_::_=>⟨fun _ _ h=>h,wg.refl⟩
theorem qc{C C':bH}{N N':Nat}(hC:∀f ds,Ur (C f ds) (C' f ds))(hN:N<=N') :
   ∀ {t:au} {Ps Qs:List (Int->Option (List DV))} {ae:az} {F G:rH},wg Ps Qs->(∀j vs,Ur (F j vs) (G j vs))->Ur (t.run C N Ps ae F) (t.run C' N' Qs ae G):=by
 intro t;induction t with
 |ret vs=>intro Ps Qs ae F G _ _ r h;exact h
 |stuck s=>intro Ps Qs ae F G _ _ r h;cases h
 | ev e t ih=>
   intro Ps Qs ae F G hP hF r h;cases e with
   | aG p=>
     simp only[au.run,Ev.run]at h ⊢;split at h;rename_i hp;rw[if_pos hp];exact ih hP hF r h;cases h
   | call f g args res base=>
     simp only[au.run,Ev.run]at h ⊢;split at h;rename_i hg;rw[if_pos hg];split at h;rename_i rs vz;rw[hC _ _ _ vz];exact ih hP hF r h;cases h;rename_i hg;rw[if_neg hg];exact ih hP hF r h
   |bW id op=>exact ih hP hF r h
   |du p e=>cases h
 | ite c a b eW fA=>
   intro Ps Qs ae F G hP hF r h;simp only[au.run]at h ⊢;split at h;rename_i hc;rw[if_pos hc];exact eW hP hF r h;rename_i hc;rw[if_neg hc];exact fA hP hF r h
 | loop id es kd base body ih=>
   intro Ps Qs ae F G hP hF r h;simp only[au.run]at h ⊢;have key:∀n n' ds,n<=n'->Ur (iter (fun rec ds=>body.run C N Ps (ae.av base ds) (Bx F id rec)) n ds) (iter (fun rec ds=>body.run C' N' Qs (ae.av base ds) (Bx G id rec)) n' ds):=by
     intro n;induction n with
     |zero=>intro n' ds _ r h;cases h
     | succ n YO=>
       intro n' ds hn r h;cases n' with
       |zero=>omega
       | succ n'=>
         refine ih hP (fun j vs=>?_) r h;unfold Bx;split;exact YO n' vs (by omega);exact hF j vs
   exact key N N' _ hN r h
 |again id vs=>intro Ps Qs ae F G hP hF r h;exact hF _ _ r h
 | fail e=>
   intro Ps Qs ae F G hP hF r h;cases Ps with
   |nil=>cases h
   | cons p ps=>cases Qs with
     |nil=>exact hP.elim
     |cons q qs=>exact hP.1 _ r h
 | fz x tp t B9 ih=>
   intro Ps Qs ae F G hP hF r h;exact ih (Ps:=_::Ps) (Qs:=_::Qs) ⟨fun e=>B9 hP hF,hP⟩ hF r h
 | pop t ih=>
   intro Ps Qs ae F G hP hF r h;cases Ps with
   |nil=>cases h
   | cons p ps=>cases Qs with
     |nil=>exact hP.elim
     |cons q qs=>exact ih hP.2 hF r h
def au.gC(E:Nat->List DV->List DV->Prop)(R:List DV->Prop):au->List (Int->Prop)->az->(Nat->List DV->Prop)->Prop
 |.ret bG,_,ae,_=>R (bG.map (DE.af ae))
 |.stuck _,_,_,_=>False
 |.ev (.aG p) t,Ps,ae,F=>p.af ae=true/\t.gC E R Ps ae F
 |.ev (.call f g args res base) t,Ps,ae,F=>(g.af ae=true->∃rs,E f (args.map (DE.af ae)) rs/\t.gC E R Ps (ae.av base rs) F)/\(g.af ae=false->t.gC E R Ps (ae.av base (defs (bI res))) F)
 |.ev (.bW id op) t,Ps,ae,F=>t.gC E R Ps (ae.set id (.l (op.af ae))) F
 |.ev (.du _ _) _,_,_,_=>False
 |.ite c a b,Ps,ae,F=>(c.af ae=true->a.gC E R Ps ae F)/\(c.af ae=false->b.gC E R Ps ae F)
 |.loop id entry _ base body,Ps,ae,F=>∃(inv:List DV->Prop) (p9:List DV->Nat),inv (entry.map (DE.af ae))/\
     ∀ds,inv ds->body.gC E R Ps (ae.av base ds) (lN F id (fun vs=>inv vs/\p9 vs<p9 ds))
 |.again id bG,_,ae,F=>F id (bG.map (DE.af ae))
 |.fail e,Ps,ae,_=>jY Ps (e.af ae)
 |.fz x tp t,Ps,ae,F=>t.gC E R ((fun n=>tp.gC E R Ps (ae.set x (.i n)) F)::Ps) ae F
 | .pop t,Ps,ae,F=>match Ps with
   |_::YF=>t.gC E R YF ae F
   | []=>False
def OL(C:Nat->bH):Prop:=∀n m f ds,n<=m->Ur (C n f ds) (C m f ds)
def YP(F:Nat->rH):Prop:=∀n m j vs,n<=m->Ur (F n j vs) (F m j vs)
def Ek(P:Nat->List (Int->Option (List DV))):Prop:=∀n m,n<=m->wg (P n) (P m)
def WU(R:List DV->Prop)(P:Nat->List (Int->Option (List DV))):List (Int->Prop)->Prop
 | []=>∀n,P n=[]
 |q::qs=>(∀n,P n≠[])/\(∀e,q e->∃n r,((P n).headD (fun _=>none)) e=some r/\R r)/\WU R (fun n=>(P n).tail) qs
theorem Ek.tail{P:Nat->List (Int->Option (List DV))}(h:Ek P):Ek fun n=>(P n).tail:=by
 intro n m hn;have:=h n m hn;show wg (P n).tail (P m).tail;cases h1:P n with
 | nil=>cases h2:P m with
   |nil=>trivial
   |cons q qs=>rw[h1,h2]at this;exact this.elim
 | cons p ps=>cases h2:P m with
   |nil=>rw[h1,h2]at this;exact this.elim
   |cons q qs=>rw[h1,h2]at this;exact this.2
theorem Us{C:Nat->bH}{E:Nat->List DV->List DV->Prop}{R:List DV->Prop}(hC:OL C)(hE:∀f ds rs,E f ds rs->∃n,C n f ds=some rs) :
   ∀ {t:au} {P:Nat->List (Int->Option (List DV))} {Qs:List (Int->Prop)} {ae:az} {F:Nat->rH} {G:Nat->List DV->Prop},Ek P->YP F->WU R P Qs->(∀j vs,G j vs->∃n r,F n j vs=some r/\R r)->
     t.gC E R Qs ae G->∃n r,t.run (C n) n (P n) ae (F n)=some r/\R r:=by
 intro t;induction t with
 |ret vs=>intro P Qs ae F G _ _ _ _ h;exact⟨0,_,rfl,h⟩
 |stuck s=>intro P Qs ae F G _ _ _ _ h;exact h.elim
 | ev e t ih=>
   intro P Qs ae F G hP hF hQ hG h;cases e with
   | aG p=>
     obtain⟨n,r,h1,h2⟩:=ih hP hF hQ hG h.2;exact⟨n,r,by simp only[au.run,Ev.run,if_pos h.1];exact h1,h2⟩
   | call f g args res base=>
     by_cases hg:g.af ae=true;obtain⟨rs,he,ht⟩:=h.1 hg;obtain⟨n1,fP⟩:=hE _ _ _ he;obtain⟨n,r,h1,h2⟩:=ih hP hF hQ hG ht;refine⟨max n n1,r,?_,h2⟩;simp only[au.run,Ev.run,if_pos hg,hC n1 (max n n1) _ _ (Nat.le_max_right ..) _ fP];exact qc (hC n _ · · (Nat.le_max_left ..)) (Nat.le_max_left ..) (hP _ _ (Nat.le_max_left ..)) (hF _ _ · · (Nat.le_max_left ..)) r h1;have zh:g.af ae=false:=by simpa using hg
     obtain⟨n,r,h1,h2⟩:=ih hP hF hQ hG (h.2 zh);exact⟨n,r,by simp only[au.run,Ev.run,if_neg hg];exact h1,h2⟩
   |bW id op=>exact ih hP hF hQ hG h
   |du p e=>exact h.elim
 | ite c a b eW fA=>
   intro P Qs ae F G hP hF hQ hG h;by_cases hc:c.af ae=true;obtain⟨n,r,h1,h2⟩:=eW hP hF hQ hG (h.1 hc);exact⟨n,r,by simp only[au.run,if_pos hc];exact h1,h2⟩;obtain⟨n,r,h1,h2⟩:=fA hP hF hQ hG (h.2 (by simpa using hc));exact⟨n,r,by simp only[au.run,if_neg hc];exact h1,h2⟩
 | loop id es kd base body ih=>
   intro P Qs ae F G hP hF hQ hG h;obtain⟨inv,p9,h0,hb⟩:=h;let lp:Nat->Nat->List DV->Option (List DV):=fun n=>iter (fun rec ds=>body.run (C n) n (P n) (ae.av base ds) (Bx (F n) id rec))
   have mono:∀k n m ds,n<=m->∀k',k<=k'->Ur (lp n k ds) (lp m k' ds):=by
     intro k;induction k with
     |zero=>intro n m ds _ k' _ r h;cases h
     | succ k ihk=>
       intro n m ds hn k' hk r h;cases k' with
       |zero=>omega
       | succ k'=>
         refine qc (hC n m · · hn) hn (hP n m hn) (fun j vs=>?_) r h;unfold Bx;split;exact ihk n m vs hn k' (by omega);exact hF n m j vs hn
   have key:∀x ds,inv ds->p9 ds=x->∃n r,lp n n ds=some r/\R r:=by
     intro x;induction x using Nat.strongRecOn with
     | _ x M6=>
       intro ds hi hx;obtain⟨n,r,h1,h2⟩:=ih (F:=fun n=>Bx (F n) id (lp n n)) hP (fun n m j vs hn=>by
         show Ur (Bx (F n) id (lp n n) j vs) (Bx (F m) id (lp m m) j vs);unfold Bx;split;exact mono n n m vs hn m hn;exact hF n m j vs hn) hQ (fun j vs hj=>by
         unfold lN at hj;split at hj;rename_i e;subst e;obtain⟨n,r,h1,h2⟩:=M6 _ (by omega) vs hj.1 rfl;exact⟨n,r,by simp only[Bx,if_pos];exact h1,h2⟩;rename_i e;obtain⟨n,r,h1,h2⟩:=hG j vs hj;exact⟨n,r,by simp only[Bx,if_neg e];exact h1,h2⟩) (hb ds hi)
       refine⟨n+1,r,?_,h2⟩;show body.run (C (n+1)) (n+1) (P (n+1)) (ae.av base ds) (Bx (F (n+1)) id (lp (n+1) n))=some r;refine qc (hC n (n+1) · · (by omega)) (by omega) (hP n (n+1) (by omega)) (fun j vs=>?_) r h1;unfold Bx;split;exact mono n n (n+1) vs (by omega) n (fu _);exact hF n (n+1) j vs (by omega)
   obtain⟨n,r,h1,h2⟩:=key _ _ h0 rfl;exact⟨n,r,h1,h2⟩
 |again id vs=>intro P Qs ae F G hP hF hQ hG h;exact hG _ _ h
 | fail e=>
   intro P Qs ae F G hP hF hQ hG h;cases Qs with
   |nil=>exact h.elim
   | cons q qs=>
     obtain⟨n,r,h1,h2⟩:=hQ.2.1 _ h;refine⟨n,r,?_,h2⟩;simp only[au.run];cases hp:P n with
     |nil=>exact absurd hp (hQ.1 n)
     |cons p ps=>rw[hp]at h1;exact h1
 | fz x tp t B9 ih=>
   intro P Qs ae F G hP hF hQ hG h;refine ih (P:=fun n=>(fun e=>tp.run (C n) n (P n) (ae.set x (.i e)) (F n))::P n) (Qs:=_::Qs) ?_ hF ⟨fun n=>by simp,fun e he=>?_,hQ⟩ hG h;intro n m hn;exact⟨fun e=>qc (hC n m · · hn) hn (hP n m hn) (hF n m · · hn),hP n m hn⟩;exact B9 hP hF hQ hG he
 | pop t ih=>
   intro P Qs ae F G hP hF hQ hG h;cases Qs with
   |nil=>exact h.elim
   | cons q qs=>
     obtain⟨n,r,h1,h2⟩:=ih (P:=fun n=>(P n).tail) hP.tail hF hQ.2.2 hG h;refine⟨n,r,?_,h2⟩;simp only[au.run];cases hp:P n with
     |nil=>exact absurd hp (hQ.1 n)
     |cons p ps=>rw[hp]at h1;exact h1
theorem L9{Γ:bS}{R R':List DV->Prop}(hR:∀rs,R rs->R' rs):∀ {t:au} {Ps:List (Int->Prop)} {ae:az} {F:Nat->List DV->Prop},t.holds Γ R Ps ae F->t.holds Γ R' Ps ae F:=by
 have gen:∀ {t:au} {Ps Qs:List (Int->Prop)} {ae:az} {F:Nat->List DV->Prop},B7 Ps Qs->t.holds Γ R Ps ae F->t.holds Γ R' Qs ae F:=by
   intro t;induction t with
   |ret vs=>intro Ps Qs ae F _ h;exact hR _ h
   |stuck s=>intro Ps Qs ae F _ h;exact h
   |again id vs=>intro Ps Qs ae F _ h;exact h
   |ev e t ih=>intro Ps Qs ae F hP h;exact Ax (fun e he=>hP.head he) (fun _ h=>ih hP h) h
   |ite c a b eW fA=>intro Ps Qs ae F hP h;exact⟨fun hc=>eW hP (h.1 hc),fun hc=>fA hP (h.2 hc)⟩
   | loop id es kd base body ih=>
     intro Ps Qs ae F hP h;obtain⟨inv,p9,h1,h2⟩:=h;exact⟨inv,p9,h1,fun ds hd hi=>ih hP (h2 ds hd hi)⟩
   |fail e=>intro Ps Qs ae F hP h;exact hP.head h
   |fz x tp t B9 ih=>intro Ps Qs ae F hP h;exact ih (Ps:=_::Ps) (Qs:=_::Qs) ⟨fun e he=>B9 hP he,hP⟩ h
   | pop t ih=>
     intro Ps Qs ae F hP h;cases Ps with
     |nil=>exact h.elim
     | cons p ps=>cases Qs with
       |nil=>exact hP.elim
       |cons q qs=>exact ih hP.2 h
 intro t Ps ae F h;exact gen B7.refl h
structure iG where
 f:FuncId
 tree:au
 sub:List (FuncId×Nat)
def iG.key(e:iG)(g:FuncId):Nat:=match e.sub.find? (fun p=>p.1==g)with
 |some p=>p.2
 |none=>g
def ev(T:Nat->Option iG)(X:bH):Nat->bH
 |0,_,_=>none
 | n+1,k,ds=>match T k with
   |some e=>e.tree.run (fun g=>ev T X n (e.key g)) n [] (aR.av 0 ds) (fun _ _=>none)
   |none=>X k ds
theorem nE{T:Nat->Option iG}{X:bH}:OL (ev T X):=by
 intro n;induction n with
 |zero=>intro m f ds _ r h;cases h
 | succ n ih=>
   intro m k ds hm r h;cases m with
   |zero=>omega
   | succ m=>
     simp only[ev]at h ⊢;split at h;exact qc (fun g ds=>ih m _ ds (by omega)) (by omega) wg.refl (fun _ _ _ h=>h) r h;exact h
def cK(T:Nat->Option iG)(X:bH)(k:Nat)(ds rs:List DV):Prop:=∃n,ev T X n k ds=some rs
theorem cK.uf{T:Nat->Option iG}{X:bH}{k:Nat}{ds rs eo:List DV}(h:cK T X k ds rs)(h':cK T X k ds eo):rs=eo:=by
 obtain⟨n,hn⟩:=h;obtain⟨m,hm⟩:=h';have a:=nE n (max n m) k ds (Nat.le_max_left ..) rs hn;have b:=nE m (max n m) k ds (Nat.le_max_right ..) eo hm;rw[a]at b;simpa using b
theorem AE{T:Nat->Option iG}{X:bH}{k:Nat}{e:iG}{ds:List DV}{R:List DV->Prop}(hk:T k=some e)(h:e.tree.gC (fun g=>cK T X (e.key g)) R [] (aR.av 0 ds) (fun _ _=>False)):∃rs,cK T X k ds rs/\R rs:=by
 obtain⟨n,r,h1,h2⟩:=Us (C:=fun n g=>ev T X n (e.key g)) (E:=fun g=>cK T X (e.key g)) (R:=R) (fun n m f ds hn=>nE n m _ ds hn) (fun f ds rs h=>h) (t:=e.tree) (P:=fun _=>[]) (Qs:=[]) (ae:=aR.av 0 ds) (F:=fun _ _ _=>none) (G:=fun _ _=>False)
   (fun _ _ _=>trivial) (fun _ _ _ _ _ _ h=>h) (fun _=>rfl) (fun _ _ h=>h.elim) h
 exact⟨r,⟨n+1,by simp only[ev,hk];exact h1⟩,h2⟩
theorem ji{T:Nat->Option iG}{X:bH}{k:Nat}{ds rs:List DV}(hk:T k=none)(h:X k ds=some rs):cK T X k ds rs:=⟨1,by simp only[ev,hk];exact h⟩
variable {P:Program}
def oH(T:Nat->Option iG)(k:Nat):FuncId:=match T k with
 |some e=>e.f
 |none=>k
def uB(T:Nat->Option iG)(Xd:Nat->Bool)(k:Nat):Bool:=(T k).isSome||Xd k
def Has(P:Program)(Wd:World->Prop)(f:FuncId)(c:dg):Prop:=if c.sig.cons=0 then fj P Wd f c\/tK P f c else jg P Wd f c
def Ut:CT->DE->Bool
 |.s _ _,.rows _=>true
 |.s _ _,.uV _=>true
 |c,d=>sJ c d
def CW:List CT->List DE->Bool
 | [],[]=>true
 |c::cs,d::ds=>Ut c d&&CW cs ds
 |_,_=>false
def au.na(ks:List CT):au->Bool
 |.ret bG=>CW ks bG
 |.ev _ t=>t.na ks
 |.ite _ a b=>a.na ks&&b.na ks
 |.loop _ _ _ _ t=>t.na ks
 |.fz _ a b=>a.na ks&&b.na ks
 |.pop t=>t.na ks
 |_=>true
theorem Ma{ae:az}:∀ {ks:List CT} {ds:List DE},CW ks ds=true->kinds ks (ds.map (DE.af ae))=true:=by
 intro ks;induction ks with
 |nil=>intro ds h;cases ds<;>simp_all[CW,kinds]
 | cons c ks ih=>intro ds h;cases ds with
   |nil=>simp[CW]at h
   | cons d ds=>
     simp only[CW,ao]at h;simp only[jK,kinds,ih h.2,Bool.and_true];have:=h.1;cases c with
     |c k=>cases k<;>cases d<;>simp_all[Ut,sJ,DE.af,DV.kind]
     |s e ks=>cases d<;>simp_all[Ut,sJ,DE.af,DV.kind]
     |n e aN=>cases d<;>simp_all[Ut,sJ,DE.af,DV.kind]
theorem Mb{C:bH}{N:Nat}{ks:List CT}:∀ {t:au} {Ps:List (Int->Option (List DV))} {ae:az} {F:rH} {r:List DV},t.na ks=true->(∀p∈Ps,∀e r,p e=some r->kinds ks r=true)->(∀j vs r,F j vs=some r->kinds ks r=true)->t.run C N Ps ae F=some r->kinds ks r=true:=by
 intro t;induction t with
 |ret vs=>intro Ps ae F r ht _ _ h;simp only[au.run,ah]at h;subst h;exact Ma ht
 |stuck s=>intro Ps ae F r _ _ _ h;cases h
 | ev e t ih=>
   intro Ps ae F r ht hP hF h;have ht:t.na ks=true:=ht;cases e with
   | aG p=>
     simp only[au.run,Ev.run]at h;split at h;exact ih ht hP hF h;cases h
   | call f g args res base=>
     simp only[au.run,Ev.run]at h;split at h;split at h;exact ih ht hP hF h;cases h;exact ih ht hP hF h
   |bW id op=>exact ih ht hP hF h
   |du p e=>cases h
 | ite c a b eW fA=>
   intro Ps ae F r ht hP hF h;simp only[au.na,ao]at ht;simp only[au.run]at h;split at h;exact eW ht.1 hP hF h;exact fA ht.2 hP hF h
 | loop id es kd base body ih=>
   intro Ps ae F r ht hP hF h;have ht:body.na ks=true:=ht;simp only[au.run]at h;have key:∀n ds r,iter (fun rec ds=>body.run C N Ps (ae.av base ds) (Bx F id rec)) n ds=some r->kinds ks r=true:=by
     intro n;induction n with
     |zero=>intro ds r h;cases h
     | succ n YO=>
       intro ds r h;refine ih ht hP (fun j vs r hj=>?_) h;unfold Bx at hj;split at hj;exact YO vs r hj;exact hF j vs r hj
   exact key N _ r h
 |again id vs=>intro Ps ae F r _ _ hF h;exact hF _ _ _ h
 | fail e=>
   intro Ps ae F r _ hP _ h;cases Ps with
   |nil=>cases h
   |cons p ps=>exact hP p (aK ..) _ _ h
 | fz x tp t B9 ih=>
   intro Ps ae F r ht hP hF h;simp only[au.na,ao]at ht;refine ih (Ps:=_::Ps) ht.2 (fun p hp e r he=>?_) hF h;rcases bD.1 hp with rfl|hp;exact B9 ht.1 hP hF he;exact hP p hp e r he
 | pop t ih=>
   intro Ps ae F r ht hP hF h;have ht:t.na ks=true:=ht;cases Ps with
   |nil=>cases h
   |cons p ps=>exact ih ht (fun q hq=>hP q (bl _ hq)) hF h
def WV(P:Program)(Wd:World->Prop)(T:Nat->Option iG)(Xd:Nat->Bool)(sg:Nat->Option bR)(k:Nat)(e:iG):Prop:=
 ∃aM fn c fuel s,(aM.no=[]/\e.tree.na (bI s.res)=true)/\sg k=some s/\jN P aM/\(∀g s',aM.sig g=some s'->sg (e.key g)=some s'/\oH T (e.key g)=g)/\(∀g,uB T Xd (e.key g)=true->(aM.sig g).isSome=true)/\
   P.funcs[e.f]?=some fn/\fn.body=some c/\(fn.name == "runtime.NumGoroutine")=false/\prune [] (sK P aM e.f fn s fuel)=e.tree/\
   (∀w,Wd w->∀g cs,(g,cs)∈aM.yd->∃T z,w.heap[g]?=some (.cells (cs.map fun n=>Value.int .i64 n).toArray T z))
structure AF(P:Program)(Wd:World->Prop)(T:Nat->Option iG)(X:bH)(Xd:Nat->Bool)(sg:Nat->Option bR):Prop where
 stays:∀w w',Wd w->Below w.heap.size w w'->Wd w'
 ent:∀k e,T k=some e->WV P Wd T Xd sg k e
 acf:∀k s,T k=none->sg k=some s->∀ds rs,X k ds=some rs->kinds (bI s.res) rs=true
 ext:∀k s,T k=none->Xd k=true->sg k=some s->Has P Wd k ⟨s,fun ds=>∃rs,kinds (bI s.res) rs=true/\X k ds=some rs,fun ds rs=>X k ds=some rs,fun _ h=>h⟩
 non:∀k ds,Xd k=false->X k ds=none
theorem jg.weaken{Wd:World->Prop}{f:FuncId}{c c':dg}(h:jg P Wd f c)(hs:c'.sig=c.sig)(hp:∀ds,c'.pre ds->c.pre ds)(hr:∀ds rs,c'.pre ds->c.rel ds rs->c'.rel ds rs):jg P Wd f c':=by
 obtain⟨s,pre,rel,ne⟩:=c;obtain⟨s',El,Ge,ne'⟩:=c';simp only at hs;subst hs;exact⟨h.1,fun w B fT ds hw ha hd=>(h.2 w B fT ds hw ha (hp ds hd)).mono fun e w' he=>by
   obtain⟨bT,gG,e1,e2,e3,e4,e5,e6⟩:=he;exact⟨bT,gG,e1,e2,e3,e4,e5,hr _ _ hd e6⟩⟩
theorem fj.weaken{Wd:World->Prop}{f:FuncId}{c c':dg}(h:fj P Wd f c)(hs:c'.sig=c.sig)(hp:∀ds,c'.pre ds->c.pre ds)(hr:∀ds rs,c'.pre ds->c.rel ds rs->c'.rel ds rs):fj P Wd f c':=by
 obtain⟨s,pre,rel,ne⟩:=c;obtain⟨s',El,Ge,ne'⟩:=c';simp only at hs;subst hs;exact⟨h.1,fun w vs ds hw ha hd=>(h.2 w vs ds hw ha (hp ds hd)).mono fun e w' he=>by
   obtain⟨bT,gG,e1,e2,e3,e4,e5⟩:=he;exact⟨bT,gG,e1,e2,e3,e4,hr _ _ hd e5⟩⟩
theorem tK.weaken{f:FuncId}{c c':dg}(h:tK P f c)(hs:c'.sig=c.sig)(hp:∀ds,c'.pre ds->c.pre ds)(hr:∀ds rs,c'.pre ds->c.rel ds rs->c'.rel ds rs):tK P f c':=by
 obtain⟨s,pre,rel,ne⟩:=c;obtain⟨s',El,Ge,ne'⟩:=c';simp only at hs;subst hs;exact fun w vs ds ha hd=>by
   obtain⟨bT,gG,e1,e2,e3,e4⟩:=h w vs ds ha (hp ds hd);exact⟨bT,gG,e1,e2,e3,hr _ _ hd e4⟩
theorem Has.weaken{Wd:World->Prop}{f:FuncId}{c c':dg}(h:Has P Wd f c)(hs:c'.sig=c.sig)(hp:∀ds,c'.pre ds->c.pre ds)(hr:∀ds rs,c'.pre ds->c.rel ds rs->c'.rel ds rs):Has P Wd f c':=by
 unfold Has at h ⊢;rw[hs];split at h;rename_i hc;rw[if_pos hc];exact h.imp (fun a=>a.weaken hs hp hr) (fun a=>a.weaken hs hp hr);rename_i hc;rw[if_neg hc];exact h.weaken hs hp hr
theorem OM{Wd:World->Prop}{f:FuncId}{c:dg}(h:if c.sig.cons=0 then fj P Wd f c else jg P Wd f c):Has P Wd f c:=by
 unfold Has;split at h;rename_i hc;rw[if_pos hc];exact .inl h;rename_i hc;rw[if_neg hc];exact h
theorem Has.known{Wd:World->Prop}{f:FuncId}{c:dg}{w0:World}(h:Has P Wd f c)(hw:∀w,Below w0.heap.size w0 w->Wd w):if c.sig.cons=0 then qO P w0 f c\/tK P f c else jg P (Below w0.heap.size w0) f c:=by
 unfold Has at h;split at h;rename_i hc;rw[if_pos hc];exact h.imp (fun a=>a.at hw) (fun a=>a);rename_i hc;rw[if_neg hc];exact⟨h.1,fun w B fT ds hb ha hp=>h.2 w B fT ds (hw w hb) ha hp⟩
abbrev evC(T:Nat->Option iG)(X:bH)(n k:Nat)(s:bR):dg:=⟨s,fun ds=>∃rs,kinds (bI s.res) rs=true/\ev T X n k ds=some rs,fun ds rs=>ev T X n k ds=some rs,fun _ h=>h⟩
theorem sX{Wd:World->Prop}{T:Nat->Option iG}{X:bH}{Xd:Nat->Bool}{sg:Nat->Option bR}(h:AF P Wd T X Xd sg){n k:Nat}{s:bR}{ds rs:List DV}(hs:sg k=some s)(hr:ev T X n k ds=some rs):kinds (bI s.res) rs=true:=by
 cases n with
 |zero=>cases hr
 | succ n=>
   simp only[ev]at hr;cases hT:T k with
   |none=>rw[hT]at hr;exact h.acf k s hT hs ds rs hr
   | some e=>
     rw[hT]at hr;obtain⟨aM,fn,c,fuel,s',h0,h1,_⟩:=h.ent k e hT;rw[hs,ah]at h1;subst h1;exact Mb h0.2 (fun p hp=>by simp at hp) (fun j vs r hj=>by cases hj) hr
theorem ON{Wd:World->Prop}{T:Nat->Option iG}{X:bH}{Xd:Nat->Bool}{sg:Nat->Option bR}(h:AF P Wd T X Xd sg) :
   ∀n k s,sg k=some s->uB T Xd k=true->Has P Wd (oH T k) (evC T X n k s):=by
 intro n;induction n with
 | zero=>
   intro k s hs hd;cases hT:T k with
   | none=>
     have hx:Xd k=true:=by simpa[uB,hT]using hd
     have hf:oH T k=k:=by simp[oH,hT]
     rw[hf];refine(h.ext k s hT hx hs).weaken rfl (fun ds hp=>?_) (fun ds rs hp _=>?_)<;>(obtain⟨rs,_,vz⟩:=hp;cases vz)
   | some e=>
     obtain⟨aM,fn,c,fuel,s',h0,h1,h2,_,_,h5,h6,h7,h8,h9⟩:=h.ent k e hT;rw[hs,ah]at h1;subst h1;have hf:oH T k=e.f:=by simp[oH,hT]
     rw[hf];refine OM (yA (Γ:=⟨fun _=>none,fun _=>False⟩) h2 (fun w hw=>⟨fun f c hc=>(by cases hc),h9 w hw⟩) h5 h6 h7 h0.1 h8 fun ds hk hp=>?_);obtain⟨rs,_,vz⟩:=hp;cases vz
 | succ n ih=>
   intro k s hs hd;cases hT:T k with
   | none=>
     have hx:Xd k=true:=by simpa[uB,hT]using hd
     have hf:oH T k=k:=by simp[oH,hT]
     rw[hf];refine(h.ext k s hT hx hs).weaken rfl (fun ds hp=>?_) (fun ds rs hp hr=>?_)<;>simp only[ev,hT]at * <;>assumption
   | some e=>
     obtain⟨aM,fn,c,fuel,s',h0,h1,h2,h3,h4,h5,h6,h7,h8,h9⟩:=h.ent k e hT;rw[hs,ah]at h1;subst h1;have hf:oH T k=e.f:=by simp[oH,hT]
     rw[hf];let Γ:bS:=⟨fun g=>match aM.sig g with
       |some s'=>if uB T Xd (e.key g)=true then some (evC T X n (e.key g) s')else none
       |none=>none,fun _=>False⟩
     have iO:∀w,Wd w->eD P Γ aM w:=by
       refine fun w hw=>⟨fun g c hc=>?_,h9 w hw⟩;simp only[Γ]at hc;split at hc;rename_i s' ir;split at hc;rename_i hdg;simp only[ah]at hc;subst hc;obtain⟨g1,g2⟩:=h3 g s' ir;have:=ih (e.key g) s' g1 hdg;rw[g2]at this;exact⟨this.known fun w' hb=>h.stays w w' hw hb,ir⟩;cases hc;cases hc
     refine OM (yA (Γ:=Γ) h2 iO h5 h6 h7 h0.1 h8 fun ds hk hp=>?_);obtain⟨r,_,hr⟩:=hp;have cO:=hr;simp only[ev,hT]at hr;have:=L7 (Γ:=Γ) (C:=fun g=>ev T X n (e.key g)) (N:=n) (r:=r) (fun g ds rs hg=>by
       have hdg:uB T Xd (e.key g)=true:=by
         unfold uB;cases hTg:T (e.key g)with
         |some _=>rfl
         | none=>
           cases n with
           |zero=>cases hg
           | succ n=>
             simp only[ev,hTg]at hg;cases hx:Xd (e.key g)with
             |true=>rfl
             |false=>rw[h.non _ _ hx]at hg;cases hg
       obtain⟨s',ir⟩:=zF.1 (h4 g hdg);refine⟨evC T X n (e.key g) s',by simp only[Γ,ir,hdg,if_true],⟨rs,sX h (h3 g s' ir).1 hg,hg⟩,fun eo cO=>?_⟩;have cO:ev T X n (e.key g) ds=some eo:=cO;rw[hg]at cO;simpa using cO.symm) (Ps:=[]) (Qs:=[]) (G:=fun _ _=>False) trivial (fun j vs hj=>by cases hj) hr
     refine L9 (fun rs vz=>?_) this;subst vz;exact cO
theorem wh{Wd:World->Prop}{T:Nat->Option iG}{X:bH}{Xd:Nat->Bool}{sg:Nat->Option bR}(h:AF P Wd T X Xd sg){k:Nat}{e:iG}{ct:dg}(hT:T k=some e)(hs:sg k=some ct.sig)(wN:ct.sig.cons=0)(hp:∀ds,kinds (bI ct.sig.args) ds=true->ct.pre ds->∃rs,cK T X k ds rs/\ct.rel ds rs) :
   fj P Wd e.f ct:=by
 have hd:uB T Xd k=true:=by simp[uB,hT]
 have hf:oH T k=e.f:=by simp[oH,hT]
 obtain⟨aM,fn,c,fuel,s',h0,h1,h2,h3,h4,h5,h6,h7,h8,h9⟩:=h.ent k e hT;refine⟨dQ h5 h6 h7,fun w vs ds hwd ha BT=>?_⟩;have hk:kinds (bI ct.sig.args) ds=true:=by obtain⟨_,_,hf⟩:=ha;exact je hf
 obtain⟨rs,⟨n,hn⟩,hr⟩:=hp ds hk BT;have hc:=ON h n k ct.sig hs hd;rw[hf]at hc;unfold Has at hc;rw[if_pos wN]at hc;rcases hc with hc|hc;refine(hc.2 w vs ds hwd ha ⟨rs,sX h hs hn,hn⟩).mono fun ex w' he=>?_;obtain⟨bT,gG,e1,e2,e3,e4,e5⟩:=he;have e5:ev T X n k ds=some gG:=e5;rw[hn,ah]at e5;subst e5;exact⟨bT,rs,e1,e2,e3,e4,hr⟩;obtain⟨bT,gG,e1,_,_,_⟩:=hc w vs ds ha ⟨rs,sX h hs hn,hn⟩;have:=(dQ h5 h6 h7) w vs.toArray;rw[this]at e1;cases e1
end
section
def mb(T:Nat->Option iG)(X:bH)(k:Nat)(pre:List DV->Prop)(rel:List DV->List DV->Prop):Prop:=∀ds,pre ds->∃rs,cK T X k ds rs/\rel ds rs
theorem mb.weaken{T:Nat->Option iG}{X:bH}{k:Nat}{pre El:List DV->Prop}{rel Ge:List DV->List DV->Prop}(h:mb T X k pre rel)(hp:∀ds,El ds->pre ds)(hr:∀ds rs,El ds->rel ds rs->Ge ds rs):mb T X k El Ge:=
 fun ds hd=>let⟨rs,h1,h2⟩:=h ds (hp ds hd);⟨rs,h1,hr ds rs hd h2⟩
theorem mb.and{T:Nat->Option iG}{X:bH}{k:Nat}{pre El:List DV->Prop}{rel Ge:List DV->List DV->Prop}(h:mb T X k pre rel)(h':mb T X k El Ge):mb T X k (fun ds=>pre ds/\El ds) (fun ds rs=>rel ds rs/\Ge ds rs):=
 fun ds hd=>by
   obtain⟨rs,h1,h2⟩:=h ds hd.1;obtain⟨eo,uK,Hi⟩:=h' ds hd.2;cases h1.uf uK;exact⟨rs,h1,h2,Hi⟩
theorem lB{T:Nat->Option iG}{X:bH}{k:Nat}{f:FuncId}{tr:au}{sub:List (FuncId×Nat)}{pre:List DV->Prop}{rel:List DV->List DV->Prop}(hk:T k=some ⟨f,tr,sub⟩)
   (h:∀ds,pre ds->tr.gC (fun g=>cK T X ((iG.mk f tr sub).key g)) (rel ds) [] (aR.av 0 ds) (fun _ _=>False)):mb T X k pre rel:=fun ds hd=>AE hk (h ds hd)
variable {E:Nat->List DV->List DV->Prop}{R:List DV->Prop}{Ps:List (Int->Prop)}{ae:az}{F:Nat->List DV->Prop}{t t':au}
theorem jP{p:BE}(h:p.af ae=true)(ht:t.gC E R Ps ae F):(au.ev (.aG p) t).gC E R Ps ae F:=⟨h,ht⟩
theorem iQ{id:Nat}{op:cU}{M:List (List Int)}(e:op.af ae=M)(ht:t.gC E R Ps (ae.set id (.l M)) F):(au.ev (.bW id op) t).gC E R Ps ae F:=by subst e;exact ht
theorem iy{f:FuncId}{args:List DE}{res:List VT}{base:Nat}{pre:List DV->Prop}{rel:List DV->List DV->Prop}(hc:∀ds,pre ds->∃rs,E f ds rs/\rel ds rs)(hp:pre (args.map (DE.af ae)))
   (ht:∀rs,E f (args.map (DE.af ae)) rs->rel (args.map (DE.af ae)) rs->t.gC E R Ps (ae.av base rs) F):(au.ev (.call f (.c true) args res base) t).gC E R Ps ae F:=
 ⟨fun _=>let⟨rs,h1,h2⟩:=hc _ hp;⟨rs,h1,ht rs h1 h2⟩,fun h=>by simp[BE.af]at h⟩
theorem Em{f:FuncId}{g:BE}{args:List DE}{res:List VT}{base:Nat}{pre:List DV->Prop}{rel:List DV->List DV->Prop}(hc:∀ds,pre ds->∃rs,E f ds rs/\rel ds rs)(hp:g.af ae=true->pre (args.map (DE.af ae)))
   (ht:g.af ae=true->∀rs,E f (args.map (DE.af ae)) rs->rel (args.map (DE.af ae)) rs->t.gC E R Ps (ae.av base rs) F) (hn:g.af ae=false->t.gC E R Ps (ae.av base (defs (bI res))) F):(au.ev (.call f g args res base) t).gC E R Ps ae F:=
 ⟨fun hg=>let⟨rs,h1,h2⟩:=hc _ (hp hg);⟨rs,h1,ht hg rs h1 h2⟩,hn⟩
theorem JJ{f:FuncId}{g:BE}{args:List DE}{res:List VT}{base:Nat}{pre:List DV->Prop}{rel:List DV->List DV->Prop}(hc:∀ds,pre ds->∃rs,E f ds rs/\rel ds rs)(hg:g.af ae=true)(hp:pre (args.map (DE.af ae)))
   (ht:∀rs,E f (args.map (DE.af ae)) rs->rel (args.map (DE.af ae)) rs->t.gC E R Ps (ae.av base rs) F):(au.ev (.call f g args res base) t).gC E R Ps ae F:=
 Em hc (fun _=>hp) (fun _=>ht) (fun h=>by rw[hg]at h;cases h)
theorem lY{c:BE}(h1:c.af ae=true->t.gC E R Ps ae F)(h2:c.af ae=false->t'.gC E R Ps ae F):(au.ite c t t').gC E R Ps ae F:=⟨h1,h2⟩
theorem nZ{id:Nat}{entry:List DE}{ks:List CT}{base:Nat}{body:au}(inv:List DV->Prop)(p9:List DV->Nat)(h0:inv (entry.map (DE.af ae)))
   (hb:∀ds,inv ds->body.gC E R Ps (ae.av base ds) (lN F id (fun vs=>inv vs/\p9 vs<p9 ds))):(au.loop id entry ks base body).gC E R Ps ae F:=⟨inv,p9,h0,hb⟩
theorem lO{id:Nat}{bG:List DE}{G:List DV->Prop}(h:G (bG.map (DE.af ae))):(au.again id bG).gC E R Ps ae (lN F id G):=by
 simpa[au.gC,lN]using h
theorem OO{bG:List DE}(h:R (bG.map (DE.af ae))):(au.ret bG).gC E R Ps ae F:=h
end
section
def au.par(E:Nat->List DV->List DV->Prop)(R:List DV->Prop):au->List (Int->Prop)->az->(Nat->List DV->Prop)->Prop
 |.ret bG,_,ae,_=>R (bG.map (DE.af ae))
 |.stuck _,_,_,_=>True
 |.ev (.aG p) t,Ps,ae,F=>p.af ae=true->t.par E R Ps ae F
 |.ev (.call f g args res base) t,Ps,ae,F=>(g.af ae=true->∀rs,E f (args.map (DE.af ae)) rs->t.par E R Ps (ae.av base rs) F)/\(g.af ae=false->t.par E R Ps (ae.av base (defs (bI res))) F)
 |.ev (.bW id op) t,Ps,ae,F=>t.par E R Ps (ae.set id (.l (op.af ae))) F
 |.ev (.du _ _) _,_,_,_=>True
 |.ite c a b,Ps,ae,F=>(c.af ae=true->a.par E R Ps ae F)/\(c.af ae=false->b.par E R Ps ae F)
 |.loop id entry _ base body,Ps,ae,F=>∃inv:List DV->Prop,inv (entry.map (DE.af ae))/\∀ds,inv ds->body.par E R Ps (ae.av base ds) (lN F id inv)
 |.again id bG,_,ae,F=>F id (bG.map (DE.af ae))
 |.fail e,Ps,ae,_=>jY Ps (e.af ae)
 |.fz x tp t,Ps,ae,F=>t.par E R ((fun n=>tp.par E R Ps (ae.set x (.i n)) F)::Ps) ae F
 |.pop t,Ps,ae,F=>t.par E R Ps.tail ae F
def W7(R:List DV->Prop):List (Int->Option (List DV))->List (Int->Prop)->Prop
 | [],_=>True
 |p::ps,q::qs=>(∀e,q e->∀r,p e=some r->R r)/\W7 R ps qs
 |_::_,[]=>False
theorem UL{C:bH}{N:Nat}{E:Nat->List DV->List DV->Prop}{R:List DV->Prop}(hC:∀f ds rs,C f ds=some rs->E f ds rs) :
   ∀ {t:au} {Ps:List (Int->Option (List DV))} {Qs:List (Int->Prop)} {ae:az} {F:rH} {G:Nat->List DV->Prop},W7 R Ps Qs->(∀j vs,G j vs->∀r,F j vs=some r->R r)->t.par E R Qs ae G->∀r,t.run C N Ps ae F=some r->R r:=by
 intro t;induction t with
 |ret bG=>intro Ps Qs ae F G _ _ h r e;cases e;exact h
 |stuck s=>intro Ps Qs ae F G _ _ h r e;cases e
 | ev e t ih=>
   intro Ps Qs ae F G hP hF h r er;cases e with
   | aG p=>
     simp only[au.run,Ev.run]at er;split at er;rename_i hp;exact ih hP hF (h hp) r er;cases er
   | call f g args res base=>
     simp only[au.run,Ev.run]at er;split at er;rename_i hg;split at er;rename_i rs vz;exact ih hP hF (h.1 hg rs (hC _ _ _ vz)) r er;cases er;rename_i hg;exact ih hP hF (h.2 (by simpa using hg)) r er
   |bW id op=>exact ih hP hF h r er
   |du p e=>cases er
 | ite c a b eW fA=>
   intro Ps Qs ae F G hP hF h r er;simp only[au.run]at er;split at er;rename_i hc;exact eW hP hF (h.1 hc) r er;rename_i hc;exact fA hP hF (h.2 (by simpa using hc)) r er
 | loop id es kd base body ih=>
   intro Ps Qs ae F G hP hF h r er;obtain⟨inv,h0,hb⟩:=h;simp only[au.run]at er;have key:∀n ds,inv ds->∀r,iter (fun rec ds=>body.run C N Ps (ae.av base ds) (Bx F id rec)) n ds=some r->R r:=by
     intro n;induction n with
     |zero=>intro ds _ r e;cases e
     | succ n YO=>
       intro ds hi r e;refine ih hP (fun j vs hj r hr=>?_) (hb ds hi) r e;unfold lN at hj;unfold Bx at hr;split at hj;rename_i e;rw[if_pos e]at hr;exact YO vs hj r hr;rename_i e;rw[if_neg e]at hr;exact hF j vs hj r hr
   exact key N _ h0 r er
 |again id vs=>intro Ps Qs ae F G hP hF h r er;exact hF _ _ h r er
 | fail e=>
   intro Ps Qs ae F G hP hF h r er;cases Ps with
   |nil=>cases er
   | cons p ps=>cases Qs with
     |nil=>exact hP.elim
     |cons q qs=>exact hP.1 _ h r er
 | fz x tp t B9 ih=>
   intro Ps Qs ae F G hP hF h r er;exact ih (Ps:=_::Ps) (Qs:=_::Qs) ⟨fun e he r hr=>B9 hP hF he r hr,hP⟩ hF h r er
 | pop t ih=>
   intro Ps Qs ae F G hP hF h r er;cases Ps with
   |nil=>cases er
   | cons p ps=>cases Qs with
     |nil=>exact hP.elim
     |cons q qs=>exact ih hP.2 hF h r er
theorem cX{T:Nat->Option iG}{X:bH}{k:Nat}{e:iG}{ds rs:List DV}{R:List DV->Prop}(hk:T k=some e)(h:e.tree.par (fun g=>cK T X (e.key g)) R [] (aR.av 0 ds) (fun _ _=>True))(hg:cK T X k ds rs):R rs:=by
 obtain⟨n,hn⟩:=hg;cases n with
 |zero=>cases hn
 | succ n=>
   simp only[ev,hk]at hn;exact UL (E:=fun g=>cK T X (e.key g)) (Ps:=[]) (Qs:=[]) (G:=fun _ _=>True) (fun f ds rs hf=>⟨n,hf⟩) trivial (fun j vs _ r hr=>by cases hr) h rs hn
variable {E:Nat->List DV->List DV->Prop}{R:List DV->Prop}{Ps:List (Int->Prop)}{ae:az}{F:Nat->List DV->Prop}{t t':au}
theorem gn{p:BE}(ht:p.af ae=true->t.par E R Ps ae F):(au.ev (.aG p) t).par E R Ps ae F:=ht
theorem AS{id:Nat}{op:cU}(ht:t.par E R Ps (ae.set id (.l (op.af ae))) F):(au.ev (.bW id op) t).par E R Ps ae F:=ht
theorem cM{f:FuncId}{args:List DE}{res:List VT}{base:Nat}(ht:∀rs,E f (args.map (DE.af ae)) rs->t.par E R Ps (ae.av base rs) F):(au.ev (.call f (.c true) args res base) t).par E R Ps ae F:=
 ⟨fun _=>ht,fun h=>by simp[BE.af]at h⟩
theorem wx{f:FuncId}{g:BE}{args:List DE}{res:List VT}{base:Nat}(ht:g.af ae=true->∀rs,E f (args.map (DE.af ae)) rs->t.par E R Ps (ae.av base rs) F)(hn:g.af ae=false->t.par E R Ps (ae.av base (defs (bI res))) F):(au.ev (.call f g args res base) t).par E R Ps ae F:=⟨ht,hn⟩
theorem iC{c:BE}(h1:c.af ae=true->t.par E R Ps ae F)(h2:c.af ae=false->t'.par E R Ps ae F):(au.ite c t t').par E R Ps ae F:=⟨h1,h2⟩
theorem xG{id:Nat}{entry:List DE}{ks:List CT}{base:Nat}{body:au}(inv:List DV->Prop)(h0:inv (entry.map (DE.af ae)))
   (hb:∀ds,inv ds->body.par E R Ps (ae.av base ds) (lN F id inv)):(au.loop id entry ks base body).par E R Ps ae F:=⟨inv,h0,hb⟩
theorem re{id:Nat}{bG:List DE}{G:List DV->Prop}(h:G (bG.map (DE.af ae))):(au.again id bG).par E R Ps ae (lN F id G):=by
 simpa[au.par,lN]using h
theorem fe{bG:List DE}(h:R (bG.map (DE.af ae))):(au.ret bG).par E R Ps ae F:=h
end
section
def zq(d:Nat->Bool)(p:Nat->Bool):Nat->List DE->Bool
 |_,[]=>true
 |i,x::xs=>(!d i||x.all p)&&zq d p (i+1) xs
def au.td(D:FuncId->Nat->Bool)(p:Nat->Bool):au->Bool
 |.ret bG=>bG.all (DE.all p)
 |.stuck _=>true
 |.ev (.aG c) t=>c.all p&&t.td D p
 |.ev (.call f g args res base) t=>g.all p&&(zq (D f) p 0 args&&t.td D p)
 |.ev (.bW id op) t=>op.all p&&t.td D p
 |.ev (.du _ _) t=>true
 |.ite c a b=>c.all p&&(a.td D p&&b.td D p)
 |.loop _ entry _ _ body=>entry.all (DE.all p)&&body.td D p
 |.again _ bG=>bG.all (DE.all p)
 |.fail e=>e.all p
 |.fz _ a b=>a.td D p&&b.td D p
 |.pop t=>t.td D p
def Io(d:Nat->Bool)(ds lz:List DV):Prop:=ds.length=lz.length/\∀i,d i=true->ds[i]?=lz[i]?
variable {ae aq:az}{p:Nat->Bool}
theorem DE.tS(h:∀k,p k=true->ae k=aq k){d:DE}(e:d.all p=true):d.af ae=d.af aq:=by
 cases d with
 |i e'=>simp only[DE.af,IE.ar h (show e'.all p=true from e)]
 |b e'=>simp only[DE.af,BE.ar h (show e'.all p=true from e)]
 |l k=>simp only[DE.af,h k (show p k=true from e)]
 |nil=>rfl
 | rows es=>
   simp only[DE.af];congr 1;exact rm fun x hm=>by rw[IE.ar h (jE.1 (show es.all (IE.all p)=true from e) x hm)]
 | uV xs=>
   simp only[DE.af];congr 2;refine rm fun x hm=>?_;have:=jE.1 (show xs.all (jd p)=true from e) x hm;cases x with
   |inl y=>exact IE.ar h this
   |inr y=>simp only[b9,BE.ar h (show y.all p=true from this)]
theorem EC(h:∀k,p k=true->ae k=aq k){ds:List DE}(e:ds.all (DE.all p)=true):ds.map (DE.af ae)=ds.map (DE.af aq):=
 rm fun x hm=>DE.tS h (jE.1 e x hm)
theorem Mm(h:∀k,p k=true->ae k=aq k){d:Nat->Bool}:∀ {xs:List DE} {i:Nat},zq d p i xs=true->Io (fun j=>d (i+j)) (xs.map (DE.af ae)) (xs.map (DE.af aq)):=by
 intro xs;induction xs with
 |nil=>intro i _;exact⟨rfl,fun _ _=>rfl⟩
 | cons x xs ih=>
   intro i e;simp only[zq,ao,fF,mg]at e;obtain⟨h1,h2⟩:=ih e.2;refine⟨by simp,fun j hj=>?_⟩;cases j with
   | zero=>
     simp only[gP]at hj;rcases e.1 with e1|e1;rw[e1]at hj;cases hj;simp[DE.tS h e1]
   | succ j=>
     have:=h2 j (by show d (i+1+j)=true;rw[show i+1+j=i+(j+1)by omega];exact hj);simpa using this
theorem vl(h:∀k,p k=true->ae k=aq k)(base:Nat)(ds:List DV):∀k,p k=true->ae.av base ds k=aq.av base ds k:=by
 intro k hk;by_cases h1:k<base;rw[az.bd h1,az.bd h1,h k hk];by_cases h2:base+ds.length<=k;rw[az.fg h2,az.fg h2,h k hk];have e:ds[k-base]?=some (ds[k-base]'(by omega)):=dG _;rw[show k=base+(k-base)by omega,az.c8 e,az.c8 e]
theorem C5(h:∀k,p k=true->ae k=aq k)(id:Nat)(d:DV):∀k,p k=true->ae.set id d k=aq.set id d k:=by
 intro k hk;simp only[az.set];split;rfl;exact h k hk
theorem Pn(h:∀k,p k=true->ae k=aq k){op:cU}(e:op.all p=true):op.af ae=op.af aq:=by
 have cell:∀x:Sum IE BE,jd p x=true->b9 ae x=b9 aq x:=fun x hx=>by
   cases x with
   |inl y=>exact IE.ar h hx
   |inr y=>simp only[b9,BE.ar h (show y.all p=true from hx)]
 have cells:∀xs:List (Sum IE BE),xs.all (jd p)=true->xs.map (b9 ae)=xs.map (b9 aq):=fun xs hx=>rm fun x hm=>cell x (jE.1 hx x hm);cases op with
 |lit rows=>exact rm fun r hr=>cells r (jE.1 (show rows.all (fun r=>r.all (jd p))=true from e) r hr)
 |app a b=>simp only[cU.all,ao]at e;simp only[cU.af,h a e.1,h b e.2]
 |set a i j x=>simp only[cU.all,ao]at e;simp only[cU.af,h a e.1,IE.ar h e.2.1,cell x e.2.2]
 |zM a i xs=>simp only[cU.all,ao]at e;simp only[cU.af,h a e.1,IE.ar h e.2.1,cells xs e.2.2]
 |BG a i j xs=>simp only[cU.all,ao]at e;simp only[cU.af,h a e.1,IE.ar h e.2.1,cells xs e.2.2]
 |take a n=>simp only[cU.all,ao]at e;simp only[cU.af,h a e.1,IE.ar h e.2]
 |rep n row=>simp only[cU.all]at e;simp only[cU.af,IE.ar h e]
 |cp a=>simp only[cU.all]at e;simp only[cU.af,h a e]
 |sub a i aN j=>simp only[cU.all,ao]at e;simp only[cU.af,h a e.1,IE.ar h e.2]
 |Nc a b=>simp only[cU.all,ao]at e;simp only[cU.af,h a e.1,h b e.2]
 | BL rows=>
   refine rm fun r hr=>?_;have cO:=jE.1 (show rows.all (fun r=>r.all (cc.all p))=true from e) r hr;have h1:r.map (cc.head ae)=r.map (cc.head aq):=rm fun c hc=>by
     have:=jE.1 cO c hc;cases c with
     |c x=>exact cell x this
     |s lv=>simp only[cc.head,h lv this]
     |nil=>rfl
   have h2:r.map (cc.tail ae)=r.map (cc.tail aq):=rm fun c hc=>by
     have:=jE.1 cO c hc;cases c with
     |c x=>rfl
     |s lv=>simp only[cc.tail,h lv this]
     |nil=>rfl
   rw[h1,List.flatMap_def,List.flatMap_def,h2]
theorem Po{C:bH}{N:Nat}{D:FuncId->Nat->Bool}(hC:∀f ds lz,Io (D f) ds lz->C f ds=C f lz) :
   ∀ {t:au} {Ps:List (Int->Option (List DV))} {ae aq:az} {F:rH},(∀k,p k=true->ae k=aq k)->t.td D p=true->t.run C N Ps ae F=t.run C N Ps aq F:=by
 intro t;induction t with
 |ret bG=>intro Ps ae aq F h e;simp only[au.run,EC h (show bG.all (DE.all p)=true from e)]
 |stuck s=>intro Ps ae aq F h e;rfl
 | ev ev t ih=>
   intro Ps ae aq F h e;cases ev with
   | aG c=>
     simp only[au.td,ao]at e;simp only[au.run,Ev.run,BE.ar h e.1,ih h e.2]
   | call f g args res base=>
     simp only[au.td,ao]at e;have ha:=Mm (d:=D f) h e.2.1;simp only[fC]at ha;simp only[au.run,Ev.run,BE.ar h e.1,hC f _ _ ha];split;split;exact ih (vl h _ _) e.2.2;rfl;exact ih (vl h _ _) e.2.2
   | bW id op=>
     simp only[au.td,ao]at e;simp only[au.run,Ev.run,Pn h e.1];exact ih (C5 h _ _) e.2
   |du c x=>rfl
 | ite c a b eW fA=>
   intro Ps ae aq F h e;simp only[au.td,ao]at e;simp only[au.run,BE.ar h e.1,eW h e.2.1,fA h e.2.2]
 | loop id entry ks base body ih=>
   intro Ps ae aq F h e;simp only[au.td,ao]at e;simp only[au.run,EC h e.1];congr 1;funext rec ds;exact ih (vl h _ _) e.2
 |again id bG=>intro Ps ae aq F h e;simp only[au.run,EC h (show bG.all (DE.all p)=true from e)]
 | fail x=>
   intro Ps ae aq F h e;simp only[au.run,IE.ar h (show x.all p=true from e)]
 | fz x tp t B9 ih=>
   intro Ps ae aq F h e;simp only[au.td,ao]at e;simp only[au.run];have:(fun n=>tp.run C N Ps (ae.set x (.i n)) F)=(fun n=>tp.run C N Ps (aq.set x (.i n)) F):=by
     funext n;exact B9 (C5 h _ _) e.1
   rw[this];exact ih h e.2
 | pop t ih=>
   intro Ps ae aq F h e;cases Ps with
   |nil=>rfl
   |cons q qs=>exact ih h e
theorem Io.eq{d:Nat->Bool}{ds lz:List DV}(h:Io d ds lz)(hd:∀i,d i=true):ds=lz:=List.ext_getElem? fun i=>h.2 i (hd i)
theorem Pp{d:Nat->Bool}{ds lz:List DV}(h:Io d ds lz):∀k,(d k||Nat.ble ds.length k)=true->aR.av 0 ds k=aR.av 0 lz k:=by
 intro k hk;by_cases h1:k<ds.length;have hd:d k=true:=by
   rw[fF]at hk;rcases hk with hk|hk;exact hk;have:=Nat.le_of_ble_eq_true hk;omega
 have h2:=h.2 k hd;have e:ds[k]?=some ds[k]:=dG h1;have e':lz[k]?=some ds[k]:=by rw[<- h2,e]
 have a:=az.c8 (ae:=aR) (k:=0) e;have b:=az.c8 (ae:=aR) (k:=0) e';rw[fC]at a b;rw[a,b];rw[az.fg (by omega),az.fg (by rw[<- h.1];omega)]
def Pq(T:Nat->Option iG)(D:Nat->Nat->Bool)(n k:Nat):Bool:=match T k with
 |some e=>e.tree.td (fun g=>D (e.key g)) (fun j=>D k j||Nat.ble n j)
 |none=>false
theorem UN{T:Nat->Option iG}{X:bH}{D:Nat->Nat->Bool}{L:List (Nat×Nat)}(hL:∀x∈L,Pq T D x.1 x.2=true)(hn:∀x∈L,∀i,x.1<=i->D x.2 i=true)(hD:∀k,(∀i,D k i=true)\/∃n,(n,k)∈L) :
   ∀(n k:Nat) (ds lz:List DV),Io (D k) ds lz->ev T X n k ds=ev T X n k lz:=by
 intro n;induction n with
 |zero=>intro k ds lz _;rfl
 | succ n ih=>
   intro k ds lz h;rcases hD k with hd|⟨m,hm⟩;rw[h.eq hd];have hu:=hL _ hm;simp only[Pq]at hu;split at hu;rename_i e hk;simp only[ev,hk];refine Po (D:=fun g=>D (e.key g)) (p:=fun j=>D k j||Nat.ble m j) (C:=fun g=>ev T X n (e.key g)) (fun f ds lz hs=>ih (e.key f) ds lz hs) (fun j hj=>?_) hu;refine Pp h j ?_;rw[fF]at hj;rcases hj with hj|hj;rw[hj];rfl;rw[hn _ hm j (Nat.le_of_ble_eq_true hj)];rfl;cases hu
theorem Ip{T:Nat->Option iG}{X:bH}{D:Nat->Nat->Bool}{L:List (Nat×Nat)}(hL:∀x∈L,Pq T D x.1 x.2=true)(hn:∀x∈L,∀i,x.1<=i->D x.2 i=true)(hD:∀k,(∀i,D k i=true)\/∃n,(n,k)∈L){k:Nat}{ds lz rs:List DV}(h:Io (D k) ds lz)(hg:cK T X k ds rs):cK T X k lz rs:=by
 obtain⟨n,o7⟩:=hg;exact⟨n,by rw[<- UN hL hn hD n k ds lz h];exact o7⟩
end
end Go.Sx

/- The symbolic executor: its soundness, and what a table of functions gives. -/
import Derived.Test.YtohebioanhliiaaGreatDoorKA3
set_option linter.unusedVariables false
set_option linter.unusedSimpArgs false
namespace Go.Sx
open Go.RowKit
variable {U ak:az}{ph aH:Ph}{P:Program}
theorem BZ{w:World}{g:Nat}{v:Value}{T:TypeId}{z:Nat×Nat}(h:w.heap[g]?=some (.cells #[v] T z)):w.setCell ⟨g,0,none⟩ v=w:=by
 obtain⟨heap,tape,drawn,os,output⟩:=w;simp only[World.setCell];congr 1;apply Array.ext_getElem?;intro k;rw[Array.getElem?_modify];split
 . rename_i e;simp only at h e ⊢;subst e;rw[h];simp
 . rfl
theorem wL(w:World)(g j:Nat)(v:Value):w.grownBy (w.setCell ⟨g,j,none⟩ v) (some g):=
 ⟨rfl,rfl,rfl,by simp[World.setCell],fun k _ hk=>Below.heap_setCell _ _ _ _ (fun e=>hk (by rw[e]))⟩
theorem jZ{h st:St}(hp:mj (some h) st=true){b:gC}(hb:b∈h.aT):b∈st.aT:=by
 simp only[mj,ao,List.all_eq_true,aC]at hp;exact(dM (hp.1.1 b hb)).1
theorem Jf{h st:St}(hp:mj (some h) st=true){r:Row}(hr:r∈h.rows):r∈st.rows:=by
 simp only[mj,ao,List.all_eq_true,aC]at hp;exact(aU (hp.1.2 r hr)).1
theorem mw{h st:St}(hp:mj (some h) st=true){r:dG}(hr:r∈h.aY):r∈st.aY:=by
 simp only[mj,ao,List.all_eq_true,aC]at hp;simpa using hp.2 r hr
theorem DL{aJ:jo}{w0 w2:World}{st sY:St}{c:Int}{o:Obj}(hd:st.nz=[])(Zl:∀b∈st.aT,b.all st.has=true)(pz:∀r∈st.rows,r.all st.has=true)(hnn:∀r∈st.aY,r.all st.has=true)(hM:qG w0 ak aH sY w2)(hp:mj (some (fi aJ st)) sY=true)
   (Qp:aJ.Dk.contains st.next=false) (bF:∀k,k<st.next+1->U k=ak k) :
   qG w0 (U.set (st.next+1) (.i c)) aH (kz (fi aJ st) st.next (.v (st.next+1))) ((w2.alloc o).setCell ⟨aH.r st.next,0,none⟩ (.int .i64 c)):=by
 have hh:=dh hd;rw[hh]at Zl pz hnn;have Va:(⟨st.next,aJ.nE,[.i .i64 (.c 0)]⟩:gC)∈(fi aJ st).aT:=by
   simp only[fi,nZ,QR,List.mem_filter,fA,true_or,true_and,Qp,Bool.not_false]
 have G9:=hM.mem.lQ _ (jZ hp Va);have bd:∀b∈(fi aJ st).aT,b=⟨st.next,aJ.nE,[.i .i64 (.c 0)]⟩\/(b∈st.aT/\b.id<st.next):=fun b hb=>by
   simp only[fi,nZ,QR,List.mem_filter,fA]at hb;rcases hb.1 with h|h
   . exact .inl h
   . refine .inr ⟨h,?_⟩;have:=Zl b h;simp only[gC.all,ao,a8,aC]at this;exact this.1
 have fU:(fi aJ st).rows=st.rows:=rfl;have iI:∀k,a8 st.next k=true->ak k=U.set (st.next+1) (.i c) k:=fun k hk=>by
   simp only[a8,aC]at hk;rw[<- bF k (by omega),az.set,if_neg (by omega)]
 have hA:bj (a8 st.next) ak (U.set (st.next+1) (.i c)) aH aH:=⟨iI,fun _ _=>rfl,fun _ _=>rfl⟩
 have KX:w2.grownBy (w2.alloc o) (some (aH.r st.next)):=hU (World.grownBy_alloc w2 _ none)
 have hg:w2.grownBy ((w2.alloc o).setCell ⟨aH.r st.next,0,none⟩ (.int .i64 c)) (some (aH.r st.next)):=ny KX (wL _ _ _ _)
 have Yt:∀r∈st.rows,r.bQ (U.set (st.next+1) (.i c)) aH=r.bQ ak aH/\r.g.ae (U.set (st.next+1) (.i c))=r.g.ae ak/\r∈sY.rows:=fun r hr=>by
   have:=pz r hr;simp only[Row.all,ao]at this;refine⟨by unfold Row.bQ;rw[<- iI _ this.2.1],(BE.aq iI this.2.2).symm,Jf hp (by rw[fU];exact hr)⟩
 have xY:∀b'∈(kz (fi aJ st) st.next (.v (st.next+1))).aT,∃b∈(fi aJ st).aT,b'.id=b.id/\b∈sY.aT/\((b.id=st.next/\b' = {b with cells:=[.i .i64 (.v (st.next+1))] }/\b=⟨st.next,aJ.nE,[.i .i64 (.c 0)]⟩)\/(b.id≠st.next/\b'=b/\b∈st.aT)):=fun b' la=>by
   simp only[kz,List.mem_map]at la;obtain⟨b,hb,rfl⟩:=la;refine⟨b,hb,by split<;>rfl,jZ hp hb,?_⟩
   rcases bd b hb with h|⟨h1,h2⟩
   . exact .inl ⟨by rw[h],by rw[if_pos (by rw[h])],h⟩
   . exact .inr ⟨by omega,by rw[if_neg (by omega)],h1⟩
 refine⟨⟨fun b' la=>?_,fun b' la b1' adL cx=>?_,fun r hr h1=>?_,fun b' la r hr h1=>?_,fun r hr r' cF cx ho h1 h2 k hk cO=>?_⟩,?_,fun b' la=>?_,fun r hr=>?_,?_⟩
 . obtain⟨b,hb,kx,sR,⟨h1,h2,h3⟩|⟨h1,h2,h3⟩⟩:=xY b' la
   . subst h3;subst h2;refine⟨G9.1,?_⟩;have hx:(w2.alloc o).heap[aH.r st.next]?=some (.cells #[.int .i64 0] aJ.nE (0,0)):=by
       rw[Below.heap_alloc _ _ _ G9.lt];simpa[ah.ae,IE.ae]using G9.2
     simp only[World.setCell,Array.getElem?_modify,if_true,hx];simp[ah.ae,IE.ae,az.set,DV.int]
   . subst h2;have Qq:=hM.mem.lQ _ sR;have cx:aH.r b'.id≠aH.r st.next:=hM.mem.bb _ sR _ (jZ hp Va) h1
     have h4:=Qq.grown hg (fun e=>cx (by simpa using e))
     have b8:=Zl _ h3;simp only[gC.all,ao]at b8;refine⟨h4.1,?_⟩;rw[h4.2,jh hA b8.2]
 . obtain⟨b,hb,kx,sR,_⟩:=xY b' la;obtain⟨b1,uR,adM,adN,_⟩:=xY b1' adL;rw[kx,adM]at cx ⊢;exact hM.mem.bb b sR b1 adN cx
 . have hr:r∈st.rows:=hr;obtain⟨e1,e2,e3⟩:=Yt r hr;have h4:=(hM.mem.row r e3 (by rw[<- e2];exact h1)).grown hg (fun k hk e=>hM.mem.br _ (jZ hp Va) r e3 (by rw[<- e2];exact h1) (by rw[hk];exact e))
   have b8:=pz r hr;simp only[Row.all,ao]at b8;unfold fE at *;rw[<- iI _ b8.2.1];exact h4
 . obtain⟨b,hb,kx,sR,_⟩:=xY b' la;have hr:r∈st.rows:=hr;obtain⟨e1,e2,e3⟩:=Yt r hr;rw[kx,e1];exact hM.mem.br b sR r e3 (by rw[<- e2];exact h1)
 . have hr:r∈st.rows:=hr;have cF:r'∈st.rows:=cF;obtain⟨e1,e2,e3⟩:=Yt r hr;obtain⟨f1,f2,f3⟩:=Yt r' cF;exact hM.mem.rr r e3 r' f3 cx ho (by rw[<- e2];exact h1) (by rw[<- f2];exact h2) k (by rw[<- e1];exact hk) (by rw[<- f1];exact cO)
 . refine(hM.below.alloc hM.below.size o).setCell (p:=⟨aH.r st.next,0,none⟩) G9.1 _
 . have hn:(kz (fi aJ st) st.next (.v (st.next+1))).has=a8 (st.next+fZ):=dh rfl
   rw[hn];obtain⟨b,hb,kx,sR,⟨h1,h2,h3⟩|⟨h1,h2,h3⟩⟩:=xY b' la
   . subst h3;subst h2;simp[gC.all,a8,fZ,bh,ah.all,IE.all]
   . subst h2;exact gC.aB (cL (Nat.le_add_right _ _)) (Zl _ h3)
 . have hn:(kz (fi aJ st) st.next (.v (st.next+1))).has=a8 (st.next+fZ):=dh rfl
   rw[hn];exact Row.aB (cL (Nat.le_add_right _ _)) (pz _ hr)
 . have hn:=hM.nest;refine⟨fun k hk=>Nat.lt_of_lt_of_le (hn.lt k hk) hg.size,fun b' la=>?_,fun r hr ho h1 k hk=>?_,fun n fJ h1=>?_,fun n fJ=>?_,fun n fJ ho=>?_⟩
   . obtain⟨b,hb,kx,sR,_⟩:=xY b' la;rw[kx];exact hn.bz b sR
   . have hr:r∈st.rows:=hr;obtain⟨e1,e2,e3⟩:=Yt r hr;exact hn.rz r e3 ho (by rw[<- e2];exact h1) k (by rw[<- e1];exact hk)
   . have fJ:n∈st.aY:=fJ;have b8:=hnn n fJ;simp only[dG.all,ao]at b8;obtain⟨h2,h3⟩:=hn.rd n (mw hp fJ) (by rw[BE.aq iI b8.2.2];exact h1)
     refine⟨h2,?_⟩;have hgz:∀k,aH.z k->some k≠some (aH.r st.next):=fun k hk e=>by
       simp only[af]at e;subst e;exact hn.bz _ (jZ hp Va) hk
     unfold eU at *;rw[<- iI _ b8.2.1];split
     . rename_i ho;rw[if_pos ho]at h3;exact h3.lk (fun k hk=>hg.block k (hn.lt k hk.1) (hgz k hk.1)) (fun _ h=>h) (fun k hk=>hg.block k (hn.nu (mw hp fJ) ho hk).2 (fun e=>by
         simp only[af]at e;exact((hn.oz n (mw hp fJ) ho).2 k hk).2.1 _ (jZ hp Va) e.symm))
     . rename_i ho;rw[if_neg ho]at h3;exact h3.lk (fun k hk=>hg.block k (hn.lt k hk) (hgz k hk)) (fun _ h=>h)
   . have Kj:(kz (fi aJ st) st.next (.v (st.next+1))).has=a8 (st.next+fZ):=dh rfl
     rw[Kj];exact dG.aB (cL (Nat.le_add_right _ _)) (hnn _ fJ)
   . have fJ:n∈st.aY:=fJ;obtain⟨f1,f2⟩:=hn.oz n (mw hp fJ) ho;refine⟨f1,fun k hk=>?_⟩
     obtain⟨g1,g2,g3,g4⟩:=f2 k hk;refine⟨g1,fun b' la e=>?_,fun r hr h1 hf=>?_,fun n' nC ow cx=>g4 n' (mw hp nC) ow cx⟩
     . obtain⟨b,hb,kx,sR,_⟩:=xY b' la;rw[kx]at e;exact g2 b sR e
     . have hr:r∈st.rows:=hr;obtain⟨e1,e2,e3⟩:=Yt r hr;exact g3 r e3 (by rw[<- e2];exact h1) (by rw[<- e1];exact hf)
end Go.Sx
namespace Go.Sx
open Go.RowKit
variable {U ak:az}{ph aH:Ph}{P:Program}
def Vb(P:Program)(aJ:jo)(Γ:bO)(R:List DV->Prop)(w0:World)(L:List Nat)(ex:Ex):Prop:=
 ∀(h:Option St) (g:FuncId) (vs:List V1) (st:St) (kr:List V1->St->aw) (U:az) (ph:Ph) (w:World) (F:Nat->List DV->Prop) (Ps:List (Int->Prop)) (Jg:Ending->World->Prop),
   qG w0 U ph st w->st.nz=[]->(∀p∈aJ.no,p.1<st.next/\(U p.1).int≠p.2)->dm st.has vs=true->(ex h g vs st kr).holds Γ R Ps U F->
   (∀ak aH aZ w' rv F',bj st.has U ak ph aH->(∀j∈L,F' j=F j)->qG w0 ak aH aZ w'->aZ.nz=[]->st.next<=aZ.next->dm aZ.has rv=true->(kr rv aZ).holds Γ R Ps ak F'->Jg (.returned (packed (rv.map (V1.ae ak aH)))) w')->
   (∀ak aH aZ w' e,bj st.has U ak ph aH->qG w0 ak aH aZ w'->mj h aZ=true->jd Ps e->Jg (.panicked [eW aJ.cK e]) w')->
   (∀w args,(callFunc g args).run P w = .ok (.enter g args) w)/\Calls P g (vs.map (V1.ae U ph)).toArray w Jg
end Go.Sx
namespace Go.Sx
open Go.RowKit
variable {U ak:az}{ph aH:Ph}{P:Program}
theorem wW{st:St}{dst:Option Tmp}{s:aP}:(st.put dst s).nz=st.nz:=by cases dst<;>rfl
theorem tV{st:St}{dst:Option Tmp}{s:aP}:(st.put dst s).next=st.next:=by cases dst<;>rfl
theorem Fx{st aZ:St}(h1:st.nz=[])(h2:aZ.nz=[])(h:st.next<=aZ.next):∀k,st.has k=true->aZ.has k=true:=by
 rw[dh h1,dh h2];exact cL h
theorem aP.LF{p:BE}{v:Bool}(hp:p.ae U=v)(s:aP):(s.know p v).ae U ph=s.ae U ph:=by
 unfold aP.know;split
 . rename_i x hx;split
   . rename_i he;subst he;simp only[aP.ae,hx,SV.ae,V1.ae,ah.ae,BE.ae,hp]
   . split
     . rename_i he;subst he;simp only[aP.ae,hx,SV.ae,V1.ae,ah.ae,BE.cf,BE.ae,hp]
     . rfl
 . rfl
theorem aP.LG{p:BE}{v:Bool}{q:Nat->Bool}{s:aP}(h:s.all q=true):(s.know p v).all q=true:=by
 have hg:s.g.all q=true:=by
   simp only[aP.all,ao]at h;exact h.1
 unfold aP.know;split
 . split
   . simp[aP.all,SV.all,V1.all,ah.all,BE.all,hg]
   . split
     . simp[aP.all,SV.all,V1.all,ah.all,BE.all,hg]
     . exact h
 . exact h
theorem Sat.know{w0 w:World}{st:St}{a:Act}{p:BE}{v:Bool}(hs:Sat w0 U ph st a w)(hp:p.ae U=v):Sat w0 U ph (st.know p v) a w:=by
 have ID:∀(t:Nat) (s:aP),(st.know p v).tmps[t]?=some (some s)->∃s0,st.tmps[t]?=some (some s0)/\s=s0.know p v:=fun t s ht=>by
   simp only[St.know,List.getElem?_map,bB]at ht;obtain⟨x,hx,ht⟩:=ht;obtain⟨s0,rfl,rfl⟩:=ht;exact⟨s0,hx,rfl⟩
 refine⟨⟨by rw[<- hs.tmps.1];simp[St.know],fun t s ht=>?_⟩,hs.mem,hs.below,hs.defers,⟨fun t s ht=>?_,hs.names.aT,hs.names.rows⟩,hs.nest.same (fun _ h=>h) rfl rfl rfl⟩
 . obtain⟨s0,h0,rfl⟩:=ID t s ht;rw[aP.LF hp];exact hs.tmps.2 t s0 h0
 . obtain⟨s0,h0,rfl⟩:=ID t s ht;exact aP.LG (hs.names.tmps t s0 h0)
section
variable {aJ:jo}{Γ:bO}{R:List DV->Prop}{w0:World}{L:List Nat}{ex:Ex}{h:Option St}{ops:Array Oper}{Q:Exit->Act->World->Prop}{B0:St->aw}{base:Nat}{e0:az}{p0:Ph}{F0:Nat->List DV->Prop}{Ps:List (Int->Prop)}
theorem sA(hB:iS P aJ)(gP:dQ P Γ aJ w0)(hex:Vb P aJ Γ R w0 L ex)(nX:∀p∈aJ.no,p.1<base/\(e0 p.1).int≠p.2)
   (hK:∀ak aH aZ a' w' F',bj (a8 base) e0 ak p0 aH->(∀j∈L,F' j=F0 j)->Sat w0 ak aH aZ a' w'->aZ.nz=[]->base<=aZ.next->(B0 aZ).holds Γ R Ps ak F'->Q .normal a' w')
   (hP:∀ak aH aZ (a':Act) w' e,bj (a8 base) e0 ak p0 aH->a'.defers=[]->qG w0 ak aH aZ w'->mj h aZ=true->jd Ps e->Q (.panic [eW aJ.cK e]) a' w') :
   ∀ {l:List Oper} {st:St} {U:az} {ph:Ph} {a:Act} {w:World} {F:Nat->List DV->Prop},Sat w0 U ph st a w->st.nz=[]->base<=st.next->bj (a8 base) e0 U p0 ph->(∀j∈L,F j=F0 j)->(jt P aJ h ops ex l st B0).holds Γ R Ps U F->wpList P ops Q l a w:=by
 intro l;induction l with
 | nil=>
   intro st U ph a w F hs hd hb bF hF hh;exact hK U ph st a w F bF hF hs hd hb hh
 | cons o l ih=>
   intro st U ph a w F hs hd hb bF hF hh;simp only[jt]at hh;have od:=dh hd;have BJ:∀p∈aJ.no,p.1<st.next/\(U p.1).int≠p.2:=fun p hp=>by
     obtain⟨h1,h2⟩:=nX p hp;exact⟨by omega,by rw[<- bF.e p.1 (by simp only[a8,aC];exact h1)];exact h2⟩
   have ZN:∀ {ak aH},bj st.has U ak ph aH->bj (a8 base) e0 ak p0 aH:=fun h=>kC bF (gQ (by rw[<- od];exact h) hb)
   split at hh
   . exact hh.elim
   . rename_i G hg;have ZO:=ik hg hs.tmps;show Kr P ops Q o (wpList P ops Q l) a w;split at hh
     . split at hh
       . rename_i r lu;split at hh
         . rename_i cY aZ mJ;have he:=lF hh;obtain⟨rfl,rfl,hm⟩:=jw mJ;exact lC (Γ:=Γ.at (jd Ps)) (cY:=r.1) (aZ:=r.2) hs lu he gP fun BO AB a1 w1 dB vN=>ih (dB.sat.close (aZ:={r.2 with next:=qw st.next r.2,nz:=[] }) rfl rfl rfl rfl hm) rfl (Nat.le_trans hb (oa _ _).1) (ZN dB.agree) hF vN
         . exact hh.elim
       . exact hh.elim
     . rename_i sp Qn;have no:(jt P aJ h ops ex l (st.put o.dst jk) B0).holds Γ R Ps U F->wpList P ops Q l (a.put o.dst undef) w:=fun hn=>
         ih (hs.put mc mb.symm) (by rw[wW];exact hd) (by rw[tV];exact hb) bF hF hn
       have yes:G.ae U=true->(GV aJ h ex st o.dst (fun aZ=>jt P aJ h ops ex l aZ B0) sp).holds Γ R Ps U F->o.wp P a w (wpList P ops Q l) Q:=by
         intro hG hy;have sx:=vV (P:=P) hB hG hs.tmps Qn;cases sp with
         | inl g vs=>
           obtain⟨hv,cy⟩:=sx;obtain⟨ki,mT⟩:=hex h g vs st _ U ph w F Ps (fun e w'=>match e with
             |.returned v=>wpList P ops Q l (a.put o.dst v) w'
             |.panicked c=>Q (.panic c) a w'
             | .outgrown=>LetsOut Q) hs.UX hd BJ hv hy (fun ak aH aZ w' rv F' g1 g2 g3 g4 g5 g6 g7=>by
               refine ih (g3.back hs g1 (Fx hd g4 g5) ?_ rJ.symm) g4 (Nat.le_trans hb g5) (ZN g1) (fun j hj=>(g2 j hj).trans (hF j hj)) g7
               have:=n7 (G:=.c true) (q:=aZ.has) rfl g6;simpa[aP.all,BE.all]using this) (fun ak aH aZ w' e g1 g2 g3 g4=>hP ak aH aZ a w' e (ZN g1) hs.defers g2 g3 g4)
           unfold Oper.wp;rw[cy ki w,Oper.upon_enter];refine Calls.mono mT fun e w' he=>?_
           cases e<;>exact he
         | val x=>
           obtain⟨hx,cy⟩:=sx;unfold Oper.wp;rw[cy w,Oper.upon_value];exact ih (hs.put (s:=⟨.c true,.v x⟩) (v:=x.ae U ph) (by simp only[aP.all,BE.all,Bool.true_and];exact hx) (by simp[aP.ae,BE.ae,SV.ae])) (by rw[wW];exact hd) (by rw[tV];exact hb) bF hF hy
         | aG ok e=>
           obtain⟨f,hf,he,gD,cy⟩:=sx;obtain⟨ki,hc⟩:=hB.aG f hf;unfold Oper.wp;rw[cy ki w,Oper.upon_enter];refine Calls.mono (hc (ok.ae U) (e.ae U) w) ?_;rintro en w' ⟨rfl,⟨gD,rfl⟩|⟨gD,rfl⟩⟩
           . exact ih (hs.put (s:=⟨.c true,.ED []⟩) (v:=.tuple #[]) rfl (by simp[aP.ae,BE.ae,SV.ae])) (by rw[wW];exact hd) (by rw[tV];exact hb) bF hF (hy.1 gD)
           . have h2:=hy.2 gD;unfold Tl at h2;split at h2
             . rename_i lr;simp only[ao]at lr;exact hP U ph st a _ _ bF hs.defers hs.UX lr.1 h2
             . exact h2.elim
         | IP g vs=>
           simp only[GV]at hy;split at hy
           . exact hy.elim
           . rename_i Qp;have Qp:aJ.Dk.contains st.next=false:=by simpa using Qp
             obtain⟨f,hf,hv,cy⟩:=sx;obtain⟨ki,hc⟩:=hB.uX f hf;obtain⟨_,dB⟩:=Al (dst:=none) (key:=st.next) (e:=aJ.nE) (ls:=[.i .i64 (.c 0)]) (cY:=[]) hs (by unfold nS;rw[if_pos (by simp[St.free,hd,bh,ah.all,IE.all])])
             have Yu:(w.alloc (.cells (([ah.i .i64 (.c 0)]).map (ah.ae U ph)).toArray aJ.nE))=w.alloc (.cells #[.int .i64 0] aJ.nE):=by simp[ah.ae,IE.ae]
             rw[Yu]at dB;have hT:qG w0 U (ph.nA st.next w.heap.size) (nZ aJ st) (w.alloc (.cells #[.int .i64 0] aJ.nE)):=(dB.sat.close (aZ:=nZ aJ st) rfl rfl rfl rfl (by
               intro k hk;have hn:(nZ aJ st).has=a8 (st.next+fZ):=dh rfl
               rw[hn];have hk:(st.bn st.next 1).has k=true:=hk
               rw[uO,od]at hk;simp only[a8,fy,ao,aC]at hk;have Yw:fZ=512:=rfl;simp only[a8,aC];omega)).UX
             have Yx:(nZ aJ st).has=a8 (st.next+fZ):=dh rfl
             have ZP:bj st.has U U ph (ph.nA st.next w.heap.size):=dB.agree
             have Ha:∀ {ak aH},bj (nZ aJ st).has U ak (ph.nA st.next w.heap.size) aH->bj st.has U ak ph aH:=fun g=>kC ZP ⟨fun k hk=>g.e k (by rw[Yx];rw[od]at hk;exact cL (Nat.le_add_right _ _) k hk),fun k hk=>g.r k (by rw[Yx];rw[od]at hk;exact cL (Nat.le_add_right _ _) k hk),fun k hk=>g.v k (by rw[Yx];rw[od]at hk;exact cL (Nat.le_add_right _ _) k hk)⟩
             have gn:∀ {ak aH},bj (nZ aJ st).has U ak (ph.nA st.next w.heap.size) aH->aH.r st.next=w.heap.size:=fun g=>by
               rw[<- g.r st.next (by rw[Yx];simp[a8,fZ])]
               simp[Ph.nA]
             have Va:(⟨st.next,aJ.nE,[.i .i64 (.c 0)]⟩:gC)∈(fi aJ st).aT:=by
               simp only[fi,nZ,QR,List.mem_filter,fA,true_or,true_and,Qp,Bool.not_false]
             obtain⟨adO,mT⟩:=hex (some (fi aJ st)) g vs (nZ aJ st) _ U (ph.nA st.next w.heap.size) (w.alloc (.cells #[.int .i64 0] aJ.nE)) F _ (fun e w2=>w2.heap[w.heap.size]?=some (.cells #[.int .i64 0] aJ.nE (0,0))/\((e = .returned (.tuple #[])/\(w2.heap[w.heap.size]?=some (.cells #[.int .i64 0] aJ.nE (0,0))/\wpList P ops Q l (a.put o.dst (.int .i64 0)) w2))\/∃c,e = .panicked [eW aJ.cK c]/\∀ob,wpList P ops Q l (a.put o.dst (.int .i64 c)) ((w2.alloc ob).setCell ⟨w.heap.size,0,none⟩ (.int .i64 c)))) hT rfl (fun p hp=>⟨Nat.lt_of_lt_of_le (BJ p hp).1 (Nat.le_add_right _ _),(BJ p hp).2⟩) (by rw[Yx];rw[od]at hv;exact(vD (cL (Nat.le_add_right _ _)) hv)) hy
               (fun ak aH aZ w2 rv F' g1 g2 g3 g4 g5 g6 g7=>by
                 split at g7
                 . rename_i lr;simp only[ao,aC]at lr;obtain⟨rfl,Bx⟩:=lr;have jI:=(g3.mem.lQ _ (dM Bx).1).2;simp only[gn g1,List.map_cons,List.map_nil,ah.ae,IE.ae]at jI;refine⟨jI,.inl ⟨rfl,jI,?_⟩⟩;simp only[aw.holds]at g7;exact ih (g3.back hs (Ha g1) (Fx hd g4 (Nat.le_trans (Nat.le_add_right _ _) g5)) rfl rfl) g4 (Nat.le_trans hb (Nat.le_trans (Nat.le_add_right _ _) g5)) (ZN (Ha g1)) (fun j hj=>(g2 j hj).trans (hF j hj)) g7
                 . exact g7.elim)
               (fun ak aH aZ w2 e g1 g2 g3 g4=>by
                 have jI:=(g2.mem.lQ _ (jZ g3 Va)).2;simp only[gn g1,List.map_cons,List.map_nil,ah.ae,IE.ae]at jI;refine⟨jI,.inr ⟨e,rfl,fun ob=>?_⟩⟩
                 have hC:=DL (c:=e) (o:=ob) (U:=U) hd hs.names.aT hs.names.rows hs.nest.nm g2 g3 Qp (fun k hk=>g1.e k (by
                   have Yw:fZ=512:=rfl;rw[Yx];simp only[a8,aC];omega))
                 rw[gn g1]at hC;have lD:bj st.has U (U.set (st.next+1) (.i e)) ph aH:=by
                   refine⟨fun k hk=>?_,(Ha g1).r,(Ha g1).v⟩
                   rw[od]at hk;simp only[a8,aC]at hk;rw[az.set,if_neg (by omega)]
                 refine ih (hC.back hs lD (Fx hd rfl (Nat.le_add_right _ _)) (by
                   have hn:(kz (fi aJ st) st.next (.v (st.next+1))).has=a8 (st.next+fZ):=dh rfl
                   rw[hn];simp[SV.all,V1.all,ah.all,IE.all,a8,fZ]) (by simp[SV.ae,V1.ae,ah.ae,IE.ae,az.set,DV.int])) rfl (Nat.le_trans hb (Nat.le_add_right _ _)) (ZN lD) hF g4)
             rw[<- Ab ZP hv]at mT;unfold Oper.wp;rw[cy ki w,Oper.upon_enter];refine Calls.mono (hc g _ w _ _ (fun w=>adO w _) mT) ?_
             rintro en w' ⟨w2,⟨rfl,⟨Tv,hw⟩,rfl⟩|⟨c,rfl,hw,rfl⟩⟩
             . simp only;rw[BZ Tv];exact hw
             . exact hw _
       unfold Kr;rw[ZO];split at hh
       . simp only[BE.ae,if_true];exact .inl (yes rfl hh)
       . simp only[BE.ae,Bool.false_eq_true,if_false];exact no hh
       . rename_i G' _ _;cases hG:G.ae U
         . simp only[Bool.false_eq_true,if_false];exact ih (((hs.know hG)).put mc mb.symm) (by rw[wW];exact hd) (by rw[tV];exact hb) bF hF (hh.2 hG)
         . simp only[if_true];exact .inl (yes hG (hh.1 hG))
end
end Go.Sx
namespace Go.Sx
open Go.RowKit
variable {U ak:az}{ph aH:Ph}{P:Program}
theorem Q'{w0 wR w:World}{cc st:St}{eS:az}{pS:Ph}{W:List Nat}{aS a:Act}(Ap:Sat w0 eS pS cc aS wR)(hs:Sat w0 U ph st a w)(bF:bj cc.has eS U pS ph)(hk:E5 cc W st=true):Kept cc eS pS W wR w:=by
 simp only[E5,ao,List.all_eq_true,fy,aC]at hk;refine⟨fun b hb hw=>?_,fun r hr hw=>?_⟩
 . have Ac:=(dM ((hk.1 b hb).resolve_left (by rw[hw];simp))).1
   have h1:=(Ap.mem.lQ b hb).2;have h2:=(hs.mem.lQ b Ac).2;have hn:=Ap.names.aT b hb;simp only[gC.all,ao]at hn;rw[<- bF.r _ hn.1,<- jh bF hn.2]at h2;rw[h1,h2]
 . exact absurd (hk.2 r hr) (by rw[hw];simp)
section
variable {aJ:jo}{Γ:bO}{R:List DV->Prop}{w0:World}{L:List Nat}{ex:Ex}{h:Option St}{ops:Array Oper}{Q:Exit->Act->World->Prop}{B0:St->aw}{F0:Nat->List DV->Prop}{Ps:List (Int->Prop)}
theorem Fy{m n:Nat}(h:m<n):(nG m n).toArray.setIfInBounds m true=(nG (m+1) n).toArray:=by
 apply Array.ext';rw[Array.toList_setIfInBounds];simp only[nG];apply List.ext_getElem?;intro j;rw[List.getElem?_set];simp only[List.getElem?_append,eH,List.length_replicate,List.getElem?_replicate];grind
theorem zT(hB:iS P aJ)(gP:dQ P Γ aJ w0)(hex:Vb P aJ Γ R w0 L ex){cc:St}{eS:az}(nX:∀p∈aJ.no,p.1<cc.next/\(eS p.1).int≠p.2){pS:Ph}{W:List Nat}{wR:World}{aS:Act}(Ap:Sat w0 eS pS cc aS wR)(zh:cc.nz=[])(Fj:Region.noSelect ops=true)(Fo:nF ops=true)(hQ:∀c a d v w,Q (.panic c) (a.put d v) w->Q (.panic c) a w)
   (hK:∀ak aH aZ a' w' F',bj (a8 cc.next) eS ak pS aH->(∀j∈L,F' j=F0 j)->Sat w0 ak aH aZ a' w'->aZ.nz=[]->cc.next<=aZ.next->(B0 aZ).holds Γ R Ps ak F'->Q .normal a' w')
   (hP:∀ak aH aZ (a':Act) w' e,bj (a8 cc.next) eS ak pS aH->a'.defers=[]->qG w0 ak aH aZ w'->mj h aZ=true->jd Ps e->Q (.panic [eW aJ.cK e]) a' w') :
   ∀ {ps:List Nat} {lo:Nat} {st:St} {U:az} {ph:Ph} {a:Act} {w:World} {F:Nat->List DV->Prop},Sat w0 U ph st a w->st.nz=[]->cc.next<=st.next->bj (a8 cc.next) eS U pS ph->(∀j∈L,F j=F0 j)->Kept cc eS pS W wR w->
     (tP P aJ h ops ex cc W ps lo st B0).holds Γ R Ps U F->gA P .any ops Q (ix cc eS pS ⟨[],some W⟩ wR) (ops.size-lo) (nG lo ops.size).toArray a w:=by
 have AI:=dh zh;have Jh:kQ {aJ with dB:=h} (Γ.at (jd Ps)) w0 cc.has eS pS Q:=fun ak aH aZ a' w' e g1 g2 g3 g4 g5=>hP ak aH aZ a' w' e (by rw[<- AI];exact g1) g2 g3 g4 g5
 have Qo:iS P {aJ with dB:=h}:=⟨hB.aG,hB.wG,hB.uX⟩;have ZQ:dQ P (Γ.at (jd Ps)) {aJ with dB:=h} w0:=gP;intro ps;induction ps with
 | nil=>
   intro lo st U ph a w F hs hd hb bF hF hk hh;have od:=dh hd;have tw:∀k,cc.has k=true->st.has k=true:=by rw[AI,od];exact cL hb
   simp only[tP]at hh;split at hh
   . rename_i cY aZ hr;simp only[wQ]at hr;split at hr
     . rename_i tD;simp only[ao,aC]at tD;obtain⟨Vd,tD⟩:=tD;split at hr
       . rename_i r T Ve;obtain⟨rfl,rfl,bI⟩:=jw hr;have:=(kn (aJ:={aJ with dB:=h}) (fin:=none) (k:=fun ak=>(B0 {r.2 with next:=qw st.next r.2,nz:=[] }).holds Γ R Ps ak F) (G:=Q .normal) (t:=0) (I:=fun _ _ _=>True) (BT Qo ZQ Jh) (fun {_ _ _ _ _} _=>trivial) (fun f c hf=>(gP.1 f c hf).2) Fj Fo Dz Ap.names hQ ⟨rfl,fun _ _ h=>h⟩ (fun n m st r h=>by simp at h) Ve).2 _ _ _ _ (tT Fo Vd) hs (by rw[AI];exact bF) tw hk trivial (lF hh)
           (fun ak aH a' w' iP iI hm _ cO=>hK ak aH {r.2 with next:=qw st.next r.2,nz:=[] } a' w' F (kC bF (gQ (by rw[<- od];exact iI) hb)) hF (iP.close rfl rfl rfl rfl bI) rfl (Nat.le_trans hb (oa _ _).1) cO)
         rw[Nat.zero_add,rM tD]at this;exact this
       . cases hr
     . cases hr
   . exact hh.elim
 | cons p ps ih=>
   intro lo st U ph a w F hs hd hb bF hF hk hh;have od:=dh hd;have tw:∀k,cc.has k=true->st.has k=true:=by rw[AI,od];exact cL hb
   simp only[tP]at hh;split at hh
   . rename_i cY aZ hr;simp only[wQ]at hr;split at hr
     . rename_i hc;simp only[ao,aC]at hc;obtain⟨⟨⟨Vd,hp⟩,tD⟩,ze⟩:=hc;rw[Dw Fo,rM (by omega)]at ze
       split at hr
       . rename_i r T Ve;obtain⟨rfl,rfl,bI⟩:=jw hr;have he:=lF hh;have hlen:ops.size-lo=(ops.size-p)+(p-lo):=by omega
         rw[hlen,<- rM (show lo<=ops.size by omega)]
         refine(kn (aJ:={aJ with dB:=h}) (fin:=some (Nat.pow 2 p-1)) (G:=fun a' w'=>gA P .any ops Q (ix cc eS pS ⟨[],some W⟩ wR) (ops.size-p) (nG p ops.size).toArray a' w') (t:=ops.size-p) (I:=fun _ _ _=>True) (BT Qo ZQ Jh) (fun {_ _ _ _ _} _=>trivial) (fun f c hf=>(gP.1 f c hf).2) Fj Fo Dz Ap.names hQ (fun a' w' hG=>?_) (fun n m st r h=>by simp at h) Ve).2 _ _ _ _ (tT Fo Vd) hs (by rw[AI];exact bF) tw hk trivial he
           (fun ak aH a' w' iP iI hm _ cO=>?_)
         . rw[rM (by omega)]
           exact hG
         ·
           split at cO
           . rename_i o ho;have Jb:=iP.close (aZ:={r.2 with next:=qw st.next r.2,nz:=[] }) rfl rfl rfl rfl bI
             have lD:=kC bF (gQ (n:=cc.next) (by rw[<- od];exact iI) hb)
             have lu:=sA (Q:=fun e a2 w2=>match e with| .normal=>Kept cc eS pS W wR w2/\gA P .any ops Q (ix cc eS pS ⟨[],some W⟩ wR) (ops.size-(p+1)) (nG (p+1) ops.size).toArray a2 w2|e=>Q e a2 w2) (base:=cc.next) (e0:=eS) (p0:=pS) (F0:=F0) (Ps:=Ps) hB gP hex nX
               (fun fK Kt sY a2 w2 F2 g1 g2 g3 g4 g5 g6=>by
                 split at g6
                 . rename_i hkb;have QL:=Q' Ap g3 (by rw[AI];exact g1) hkb
                   exact⟨QL,ih g3 g4 g5 g1 g2 QL g6⟩
                 . exact g6.elim) (fun fK Kt sY a2 w2 e g1 g2 g3 g4 g5=>hP fK Kt sY a2 w2 e g1 g2 g3 g4 g5) (l:=[o]) Jb rfl (Nat.le_trans hb (oa _ _).1) lD hF cO
             have e1:ops.size-p=(ops.size-(p+1))+1:=by omega
             rw[e1];refine xS ze (by simp) fun i hi=>?_
             obtain rfl:i=p:=by simpa using hi
             unfold wpOp;simp only[ho];rw[Fy hp];exact lu
           . exact cO.elim
       . cases hr
     . cases hr
   . exact hh.elim
end
end Go.Sx
namespace Go.Sx
open Go.RowKit
variable {U ak:az}{ph aH:Ph}{P:Program}
theorem B2{aJ:jo}{ops:Array Oper}{st aZ:St}{cY:List Ev}(h:tO P aJ ops st=some (cY,aZ)):aZ.nz=[]/\st.next<=aZ.next:=by
 unfold tO at h;split at h
 . split at h
   . split at h
     . obtain⟨_,rfl,_⟩:=jw h;exact⟨rfl,(oa _ _).1⟩
     . cases h
   . cases h
 . cases h
theorem Ji{no:List (Nat×Int)}{p:BE}(h:K9 no p=true)(nX:∀q∈no,(U q.1).int≠q.2):p.ae U=false:=by
 unfold K9 at h;split at h
 . rename_i k n;have:=nX (k,n) (by simpa using h)
   exact decide_eq_false this
 . cases h
theorem zU{Γ:bO}{R:List DV->Prop}{Ps:List (Int->Prop)}{F:Nat->List DV->Prop}{go:St->aw}{w0 w:World}{a:Act}{X:Prop}:∀ {ps:List (Nat×Nat×Nat)} {st:St},Sat w0 U ph st a w->(BD go ps st).holds Γ R Ps U F->
   (∀jq:St,Sat w0 U ph jq a w->jq.nz=st.nz->jq.next=st.next->(go jq).holds Γ R Ps U F->X)->X:=by
 intro ps;induction ps with
 |nil=>intro st hs h hX;exact hX st hs rfl rfl h
 | cons p ps ih=>
   intro st hs h hX;obtain⟨r,x,m⟩:=p;obtain⟨v,hv,h⟩:=BY h;exact ih (hs.fix hv) h (fun jq h1 h2 h3 h4=>hX jq h1 h2 h3 h4)
section
variable {aJ:jo}{Γ:bO}{R:List DV->Prop}{w0:World}
theorem Fz(hB:iS P aJ)(gP:dQ P Γ aJ w0):∀ {n:Nat} {h:Option St} {L:List Nat} {f:FuncId} {fn:Func} {k:List K} {st:St} {kr:List V1->St->aw} {U:az} {ph:Ph} {a:Act} {w:World} {F:Nat->List DV->Prop} {Ps:List (Int->Prop)}
   {E:Act->World->Prop} {EP:Int->World->Prop} {b:Frame} {cs:List Frame} {base:Nat} {e0:az} {p0:Ph} {F0:Nat->List DV->Prop},
   (∀p∈aJ.no,p.1<base/\(e0 p.1).int≠p.2)->Sat w0 U ph st a w->st.nz=[]->base<=st.next->bj (a8 base) e0 U p0 ph->(∀j∈L,F j=F0 j)->DJ P aJ.cK b cs w0 E EP F U ph st.next k->
   (∀ak aH aZ a' w' rv F',bj (a8 base) e0 ak p0 aH->(∀j∈L,F' j=F0 j)->Sat w0 ak aH aZ a' w'->aZ.nz=[]->base<=aZ.next->qu P aZ fn.results.toList=some rv->dm aZ.has rv=true->(kr rv aZ).holds Γ R Ps ak F'->E a' w')->
   (∀ak aH aZ w' e,bj (a8 base) e0 ak p0 aH->qG w0 ak aH aZ w'->mj h aZ=true->jd Ps e->EP e w')->
   (exec P aJ n h L f fn k st kr).holds Γ R Ps U F->Reach P aJ.cK b cs E EP (lone (b.at a (cN k)) cs w):=by
 intro n;induction n with
 |zero=>intro h L f fn k st kr U ph a w F Ps E EP b cs base e0 p0 F0 nX hs hd hb bF hF hk hR hP hh;exact hh.elim
 | succ n ih=>
   intro h L f fn k st kr U ph a w F Ps E EP b cs base e0 p0 F0 nX hs hd hb bF hF hk hR hP hh;have BJ:∀p∈aJ.no,p.1<st.next/\(U p.1).int≠p.2:=fun p hp=>by
     obtain⟨h1,h2⟩:=nX p hp;exact⟨by omega,by rw[<- bF.e p.1 (by simp only[a8,aC];exact h1)];exact h2⟩
   have I9:(QT P fn st kr).holds Γ R Ps U F->E a w:=fun hh=>by
     unfold QT at hh;split at hh
     . rename_i vs kN;split at hh
       . rename_i b8;exact hR U ph st a w vs F bF hF hs hd hb kN b8 hh
       . exact hh.elim
     . exact hh.elim
   cases k with
   | nil=>
     simp only[exec]at hh;exact⟨a,w,[],.inl ⟨I9 hh,.one step_end⟩⟩
   | cons x k=>
     cases x with
     | lQ id=>
       simp only[exec]at hh;exact Reach.step step_inBlock (ih nX hs hd hb bF hF hk hR hP hh)
     | loop c=>
       simp only[exec]at hh;exact Reach.step step_inLoop (ih (k:=.code c :: .loop c::k) nX hs hd hb bF hF hk hR hP hh)
     | wH c id gM ZR ks=>
       simp only[exec]at hh;split at hh
       . rename_i bJ Tv;obtain⟨⟨h1,e1,p1,h2,h3⟩,_⟩:=hk;exact h3 U ph st a w bJ h2 hs Tv hh
       . exact hh.elim
     | code c=>
       cases c with
       | skip=>
         simp only[exec]at hh;exact Reach.step step_skip (ih nX hs hd hb bF hF hk hR hP hh)
       | label l=>
         simp only[exec]at hh;exact Reach.step step_label (ih nX hs hd hb bF hF hk hR hP hh)
       | seq x y=>
         simp only[exec]at hh;exact Reach.step step_seq (ih (k:=.code x :: .code y::k) nX hs hd hb bF hF hk hR hP hh)
       | cond x y z=>
         simp only[exec]at hh;split at hh
         . rename_i hl;have:=ay hl b9 hs.tmps;exact Reach.step (step_cond (t:=true) (by rw[this];rfl)) (ih (k:=.code y::k) nX hs hd hb bF hF hk hR hP hh)
         . rename_i hl;have:=ay hl b9 hs.tmps;exact Reach.step (step_cond (t:=false) (by rw[this];rfl)) (ih (k:=.code z::k) nX hs hd hb bF hF hk hR hP hh)
         . rename_i p _ _ hl;have:=ay hl b9 hs.tmps;simp only[ah.ae]at this;split at hh
           . rename_i cx;have hp:=Ji cx (fun q hq=>(BJ q hq).2)
             exact Reach.step (step_cond (t:=false) (by rw[this,hp])) (ih (k:=.code z::k) nX hs hd hb bF hF hk hR hP hh)
           obtain⟨h1,h2⟩:=hh;cases hp:p.ae U
           . exact Reach.step (step_cond (t:=false) (by rw[this,hp])) (ih (k:=.code z::k) nX hs hd hb bF hF hk hR hP (h2 hp))
           . exact Reach.step (step_cond (t:=true) (by rw[this,hp])) (ih (k:=.code y::k) nX hs hd hb bF hF hk hR hP (h1 hp))
         . exact hh.elim
       | block id c=>
         simp only[exec]at hh;exact Reach.step step_block (ih (k:=.code c :: .lQ id::k) nX hs hd hb bF hF hk hR hP hh)
       | exit id=>
         simp only[exec]at hh;split at hh
         . rename_i k' hp;obtain⟨h1,h2⟩:=Fw (P:=P) (T:=aJ.cK) (b:=b) (cs:=cs) (w0:=w0) (E:=E) (EP:=EP) (F:=F) (U:=U) (ph:=ph) (next:=st.next) hp
           exact Reach.step (step_exit h1) (ih nX hs hd hb bF hF (h2 hk) hR hP hh)
         . exact hh.elim
       | ret=>
         simp only[exec]at hh;exact⟨a,w,_,.inl ⟨I9 hh,.one step_ret⟩⟩
       | region id ops draw=>
         simp only[exec]at hh;have hex:Vb P aJ Γ R w0 (L++mq k) (QU P (fun h' g Kn c aZ Yj=>exec P aJ n h' (L++mq k) g Kn [.code c] aZ Yj)):=by
           intro h' g vs aZ Yj BO AB w1 F1 Ps1 Jg hM wU Vg hv Tw Yr hKP;unfold QU at Tw;split at Tw
           . rename_i Kn ki;split at Tw
             . rename_i c AJ;split at Tw
               . exact Tw.elim
               . rename_i Fp;have Fp:(Kn.name == "runtime.NumGoroutine")=false:=by simpa using Fp
                 refine⟨dx ki AJ Fp,fun Lx=>?_⟩
                 have od:=dh wU;obtain⟨a',w',todo,xO⟩:=ih (b:={fn:=g,tmps:=#[],todo:=[],defers:=[],mode:=.run,kind:=.normal}) (cs:=Lx) (k:=[.code c]) (base:=aZ.next) (e0:=BO) (p0:=AB) (F0:=F1)
                   (E:=fun a' w'=>a'.defers=[]/\∃v,(results Kn a'.tmps).run P w' = .ok v w'/\Jg (.returned v) w') (EP:=fun e w'=>Jg (.panicked [eW aJ.cK e]) w')
                   Vg (AD (fn:=Kn) hM hv) wU (Nat.le_refl _) cw (fun _ _=>rfl) trivial
                   (fun ak aH sY a2 w2 rv F' g1 g2 g3 g4 g5 g6 g7 g8=>⟨g3.defers,_,jc g3 g6,Yr ak aH sY w2 rv F' (by rw[od];exact g1) g2 g3.UX g4 g5 g7 g8⟩)
                   (fun ak aH sY w2 e g1 g2 g3 g4=>hKP ak aH sY w2 e (by rw[od];exact g1) g2 g3 g4) Tw
                 have LH:Frame.enter P g (vs.map (V1.ae BO AB)).toArray .normal=Frame.at {fn:=g,tmps:=#[],todo:=[],defers:=[],mode:=.run,kind:=.normal} ⟨(vs.map (V1.ae BO AB)).toArray++Array.replicate (Kn.ntmps-(vs.map (V1.ae BO AB)).length) undef,[]⟩ (cN [.code c]):=by
                   simp[Frame.enter,Frame.at,ki,AJ,cN]
                 rcases xO with⟨⟨Ra,v,rZ,DM⟩,dB⟩|⟨e,Ra,DM,dB⟩
                 . refine⟨.returned v,w',{Frame.at {fn:=g,tmps:=#[],todo:=[],defers:=[],mode:=.run,kind:=.normal} a' todo with mode:=.returning},DM,?_,rfl,⟨rfl,Ra,rfl,Kn,ki,rZ⟩⟩;show Steps P (lone (Frame.enter P g _ .normal) Lx w1) _;rw[LH];exact dB
                 . refine⟨.panicked [eW aJ.cK e],w',{Frame.at {fn:=g,tmps:=#[],todo:=[],defers:=[],mode:=.run,kind:=.normal} a' todo with mode:=.panicking [eW aJ.cK e] },DM,?_,rfl,⟨rfl,Ra,Kn,ki⟩⟩;show Steps P (lone (Frame.enter P g _ .normal) Lx w1) _;rw[LH];exact dB
             . exact Tw.elim
           . exact Tw.elim
         have go:∀jq:St,Sat w0 U ph jq a w->jq.nz=[]->jq.next=st.next->(BF P aJ h ops draw ((aJ.Tj.find? fun p=>p.1==gid f id).map (·.2)) (QU P (fun h' g Kn c aZ Yj=>exec P aJ n h' (L++mq k) g Kn [.code c] aZ Yj)) jq (fun aZ=>exec P aJ n h L f fn k aZ kr)).holds Γ R Ps U F->Reach P aJ.cK b cs E EP (lone (b.at a (cN (.code (.region id ops draw)::k))) cs w):=by
           intro jq CY wU Yp Qr;have Tx:=dh wU;have LJ:∀ak aH aZ a' w' F',bj (a8 jq.next) U ak ph aH->(∀j∈L++mq k,F' j=F j)->Sat w0 ak aH aZ a' w'->aZ.nz=[]->jq.next<=aZ.next->(exec P aJ n h L f fn k aZ kr).holds Γ R Ps ak F'->Reach P aJ.cK b cs E EP (lone (b.at a' (cN k)) cs w'):=by
             intro ak aH aZ a' w' F' g1 g2 g3 g4 g5 g6;rw[Yp]at g1 g5;exact ih nX g3 g4 (Nat.le_trans hb g5) (kC bF (gQ g1 hb)) (fun j hj=>(g2 j (List.mem_append_left _ hj)).trans (hF j hj)) (DJ.mono g1 g5 (DJ.LD (fun j hj=>g2 j (List.mem_append_right _ hj)) hk)) hR hP g6
           have Jh:∀ak aH aZ (a':Act) w' e,bj (a8 jq.next) U ak ph aH->a'.defers=[]->qG w0 ak aH aZ w'->mj h aZ=true->jd Ps e->EP e w':=by
             intro ak aH aZ a' w' e g1 _ g3 g4 g5;rw[Yp]at g1;exact hP ak aH aZ w' e (kC bF (gQ g1 hb)) g3 g4 g5
           have hwp:(Code.region id ops draw).wp P (fun e a' w'=>(e = .normal/\Reach P aJ.cK b cs E EP (lone (b.at a' (cN k)) cs w'))\/(∃c,e = .panic [eW aJ.cK c]/\a'.defers=[]/\EP c w')) a w:=by
             have hQ:∀(c:List PanicEntry) (a':Act) (d:Option Tmp) (v:Value) (w':World),((Exit.panic c = .normal/\Reach P aJ.cK b cs E EP (lone (b.at (a'.put d v) (cN k)) cs w'))\/(∃c',Exit.panic c = .panic [eW aJ.cK c']/\(a'.put d v).defers=[]/\EP c' w'))->
                 ((Exit.panic c = .normal/\Reach P aJ.cK b cs E EP (lone (b.at a' (cN k)) cs w'))\/(∃c',Exit.panic c = .panic [eW aJ.cK c']/\a'.defers=[]/\EP c' w')):=by
               intro c a' d v w' hq;rcases hq with⟨h1,_⟩|⟨c',h1,h2,h3⟩
               . cases h1
               . exact .inr ⟨c',h1,by rw[cA]at h2;exact h2,h3⟩
             unfold BF at Qr;split at Qr
             . rename_i Qp;subst Qp;split at Qr
               . rename_i ps kb _;split at Qr
                 . rename_i lr;simp only[ao]at lr;refine qE (S:=ix jq U ph ⟨[],some ((E4 jq).filter fun i=>!kb.contains i)⟩ {w with drawn:=w.drawn+1}) lr.1.2 ?_
                   have:=zT (Q:=fun e a' w'=>(e = .normal/\Reach P aJ.cK b cs E EP (lone (b.at a' (cN k)) cs w'))\/(∃c,e = .panic [eW aJ.cK c]/\a'.defers=[]/\EP c w')) (F0:=F) (B0:=fun aZ=>exec P aJ n h L f fn k aZ kr) (W:=(E4 jq).filter fun i=>!kb.contains i) (ops:=ops) (h:=h) (Ps:=Ps) hB gP hex (fun p hp=>by rw[Yp];exact BJ p hp) CY.drew wU lr.1.1 lr.2 hQ (fun ak aH aZ a' w' F' g1 g2 g3 g4 g5 g6=>.inl ⟨rfl,LJ ak aH aZ a' w' F' g1 g2 g3 g4 g5 g6⟩)
                     (fun ak aH aZ a' w' e g1 g2 g3 g4 g5=>.inr ⟨e,rfl,g2,Jh ak aH aZ a' w' e g1 g2 g3 g4 g5⟩) CY.drew wU (Nat.le_refl _) cw (fun _ _=>rfl) ⟨fun _ _ _=>rfl,fun _ _ _ _ _ _=>rfl⟩ Qr
                   simpa[nG]using this
                 . exact Qr.elim
               . split at Qr
                 . rename_i cY aZ hr;obtain⟨fJ,hn2⟩:=B2 hr;exact zM (aJ:={aJ with dB:=h}) (Γ:=Γ.at (jd Ps)) (Q:=fun e a' w'=>(e = .normal/\Reach P aJ.cK b cs E EP (lone (b.at a' (cN k)) cs w'))\/(∃c,e = .panic [eW aJ.cK c]/\a'.defers=[]/\EP c w')) ⟨hB.aG,hB.wG,hB.uX⟩ (fun ak aH aZ a' w' e g1 g2 g3 g4 g5=>.inr ⟨e,rfl,g2,Jh ak aH aZ a' w' e (by rw[<- Tx];exact g1) g2 g3 g4 g5⟩) gP CY hQ hr (lF Qr) (fun ak aH a' w' g1 g2 g3=>.inl ⟨rfl,LJ ak aH aZ a' w' F (by rw[<- Tx];exact g2) (fun _ _=>rfl) g1 fJ hn2 g3⟩)
                 . exact Qr.elim
             . rename_i Qp;have:draw=false:=by simpa using Qp
               subst this;exact wp_region_list (sA (Q:=fun e a' w'=>(e = .normal/\Reach P aJ.cK b cs E EP (lone (b.at a' (cN k)) cs w'))\/(∃c,e = .panic [eW aJ.cK c]/\a'.defers=[]/\EP c w')) (base:=jq.next) (e0:=U) (p0:=ph) (F0:=F) hB gP hex (fun p hp=>by rw[Yp];exact BJ p hp)
                 (fun ak aH aZ a' w' F' g1 g2 g3 g4 g5 g6=>.inl ⟨rfl,LJ ak aH aZ a' w' F' g1 g2 g3 g4 g5 g6⟩) (fun ak aH aZ a' w' e g1 g2 g3 g4 g5=>.inr ⟨e,rfl,g2,Jh ak aH aZ a' w' e g1 g2 g3 g4 g5⟩) CY wU (Nat.le_refl _) cw (fun _ _=>rfl) Qr)
           obtain⟨e,a',w',hq,Is⟩:=hwp b (cN k) cs;rcases hq with⟨rfl,hG⟩|⟨c,rfl,Ra,hep⟩
           . exact Reach.steps Is hG
           . obtain⟨todo,dB⟩:=Is;exact⟨a',w',todo,.inr ⟨c,Ra,hep,dB⟩⟩
         exact zU hs hh fun jq h1 h2 h3 h4=>go jq h1 (h2.trans hd) h3 h4
       | loop c=>
         simp only[exec]at hh;split at hh
         . exact Reach.step step_loop (ih (k:=.code c :: .loop c::k) nX hs hd hb bF hF hk hR hP hh)
         . rename_i i hint hf;split at hh
           . rename_i zh hm;split at hh
             . exact hh.elim
             . rename_i hnl;simp only[fy,not_or,Bool.not_eq_true]at hnl;obtain⟨hnl,hnL⟩:=hnl;have hnL:∀j∈L,j≠i:=fun j hj e=>by
                 subst e;simp[hj]at hnL
               obtain⟨inv,oc,pZ,AJ⟩:=hh;obtain⟨g1,g2,g3,jg,g5,g4⟩:=BV hs hd hm;have rounds:∀N ds (a:Act) (w:World) (aH:Ph),oc ds=N->inv ds->kinds zh.ks ds=true->bj (a8 st.next) U (U.ar st.next ds) ph aH->Sat w0 (U.ar st.next ds) aH zh.st a w->Reach P aJ.cK b cs E EP (lone (b.at a (.code c :: .inLoop c::cN k)) cs w):=by
                 intro N;induction N using Nat.strongRecOn with
                 | _ N ihN=>
                   intro ds a w aH hN hi v8 iI iP;refine ih (k:=.code c :: .wH c i st.next zh.st zh.ks::k) nX iP g1 (by rw[g2];exact Nat.le_trans hb (Nat.le_add_right _ _)) (kC bF (gQ iI hb)) (fun j hj=>?_) ⟨⟨by omega,U,ph,iI,?_⟩,?_⟩ hR hP (AJ ds v8 hi)
                   . funext vs;simp only[ox,if_neg (hnL j hj),hF j hj]
                   . intro ak Kt aZ a' w' bJ he Jb Tv hFF;obtain⟨vN,ph3,ZS,hs3⟩:=Fu Jb iP.names iP.nest.nm Tv;simp only[ox,if_true]at hFF;have hs4:Sat w0 (U.ar st.next (bJ.map (DE.ae ak))) ph3 zh.st a' w':=by
                       refine hs3.Je g1 fun j hj=>?_
                       have hl:=ve vN;rcases Nat.lt_or_ge j st.next with h1|h1
                       . rw[az.aX h1,az.aX h1,he.e j (by simpa[a8]using h1)]
                       . have cQ:j-st.next<(bJ.map (DE.ae ak)).length:=by omega
                         obtain⟨d,hd⟩:∃d,(bJ.map (DE.ae ak))[j-st.next]?=some d:=⟨_,dJ cQ⟩
                         have hj':j=st.next+(j-st.next):=by omega
                         rw[hj',az.cm hd,az.cm hd]
                     have adP:bj (a8 st.next) U (U.ar st.next (bJ.map (DE.ae ak))) ph ph3:=by
                       refine⟨fun j hj=>?_,fun j hj=>(he.r j hj).trans (ZS.r j hj),fun j hj=>(he.v j hj).trans (ZS.v j hj)⟩
                       simp only[a8,aC]at hj;rw[az.aX hj]
                     exact Reach.step step_inLoop (ihN (oc (bJ.map (DE.ae ak))) (by omega) _ a' w' ph3 rfl hFF.1 vN adP hs4)
                   . refine DJ.LD (F:=F) (fun j hj=>?_) (DJ.mono iI (by omega) hk)
                     funext vs;have:j≠i:=fun e=>DK hnl (e▸hj)
                     simp only[ox,if_neg this]
               exact Reach.step step_loop (rounds _ _ a w jg rfl pZ g3 g5 g4)
           . exact hh.elim
       |_=>exact hh.elim
end
def Ty(P:Program)(fn:Func)(res:List VT)(w0:World)(R:List DV->Prop)(a:Act)(w:World):Prop:=
 a.defers=[]/\∃bP fH,(results fn a.tmps).run P w = .ok (packed (bT res bP)) w/\Below w0.heap.size w0 w/\fitAll (jO w w0.heap.size) (bD res) bP fH/\fR bP/\R fH
theorem Jj{Γ:bO}{R:List DV->Prop}{Ps:List (Int->Prop)}{F:Nat->List DV->Prop}{w0 w:World}{st:St}{a:Act}{fn:Func}{res:List VT}{vs:List V1}(hs:Sat w0 U ph st a w)(kN:qu P st fn.results.toList=some vs)(h:(oS res vs st).holds Γ R Ps U F):Ty P fn res w0 R a w:=by
 unfold oS at h;split at h
 . rename_i e ks id;split at h
   . rename_i b hb;split at h
     . rename_i hc;simp only[ao,aC]at hc;obtain⟨rfl,h0⟩:=hc;split at h
       . rename_i xs nP;obtain⟨bd,rfl⟩:=dM hb;obtain⟨hB,hh⟩:=hs.mem.lQ b bd;have uV:=qh (U:=U) (ph:=ph) nP [] 0 rfl;simp only[List.nil_append]at uV;refine⟨hs.defers,[.slice (some ⟨ph.r b.id,0,none⟩) 1 1],[(DE.sU xs).ae U],jc hs kN,hs.below,⟨⟨h0,?_⟩,trivial⟩,?_,h⟩
         . have e:aA ks [xs.map (bV U)]=bL ks 0 (xs.map (bV U)):=by simp[aA]
           have hl:=(mQ nP).1;show w.ownsRow w0.heap.size b.ty ks.length _ 1 (aA ks [xs.map (bV U)]);rw[e,<- uV];refine⟨by simp[hl],.inr ⟨ph.r b.id,1,_,rfl,hB,hh,Nat.le_refl _,by decide,by simp[hl],?_⟩⟩
           simp[hl,List.take_of_length_le]
         . intro i j u v Bw hu hv k hk cO
           match i,j with
           |0,0=>exact Bw rfl
           |0,j+1=>simp at hv
           |i+1,_=>simp at hu
       . exact h.elim
     . exact h.elim
   . exact h.elim
 ·
   split at h
   . rename_i ds pF;split at h
     . rename_i hc;simp only[ao]at hc;obtain⟨⟨Ff,nV⟩,bG⟩:=hc;rw[AH]at nV bG;have nV:=vY nV;have ho:∀row∈cC (bt vs),∃r,r∈st.rows/\r.id=row/\bC st row=some r/\r.own=true/\r.g.ae U=true:=fun row bc=>by
         have:=List.all_eq_true.1 bG row bc;split at this
         . rename_i r hr;simp only[ao,aC]at this;obtain⟨hm,kx⟩:=aU hr;exact⟨r,hm,kx,hr,this.1,by rw[this.2];rfl⟩
         . cases this
       obtain⟨QW,e1,e2,e7⟩:=qC (U:=U) (ph:=ph) (R:=jO w w0.heap.size) (oV _ _) (fun h=>by rw[lU Ff]at h;cases h) pF (fun row bc r hr _=>by
         obtain⟨r',hm,_,cF,cP,hg⟩:=ho row bc;rw[hr,af]at cF;subst cF;obtain⟨h0,gD⟩:=hs.mem.row r hm hg;rw[if_pos cP]at gD;exact⟨h0,gD⟩) (fun h=>by rw[iY Ff]at h;cases h)
       have e7:=e7 (iY Ff);subst e7;refine⟨hs.defers,_,_,by rw[<- e1];exact jc hs kN,hs.below,e2,?_,h⟩
       intro i j u v Bw hu hv k hk cO;rw[List.getElem?_map]at hu hv;simp only[bB]at hu hv;obtain⟨l,hl,rfl⟩:=hu;obtain⟨l',tu,rfl⟩:=hv;have De:∀(i:Nat) (l:ah) k,(bt vs)[i]?=some l->(l.ae U ph).ownBlock=some k->∃r,l = .s r:=fun i l k hl h=>by
         obtain⟨c,d,_,xP⟩:=lB (lA (iY Ff) pF) hl;exact oX xP h
       obtain⟨r,rfl⟩:=De i l k hl hk;obtain⟨r',rfl⟩:=De j l' k tu cO;have QE:r∈cC (bt vs):=List.mem_filterMap.2 ⟨_,List.mem_of_getElem? hl,rfl⟩;have adQ:r'∈cC (bt vs):=List.mem_filterMap.2 ⟨_,List.mem_of_getElem? tu,rfl⟩;obtain⟨x,hx,G0,_,wK,I0⟩:=ho r QE;obtain⟨x',U8,ZT,_,adR,adS⟩:=ho r' adQ;simp only[ah.ae,<- G0,<- ZT]at hk cO;exact hs.mem.rr x hx x' U8 (fun e=>Bw (Fv nV hl (by rw[tu,<- ZT,<- e,G0]))) wK I0 adS k (by simp[Row.bQ,wK,hk]) (by simp[Row.bQ,adR,cO])
     . split at h
       . rename_i hc;simp only[ao]at hc;obtain⟨⟨⟨Ff,hN⟩,BG⟩,bG⟩:=hc;rw[AH]at bG;unfold oO at BG;rw[hN]at BG;simp only[Bool.not_true,Bool.false_or,ao,Bool.not_eq_true',aC]at BG;obtain⟨hS,BI⟩:=BG;have ho:∀row∈cC (bt vs),bC st row=none/\∃n,eC st row=some n/\n.own=true:=fun row bc=>by
           have:=List.all_eq_true.1 bG row bc;split at this
           . rename_i x h1 h2;exact⟨h1,x,h2,this⟩
           . cases this
         obtain⟨QW,e1,e2,e7⟩:=qC (U:=U) (ph:=ph) (R:=jO w w0.heap.size) (oV _ _) (fun _ row bc n hn _=>by
           obtain⟨_,n',nC,nX⟩:=ho row bc;rw[hn,af]at nC;subst nC;obtain⟨hm,_⟩:=cS hn;obtain⟨_,h0,K2⟩:=hs.nest.own hm nX;exact⟨h0,_,fun k hk=>⟨hk.2,hs.nest.lt k hk.1⟩,fun k hk hz=>((hs.nest.oz n hm nX).2 k hk).1 hz.1,K2⟩) pF (fun row bc r hr _=>by
           rw[(ho row bc).1]at hr;cases hr) (fun h=>by rw[Ff]at h;cases h)
         have e7:=e7 Ff;subst e7;refine⟨hs.defers,_,_,by rw[<- e1];exact jc hs kN,hs.below,e2,?_,h⟩
         intro i j u v Bw hu hv k hk cO;rw[List.getElem?_map]at hu hv;simp only[bB]at hu hv;obtain⟨l,hl,rfl⟩:=hu;obtain⟨l',tu,rfl⟩:=hv;have De:∀(i:Nat) (l:ah) k,(bt vs)[i]?=some l->(l.ae U ph).ownBlock=some k->∃c,(bD res)[i]?=some c/\c.uA=true:=fun i l k hl h=>by
           obtain⟨c,d,hc,xP⟩:=lB (lA Ff pF) hl;obtain⟨r,rfl⟩:=oX xP h;refine⟨c,hc,(IZ xP).resolve_left fun hs=>?_⟩
           rw[List.any_eq_false]at hS;exact hS c (List.mem_of_getElem? hc) hs
         obtain⟨c,hc,hcn⟩:=De i l k hl hk;obtain⟨c',AK,adT⟩:=De j l' k tu cO;exact Bw (Lb BI hc AK hcn adT)
       . exact h.elim
   . exact h.elim
def aM:az:=fun _=>.i 0
def jg:Ph:=⟨fun _=>0,fun _=>(none,0,0),fun _=>False⟩
def AB(w:World)(bP:List Value):Ph:={jg.dq 0 bP with z:=fun k=>k<w.heap.size}
theorem AL{w:World}{fn:Func}{args:List VT}{bP:List Value}{ds:List DV}(hf:fitAll (kO w) (bD args) bP ds) :
   Sat w (aM.ar 0 ds) (AB w bP) (start fn args) ⟨(bT args bP).toArray++Array.replicate (fn.ntmps-(bT args bP).length) undef,[]⟩ w:=by
 obtain⟨Ao,xh⟩:=mu hf;have sx:=s7 (U:=aM.ar 0 ds) (ph:=AB w bP) false (.c true) (bD args) 0 bP ds hf (fun i d hd=>az.cm hd) (fun i v hv e ks hc=>by
   have UK:∃a b c,v = .slice a b c:=by
     rcases hc with hc|⟨aK,hc⟩
     . obtain⟨v',d,tv,hd,dr⟩:=iR hf hc;rw[hv]at tv;simp only[af]at tv;subst tv;cases d with
       |i n=>simp[ju]at dr
       |b x=>simp[ju]at dr
       | l xs=>
         obtain⟨_,base,cap,rfl,_⟩:=dr;exact⟨_,_,_,rfl⟩
     . obtain⟨v',d,tv,hd,dr⟩:=iR hf hc;rw[hv]at tv;simp only[af]at tv;subst tv;cases d with
       |i n=>simp[ju]at dr
       |b x=>simp[ju]at dr
       | l xs=>
         obtain⟨_,b0,c0,rfl,_⟩:=dr;exact⟨_,_,_,rfl⟩
   obtain⟨a0,b0,c0,rfl⟩:=UK;exact rI (ph:=jg) hv)
 obtain⟨e1,e2,e3⟩:=sx;have uV:=oT (U:=aM.ar 0 ds) (ph:=AB w bP) (.c true) args 0 bP e1;rw[<- eD]at e2;have iK:∀i,i<(bD args).length->a8 (bD args).length (0+i)=true:=fun i hi=>by simpa[a8]using hi
 have b8:=gk (q:=a8 (bD args).length) (.c true) rfl (bD args) 0 iK;have ZU:=lz (q:=a8 (bD args).length) (.c true) rfl args 0 iK;have od:(start fn args).has=a8 (bD args).length:=by rw[dh rfl];rfl
 have hlen:(bX (.c true) 0 args).1.length=(bT args bP).length:=by rw[<- uV,List.length_map]
 refine⟨⟨?_,fun t s ht=>?_⟩,⟨?_,?_,?_,?_,?_⟩,Below.refl _ _,rfl,⟨fun t s ht=>?_,?_,?_⟩,?_⟩
 . simp[start,kA,hlen]
 . simp only[start,kA]at ht;rw[List.getElem?_append]at ht;split at ht
   . rename_i cQ;rw[List.getElem?_map]at ht;simp only[bB,af]at ht;obtain⟨v,hv,rfl⟩:=ht;have tv:(bT args bP)[t]?=some (v.ae (aM.ar 0 ds) (AB w bP)):=by rw[<- uV,List.getElem?_map,hv];rfl
     have IV:=(cT.1 tv).1;rw[Array.getElem?_append,if_pos (by simpa using IV)]
     simp only[List.getElem?_toArray,tv,aP.ae,BE.ae,if_true,SV.ae]
   . rw[List.getElem?_replicate]at ht;split at ht<;>cases ht
 . intro b hb;simp[start]at hb
 . intro b hb;simp[start]at hb
 . intro r hr hg;simp only[start,kA,List.mem_map]at hr;obtain⟨r0,dH,rfl⟩:=hr;obtain⟨i,_,_,_,h0,hR⟩:=e2 r0 dH;exact⟨h0,hR⟩
 . intro b hb;simp[start]at hb
 . intro r hr r' cF cx ho;simp only[start,kA,List.mem_map]at hr;obtain⟨r0,dH,rfl⟩:=hr;cases ho
 . rw[od];simp only[start,kA]at ht;rw[List.getElem?_append]at ht;split at ht
   . rw[List.getElem?_map]at ht;simp only[bB,af]at ht;obtain⟨v,hv,rfl⟩:=ht;have:∀ {vs:List V1} {t:Nat} {v:V1},dm (a8 (bD args).length) vs=true->vs[t]?=some v->v.all (a8 (bD args).length)=true:=by
       intro vs;induction vs with
       |nil=>intro t v _ h;simp at h
       | cons x vs ih=>
         intro t v h hv;simp only[dm,ao]at h;cases t with
         |zero=>simp at hv;subst hv;exact h.1
         |succ t=>exact ih h.2 (by simpa using hv)
     simp only[aP.all,BE.all,SV.all,Bool.true_and];exact this ZU hv
   . rw[List.getElem?_replicate]at ht;split at ht<;>cases ht
 . intro b hb;simp[start]at hb
 . intro r hr;rw[od];simp only[start,kA,List.mem_map]at hr;obtain⟨r0,dH,rfl⟩:=hr;rw[eD]at dH;exact b8.2 r0 dH
 . refine⟨fun k hk=>hk,fun b hb=>by simp[start]at hb,fun r hr ho=>?_,fun n hn _=>?_,fun n hn=>?_,fun n hn ho=>?_⟩
   . simp only[start,kA,List.mem_map]at hr;obtain⟨r0,dH,rfl⟩:=hr;cases ho
   . obtain⟨i,_,_,_,hR,_⟩:=e3 n hn;refine⟨hR.1,?_⟩;unfold eU;rw[if_neg (by rw[(n8 _ _ _ _ n hn).2];simp)]
     exact hR.2
   . rw[od];exact s8 _ (.c true) rfl (bD args) 0 iK n hn
   . rw[(n8 _ _ _ _ n hn).2]at ho;cases ho
def LK(P:Program)(fn:Func)(sg:bN)(w0:World)(B:Nat)(fk:List Value)(R:List DV->Prop)(a:Act)(w:World):Prop:=
 a.defers=[]/\∃bP fH,(results fn a.tmps).run P w = .ok (packed (bT sg.res bP)) w/\Below w0.heap.size w0 w/\fitAll (jO w B) (bD sg.res) bP fH/\fR bP/\
   (∀(i:Nat) (u:Value) (k:Nat),bP[i]?=some u->u.ownBlock=some k->w0.heap.size<=k\/∃(j:Nat) (v:Value),j<sg.cons/\fk[j]?=some v/\v.ownBlock=some k)/\R fH
theorem FA{Γ:bO}{R:List DV->Prop}{Ps:List (Int->Prop)}{F:Nat->List DV->Prop}{w0 w:World}{st:St}{a:Act}{fn:Func}{sg:bN}{vs:List V1}{B:Nat}{fk:List Value}{Vh:List DV}(hs:Sat w0 U ph st a w)(kN:qu P st fn.results.toList=some vs)
   (hA:Tp sg w0 B fk Vh) (bF:bj (a8 (bD sg.args).length) (aM.ar 0 Vh) U (AB w0 fk) ph) (h:(mo sg vs st).holds Γ R Ps U F):LK P fn sg w0 B fk R a w:=by
 unfold mo at h;split at h
 . rename_i ds pF;split at h
   . rename_i hc;simp only[ao]at hc;obtain⟨⟨Ff,nV⟩,bG⟩:=hc;have nV:=vQ nV;have akB:=mu hA.fit;have ho:∀row∈cC (bt vs),∃r,r∈st.rows/\r.id=row/\bC st row=some r/\r.g.ae U=true/\jO w B r.e (.inl r.ks) (ph.val r.id) (U r.lv).list/\
         ((r.own=true/\∀k,(ph.val r.id).ownBlock=some k->w0.heap.size<=k)\/(r.id<sg.cons/\fk[r.id]?=some (ph.val r.id)/\∀k,(ph.val r.id).ownBlock=some k->k<w0.heap.size)):=fun row bc=>by
       have:=List.all_eq_true.1 bG row bc;split at this
       . rename_i r hr;simp only[ao,fy,aC]at this;obtain⟨hg,xO⟩:=this;obtain⟨hm,kx⟩:=aU hr;have kf:r.g.ae U=true:=by rw[hg];rfl
         obtain⟨h0,gD⟩:=hs.mem.row r hm kf;rcases xO with ho|⟨⟨cQ,wz⟩,Ym⟩
         . rw[if_pos ho]at gD;exact⟨r,hm,kx,hr,kf,⟨h0,oU gD hA.base⟩,.inl ⟨ho,fun k hk=>(gD.lt k hk).1⟩⟩
         . have Vi:=(cT.1 Ym).1;have hb:a8 (bD sg.args).length r.id=true:=by simpa[a8]using Vi
           obtain⟨v,d,hv,hd,dr⟩:=iR (i:=r.id) hA.own (by rw[List.getElem?_take,if_pos cQ];exact Ym)
           rw[List.getElem?_take,if_pos cQ]at hv hd;cases d with
           |i n=>simp[ju]at dr
           |b x=>simp[ju]at dr
           | l xs=>
             obtain⟨h1,h2⟩:=dr;obtain⟨sl,rfl⟩:=jW h2;have ev:ph.val r.id = .slice sl.1 sl.2.1 sl.2.2:=by
               have hz:(AB w0 fk).val (0+r.id) = .slice sl.1 sl.2.1 sl.2.2:=rI (ph:=jg) hv;rw[Nat.zero_add]at hz;rw[<- hz];simp only[Ph.val,<- bF.v _ hb]
             have ed:(U r.lv).list=xs:=by
               rw[wz,<- bF.e _ hb];have:=az.cm (U:=aM) (k:=0) hd;rw[Nat.zero_add]at this;rw[this];rfl
             refine⟨r,hm,kx,hr,kf,?_,.inr ⟨cQ,by rw[ev];exact hv,fun k hk=>?_⟩⟩
             . rw[ev,ed];exact⟨h1,sq h2 (jU hs.below) (fun k _=>by simp)⟩
             . rw[ev]at hk;exact(h2.lt k hk).2
       . cases this
     obtain⟨QW,e1,e2,e7⟩:=qC (U:=U) (ph:=ph) (R:=jO w B) (oV _ _) (fun h=>by rw[lU Ff]at h;cases h) pF (fun row bc r hr _=>by
       obtain⟨r',_,_,cF,_,cP,_⟩:=ho row bc;rw[hr,af]at cF;subst cF;exact cP) (fun h=>by rw[iY Ff]at h;cases h)
     have e7:=e7 (iY Ff);subst e7;have De:∀(i:Nat) (l:ah) k,(bt vs)[i]?=some l->(l.ae U ph).ownBlock=some k->∃r,l = .s r:=fun i l k hl h=>by
       obtain⟨c,d,_,xP⟩:=lB (lA (iY Ff) pF) hl;exact oX xP h
     have qD:∀(i:Nat) (u:Value) (k:Nat),((bt vs).map (ah.ae U ph))[i]?=some u->u.ownBlock=some k->∃r∈st.rows,(bt vs)[i]?=some (.s r.id)/\(ph.val r.id).ownBlock=some k/\r.g.ae U=true/\
         ((r.own=true/\w0.heap.size<=k)\/(r.id<sg.cons/\fk[r.id]?=some (ph.val r.id)/\k<w0.heap.size)):=fun i u k hi hu=>by
       rw[List.getElem?_map]at hi;simp only[bB]at hi;obtain⟨l,hl,rfl⟩:=hi;obtain⟨r,rfl⟩:=De i l k hl hu;have bd:r∈cC (bt vs):=List.mem_filterMap.2 ⟨_,List.mem_of_getElem? hl,rfl⟩;obtain⟨x,hx,G0,_,I0,_,xO⟩:=ho r bd;subst G0;exact⟨x,hx,hl,hu,I0,xO.imp (fun a=>⟨a.1,a.2 k hu⟩) (fun a=>⟨a.1,a.2.1,a.2.2 k hu⟩)⟩
     refine⟨hs.defers,_,_,by rw[<- e1];exact jc hs kN,hs.below,e2,fun i j u v Bw hu hv k hk cO=>?_,fun i u k hu hk=>?_,h⟩
     . obtain⟨r,hr,h1,h2,h3,h4⟩:=qD i u k hu hk;obtain⟨r',cF,EF,UQ,Zt,Zv⟩:=qD j v k hv cO;by_cases he:r.id=r'.id
       . rw[he]at h1;exact Bw (Az nV h1 EF)
       . rcases h4 with⟨a1,a2⟩|⟨a1,a2,a3⟩<;>rcases Zv with⟨b1,b2⟩|⟨b1,b2,b3⟩
         . exact hs.mem.rr r hr r' cF he a1 h3 Zt k (by simp[Row.bQ,a1,h2]) (by simp[Row.bQ,b1,UQ])
         . omega
         . omega
         . exact hA.apart r.id r'.id _ _ he (by rw[List.getElem?_take,if_pos a1];exact a2) (by rw[List.getElem?_take,if_pos b1];exact b2) k h2 UQ
     . obtain⟨r,hr,h1,h2,h3,⟨_,a2⟩|⟨a1,a2,_⟩⟩:=qD i u k hu hk
       . exact .inl a2
       . exact .inr ⟨r.id,_,a1,a2,h2⟩
   . exact h.elim
 . exact h.elim
def eN(P:Program)(Wd:World->Prop)(f:FuncId)(c:cV):Prop:=
 (∀w args,(callFunc f args).run P w = .ok (.enter f args) w)/\
 ∀w vs ds,Wd w->xJ w c.sig.args vs ds->c.pre ds->Calls P f vs.toArray w (fun e w'=>∃bP fH,e = .returned (packed (bT c.sig.res bP))/\Below w.heap.size w w'/\
   fitAll (jO w' w.heap.size) (bD c.sig.res) bP fH/\fR bP/\c.rel ds fH)
theorem eN.at{Wd:World->Prop}{f:FuncId}{c:cV}{w0:World}(h:eN P Wd f c)(hw:∀w,Below w0.heap.size w0 w->Wd w):oW P w0 f c:=⟨h.1,fun w vs ds hb ha hp=>h.2 w vs ds (hw w hb) ha hp⟩
theorem LL{Γ:bO}{aJ:jo}{f:FuncId}{fn:Func}{c:Code}{sg:bN}{fuel:Nat}{X:List DV->Prop}{ret:List V1->St->aw}{w:World}{fk:List Value}{ds:List DV}(hB:iS P aJ)(gP:dQ P Γ aJ w)(nX:aJ.no=[]){E:Act->World->Prop}{cs:List Frame}
   (hs:Sat w (aM.ar 0 ds) (AB w fk) (start fn sg.args) ⟨(bT sg.args fk).toArray++Array.replicate (fn.ntmps-(bT sg.args fk).length) undef,[]⟩ w) (hb:fn.body=some c) (Jd:(if sg.cons=0 then oS sg.res else mo sg)=ret)
   (hE:∀ak aH aZ a' w' rv F',bj (a8 (bD sg.args).length) (aM.ar 0 ds) ak (AB w fk) aH->Sat w ak aH aZ a' w'->qu P aZ fn.results.toList=some rv->(ret rv aZ).holds Γ X [] ak F'->E a' w')
   (h:(qy P aJ f fn sg fuel).holds Γ X [] (aM.ar 0 ds) (fun _ _=>False)) :
   Reach P aJ.cK {fn:=f,tmps:=#[],todo:=[],defers:=[],mode:=.run,kind:=.normal} cs E (fun _ _=>False) (lone (Frame.at {fn:=f,tmps:=#[],todo:=[],defers:=[],mode:=.run,kind:=.normal} ⟨(bT sg.args fk).toArray++Array.replicate (fn.ntmps-(bT sg.args fk).length) undef,[]⟩ (cN [.code c])) cs w):=by
 subst Jd;have main:∀(Jk:jo) (jq:St),iS P Jk->dQ P Γ Jk w->Jk.cK=aJ.cK->(∀p∈Jk.no,p.1<(bD sg.args).length/\((aM.ar 0 ds) p.1).int≠p.2)->Sat w (aM.ar 0 ds) (AB w fk) jq ⟨(bT sg.args fk).toArray++Array.replicate (fn.ntmps-(bT sg.args fk).length) undef,[]⟩ w->jq.nz=[]->jq.next=(bD sg.args).length->
     (exec P Jk fuel none [] f fn [.code c] jq (if sg.cons=0 then oS sg.res else mo sg)).holds Γ X [] (aM.ar 0 ds) (fun _ _=>False)->Reach P aJ.cK {fn:=f,tmps:=#[],todo:=[],defers:=[],mode:=.run,kind:=.normal} cs E (fun _ _=>False) (lone (Frame.at {fn:=f,tmps:=#[],todo:=[],defers:=[],mode:=.run,kind:=.normal} ⟨(bT sg.args fk).toArray++Array.replicate (fn.ntmps-(bT sg.args fk).length) undef,[]⟩ (cN [.code c])) cs w):=by
   intro Jk jq hB1 adU hg Vg CY wU fJ hh;rw[<- hg];exact Fz (b:={fn:=f,tmps:=#[],todo:=[],defers:=[],mode:=.run,kind:=.normal}) (cs:=cs) (base:=(bD sg.args).length) (e0:=aM.ar 0 ds) (p0:=AB w fk) (F0:=fun _ _=>False) (E:=E) (EP:=fun _ _=>False) (Ps:=[]) (k:=[.code c]) hB1 adU Vg CY wU (by omega) cw (fun _ _=>rfl) trivial
     (fun ak aH aZ a' w' rv F' g1 _ g3 _ _ g6 _ g8=>hE ak aH aZ a' w' rv F' g1 g3 g6 g8) (fun _ _ _ _ _ _ _ _ g=>g) hh
 unfold qy at h;rw[hb]at h;simp only at h;split at h
 . exact main aJ _ hB gP rfl (by rw[nX];intro p hp;simp at hp) hs rfl rfl h
 . rename_i x m _;split at h
   . rename_i hx;have hx:x<(bD sg.args).length:=of_decide_eq_true hx;rcases BX h with⟨v,hv,h⟩|⟨cx,h⟩
     . exact main aJ _ hB gP rfl (by rw[nX];intro p hp;simp at hp) (hs.fix hv) rfl rfl h
     . refine main {aJ with no:=(List.range m).map fun(v:Nat)=>(x,(v:Int)) } _ ⟨hB.aG,hB.wG,hB.uX⟩ gP rfl (fun p hp=>?_) hs rfl rfl h
       obtain⟨v,hv,rfl⟩:=List.mem_map.1 hp;exact⟨hx,cx v hv⟩
   . exact h.elim
theorem DN{Γ:bO}{aJ:jo}{f:FuncId}{fn:Func}{c:Code}{fuel:Nat}{ct:cV}(hB:iS P aJ){Wd:World->Prop}(gP:∀w,Wd w->dQ P Γ aJ w)(hf:P.funcs[f]?=some fn)(hb:fn.body=some c)(hn:(fn.name == "runtime.NumGoroutine")=false)(nX:aJ.no=[])
   {T:aw} (hT:qy P aJ f fn ct.sig fuel=T) (h:∀ds,kinds (bD ct.sig.args) ds=true->ct.pre ds->T.holds Γ (ct.rel ds) [] (aM.ar 0 ds) (fun _ _=>False)):if ct.sig.cons=0 then eN P Wd f ct else ij P Wd f ct:=by
 subst hT;have LH:∀fk:List Value,Frame.enter P f (bT ct.sig.args fk).toArray .normal=Frame.at {fn:=f,tmps:=#[],todo:=[],defers:=[],mode:=.run,kind:=.normal} ⟨(bT ct.sig.args fk).toArray++Array.replicate (fn.ntmps-(bT ct.sig.args fk).length) undef,[]⟩ (cN [.code c]):=fun fk=>by
   simp[Frame.enter,Frame.at,hf,hb,cN]
 split
 . rename_i uB;refine⟨dx hf hb hn,fun w vs ds ZV ha hp cs=>?_⟩
   obtain⟨fk,rfl,dr⟩:=ha;have hs:=AL (fn:=fn) dr;have hh:=h ds (ie dr) hp;obtain⟨a',w',todo,xO⟩:=LL (cs:=cs) (E:=Ty P fn ct.sig.res w (ct.rel ds)) (ret:=oS ct.sig.res) hB (gP w ZV) nX hs hb (by rw[if_pos uB]) (fun ak aH aZ a' w' rv F' _ g3 g6 g8=>Jj g3 g6 g8) hh
   rcases xO with⟨⟨Ra,bP,fH,e1,e2,e3,e4,e5⟩,dB⟩|⟨_,_,hf,_⟩
   . refine⟨.returned (packed (bT ct.sig.res bP)),w',{Frame.at {fn:=f,tmps:=#[],todo:=[],defers:=[],mode:=.run,kind:=.normal} a' todo with mode:=.returning},⟨bP,fH,rfl,e2,e3,e4,e5⟩,?_,?_,⟨rfl,Ra,rfl,fn,hf,e1⟩⟩
     . show Steps P (lone (Frame.enter P f (bT ct.sig.args fk).toArray .normal) cs w) _;rw[LH];exact dB
     . rfl
   . exact hf.elim
 . rename_i uB;refine⟨dx hf hb hn,fun w B fk ds ZV ha hp cs=>?_⟩
   have hs:=AL (fn:=fn) ha.fit;have hh:=h ds (ie ha.fit) hp;obtain⟨a',w',todo,xO⟩:=LL (cs:=cs) (E:=LK P fn ct.sig w B fk (ct.rel ds)) (ret:=mo ct.sig) hB (gP w ZV) nX hs hb (by rw[if_neg uB]) (fun ak aH aZ a' w' rv F' g1 g3 g6 g8=>FA g3 g6 ha g1 g8) hh
   rcases xO with⟨⟨Ra,bP,fH,e1,e2,e3,e4,e5,e6⟩,dB⟩|⟨_,_,hf,_⟩
   . refine⟨.returned (packed (bT ct.sig.res bP)),w',{Frame.at {fn:=f,tmps:=#[],todo:=[],defers:=[],mode:=.run,kind:=.normal} a' todo with mode:=.returning},⟨bP,fH,rfl,e2,e3,e4,e5,e6⟩,?_,?_,⟨rfl,Ra,rfl,fn,hf,e1⟩⟩
     . show Steps P (lone (Frame.enter P f (bT ct.sig.args fk).toArray .normal) cs w) _;rw[LH];exact dB
     . rfl
   . exact hf.elim
end Go.Sx
namespace Go.Sx
theorem AM{U:az}{ks:List BE}(h:∀k∈ks,k.ae U=true):∀ {p:BE},gN ks p=true->p.ae U=true:=by
 have hc:∀p,ks.contains p=true->p.ae U=true:=fun p hp=>h p (by simpa using hp)
 intro p;induction p with
 | and a b eF fa=>
   intro hp;simp only[gN,fy,ao]at hp;rcases hp with hp|⟨h1,h2⟩
   . exact hc _ hp
   . simp[BE.ae,eF h1,fa h2]
 | or a b eF fa=>
   intro hp;simp only[gN,fy]at hp;rcases hp with hp|h1|h2
   . exact hc _ hp
   . simp[BE.ae,eF h1]
   . simp[BE.ae,fa h2]
 | c b=>
   intro hp;cases b with
   |true=>rfl
   |false=>exact hc _ (by simpa[gN]using hp)
 |_=>intro hp;exact hc _ (by simpa[gN]using hp)
theorem tW{U:az}{ks:List BE}(h:∀k∈ks,k.ae U=true){p:BE}:(qz ks p).ae U=p.ae U:=by
 unfold qz;split
 . rename_i g n;split
   . rename_i hg;simp[BE.ae,AM h hg]
   . rfl
 . rfl
theorem tX{U:az}{p:BE}:∀ {ks:List BE},(∀k∈ks,k.ae U=true)->p.ae U=true->∀k∈gO p ks,k.ae U=true:=by
 induction p with
 | and a b eF fa=>
   intro ks h hp k hk;simp only[gO,bq]at hk;have vd:=hp;simp only[BE.ae,ao]at vd;rcases hk with rfl|hk
   . exact hp
   . exact eF (fa h vd.2) vd.1 k hk
 | _=>
   intro ks h hp k hk;simp only[gO,bq]at hk;rcases hk with rfl|hk
   . exact hp
   . exact h k hk
def zV:List (Int->Prop)->List (Int->Prop)->Prop
 | [],[]=>True
 |p::ps,q::qs=>(∀e,p e->q e)/\zV ps qs
 |_,_=>False
theorem zV.refl:∀ {ps:List (Int->Prop)},zV ps ps
 | []=>trivial
 |_::_=>⟨fun _ h=>h,zV.refl⟩
theorem zV.head{ps qs:List (Int->Prop)}(h:zV ps qs){e:Int}(hp:jd ps e):jd qs e:=by
 cases ps with
 |nil=>exact hp.elim
 | cons p ps=>cases qs with
   |nil=>exact h.elim
   |cons q qs=>exact h.1 e hp
theorem xZ{Γ:bO}{fl fl':Int->Prop}{e:Ev}{k k':az->Prop}{U:az}(hf:∀e,fl e->fl' e)(hk:∀U,k U->k' U)(h:e.holds (Γ.at fl) k U):e.holds (Γ.at fl') k' U:=by
 cases e with
 |dd p e=>exact⟨fun hp=>hk _ (h.1 hp),fun hp=>hf _ (h.2 hp)⟩
 |aG p=>exact⟨h.1,hk _ h.2⟩
 |call f g args res base=>exact Ev.iQ (Γ:=Γ.at fl) (e:=.call f g args res base) hk h
 |ch id op=>exact hk _ h
theorem LM{Γ:bO}{R:List DV->Prop}:∀ {t:aw} {U:az} {F:Nat->List DV->Prop} {Ps Qs:List (Int->Prop)},zV Ps Qs->t.holds Γ R Ps U F->t.holds Γ R Qs U F:=by
 intro t;induction t with
 |ret vs=>intro U F Ps Qs _ h;exact h
 |stuck s=>intro U F Ps Qs _ h;exact h
 |again id vs=>intro U F Ps Qs _ h;exact h
 |ev e t ih=>intro U F Ps Qs hl h;exact xZ (fun e he=>hl.head he) (fun U h=>ih hl h) h
 |ite c a b eF fa=>intro U F Ps Qs hl h;exact⟨fun hc=>eF hl (h.1 hc),fun hc=>fa hl (h.2 hc)⟩
 | loop id es kd base body ih=>
   intro U F Ps Qs hl h;obtain⟨inv,oc,h1,h2⟩:=h;exact⟨inv,oc,h1,fun ds hd hi=>ih hl (h2 ds hd hi)⟩
 |fail e=>intro U F Ps Qs hl h;exact hl.head h
 |ak5 x tp t zW ih=>intro U F Ps Qs hl h;exact ih (Ps:=_::Ps) (Qs:=_::Qs) ⟨fun e he=>zW hl he,hl⟩ h
 | pop t ih=>
   intro U F Ps Qs hl h;cases Ps with
   |nil=>exact h.elim
   | cons p ps=>cases Qs with
     |nil=>exact hl.elim
     |cons q qs=>exact ih hl.2 h
theorem DO{Γ:bO}{R:List DV->Prop}:∀ {t:aw} {ks:List BE} {U:az} {F:Nat->List DV->Prop} {Ps:List (Int->Prop)},(∀k∈ks,k.ae U=true)->(prune ks t).holds Γ R Ps U F->t.holds Γ R Ps U F:=by
 intro t;induction t with
 |ret vs=>intro ks U F Ps _ h;exact h
 |stuck s=>intro ks U F Ps _ h;exact h
 |again id vs=>intro ks U F Ps _ h;exact h
 | ev e t ih=>
   intro ks U F Ps hk h;cases e with
   | aG p=>
     simp only[prune]at h;split at h
     . rename_i Yo;exact⟨by rw[<- tW hk];exact AM hk Yo,ih hk h⟩
     . obtain⟨h1,h2⟩:=h;exact⟨by rw[<- tW hk];exact h1,ih (tX hk h1) h2⟩
   |call f g args res base=>exact Ev.iQ (e:=.call f g args res base) (fun _ h=>ih (ks:=[]) (fun k hk=>by simp at hk) h) h
   |ch id op=>exact ih (ks:=[]) (fun k hk=>by simp at hk) h
   |dd p e=>exact⟨fun hp=>ih (ks:=[]) (fun k hk=>by simp at hk) (h.1 hp),h.2⟩
 | ite c a b eF fa=>
   intro ks U F Ps hk h;refine⟨fun hc=>eF (tX hk hc) (h.1 hc),fun hc=>fa ?_ (h.2 hc)⟩
   intro k cO;rcases bq.1 cO with rfl|cO
   . rw[BE.cf];simp[BE.ae,hc]
   . exact hk k cO
 | loop id es kd base body ih=>
   intro ks U F Ps hk h;obtain⟨inv,oc,h1,h2⟩:=h;exact⟨inv,oc,h1,fun ds hd hi=>ih (fun k hk=>by simp at hk) (h2 ds hd hi)⟩
 |fail e=>intro ks U F Ps _ h;exact h
 | ak5 x tp t zW ih=>
   intro ks U F Ps hk h;have h2:t.holds Γ R ((fun n=>(prune [] tp).holds Γ R Ps (U.set x (.i n)) F)::Ps) U F:=ih hk h
   show t.holds Γ R ((fun n=>tp.holds Γ R Ps (U.set x (.i n)) F)::Ps) U F
   refine LM (Ps:=(fun n=>(prune [] tp).holds Γ R Ps (U.set x (.i n)) F)::Ps) ?_ h2
   exact⟨fun e he=>zW (fun k hk=>by simp at hk) he,zV.refl⟩
 | pop t ih=>
   intro ks U F Ps hk h;cases Ps with
   |nil=>exact h.elim
   |cons p ps=>exact ih hk h
variable {P:Program}
theorem wa{Γ:bO}{aJ:jo}{f:FuncId}{fn:Func}{c:Code}{fuel:Nat}{ct:cV}(hB:iS P aJ){Wd:World->Prop}(gP:∀w,Wd w->dQ P Γ aJ w)(hf:P.funcs[f]?=some fn)(hb:fn.body=some c)(hn:(fn.name == "runtime.NumGoroutine")=false)(nX:aJ.no=[])
   {T:aw} (hT:prune [] (qy P aJ f fn ct.sig fuel)=T) (h:∀ds,kinds (bD ct.sig.args) ds=true->ct.pre ds->T.holds Γ (ct.rel ds) [] (aM.ar 0 ds) (fun _ _=>False)):if ct.sig.cons=0 then eN P Wd f ct else ij P Wd f ct:=
 DN hB gP hf hb hn nX rfl fun ds hk hp=>DO (ks:=[]) (fun k hk=>by simp at hk) (by rw[hT];exact h ds hk hp)
end Go.Sx
namespace Go.Sx
variable {Γ:bO}{R:List DV->Prop}{Ps:List (Int->Prop)}{U:az}{F:Nat->List DV->Prop}{t t':aw}
end Go.Sx
namespace Go.Sx
open Go.RowKit
abbrev bA:=Nat->List DV->Option (List DV)
abbrev oe:=Nat->List DV->Option (List DV)
def Ev.run(C:bA)(e:Ev)(k:az->Option (List DV))(U:az):Option (List DV):=
 match e with
 |.aG p=>if p.ae U=true then k U else none
 |.call f g args res base=>if g.ae U=true then(match C f (args.map (DE.ae U))with
     |some rs=>k (U.ar base rs)
     |none=>none)else k (U.ar base (defs (bD res)))
 |.ch id op=>k (U.set id (.l (op.ae U)))
 |.dd _ _=>none
def iter(step:(List DV->Option (List DV))->List DV->Option (List DV)):Nat->List DV->Option (List DV)
 |0,_=>none
 |n+1,ds=>step (iter step n) ds
def zk(F:oe)(id:Nat)(G:List DV->Option (List DV)):oe:=fun j vs=>if j=id then G vs else F j vs
def aw.run(C:bA)(N:Nat):aw->List (Int->Option (List DV))->az->oe->Option (List DV)
 |.ret bJ,_,U,_=>some (bJ.map (DE.ae U))
 |.stuck _,_,_,_=>none
 |.ev e t,Ps,U,F=>e.run C (fun ak=>t.run C N Ps ak F) U
 |.ite c a b,Ps,U,F=>if c.ae U=true then a.run C N Ps U F else b.run C N Ps U F
 |.loop id entry _ base body,Ps,U,F=>iter (fun rec ds=>body.run C N Ps (U.ar base ds) (zk F id rec)) N (entry.map (DE.ae U))
 |.again id bJ,_,U,F=>F id (bJ.map (DE.ae U))
 | .fail e,Ps,U,_=>match Ps with
   |p::_=>p (e.ae U)
   | []=>none
 |.ak5 x tp t,Ps,U,F=>t.run C N ((fun n=>tp.run C N Ps (U.set x (.i n)) F)::Ps) U F
 | .pop t,Ps,U,F=>match Ps with
   |_::U'=>t.run C N U' U F
   | []=>none
def TB(r:List DV):List (Int->Option (List DV))->List (Int->Prop)->Prop
 | [],[]=>True
 |p::ps,q::qs=>(∀e,p e=some r->q e)/\TB r ps qs
 |_,_=>False
theorem Jt{Γ:bO}{C:bA}{N:Nat}{r:List DV}(hC:∀f ds rs,C f ds=some rs->∃c,Γ f=some c/\c.pre ds/\∀dW,c.rel ds dW->dW=rs) :
   ∀ {t:aw} {Ps:List (Int->Option (List DV))} {Qs:List (Int->Prop)} {U:az} {F:oe} {G:Nat->List DV->Prop},TB r Ps Qs->(∀j vs,F j vs=some r->G j vs)->t.run C N Ps U F=some r->t.holds Γ (fun rs=>rs=r) Qs U G:=by
 intro t;induction t with
 |ret vs=>intro Ps Qs U F G _ _ h;show _=r;simpa[aw.run]using h
 |stuck s=>intro Ps Qs U F G _ _ h;cases h
 | ev e t ih=>
   intro Ps Qs U F G hP hF h;cases e with
   | aG p=>
     simp only[aw.run,Ev.run]at h;split at h
     . rename_i hp;exact⟨hp,ih hP hF h⟩
     . cases h
   | call f g args res base=>
     simp only[aw.run,Ev.run]at h;split at h
     . rename_i hg;refine⟨fun _=>?_,fun hn=>(by rw[hg]at hn;cases hn)⟩
       split at h
       . rename_i rs rC;obtain⟨c,h1,h2,h3⟩:=hC f _ rs rC;exact⟨c,h1,h2,fun dW _ hr=>by rw[h3 dW hr];exact ih hP hF h⟩
       . cases h
     . rename_i hg;exact⟨fun hn=>absurd hn hg,fun _=>ih hP hF h⟩
   |ch id op=>exact ih hP hF h
   |dd p e=>cases h
 | ite c a b eF fa=>
   intro Ps Qs U F G hP hF h;simp only[aw.run]at h;split at h
   . rename_i hc;exact⟨fun _=>eF hP hF h,fun hn=>(by rw[hc]at hn;cases hn)⟩
   . rename_i hc;exact⟨fun hn=>absurd hn hc,fun _=>fa hP hF h⟩
 | loop id es kd base body ih=>
   intro Ps Qs U F G hP hF h;simp only[aw.run]at h;let step:(List DV->Option (List DV))->List DV->Option (List DV):=fun rec ds=>body.run C N Ps (U.ar base ds) (zk F id rec)
   classical
   have DR:∀ds,(∃n,iter step n ds=some r)->∃n,iter step n ds=some r/\∀m,iter step m ds=some r->n<=m:=by
     intro ds ⟨n,hn⟩;induction n using Nat.strongRecOn with
     | _ n Vk=>
       by_cases hx:∃m,m<n/\iter step m ds=some r
       . obtain⟨m,hm,jL⟩:=hx;exact Vk m hm jL
       . refine⟨n,hn,fun m hm=>?_⟩
         by_cases cQ:m<n
         . exact absurd ⟨m,cQ,hm⟩ hx
         . omega
   refine⟨fun ds=>∃n,iter step n ds=some r,fun ds=>if hx:∃n,iter step n ds=some r then(DR ds hx).choose else 0,⟨N,h⟩,fun ds _ hi=>?_⟩
   have Qn:=(DR ds hi).choose_spec;have hme:(if hx:∃n,iter step n ds=some r then(DR ds hx).choose else 0)=(DR ds hi).choose:=by rw[dif_pos hi]
   obtain⟨h1,h2⟩:=Qn;generalize hk:(DR ds hi).choose=k at h1 h2 hme;cases k with
   |zero=>cases h1
   | succ k=>
     refine ih (F:=zk F id (iter step k)) hP ?_ h1;intro j vs hj;unfold ox;unfold zk at hj;split
     . rename_i e;rw[if_pos e]at hj;refine⟨⟨k,hj⟩,?_⟩;have hx:∃n,iter step n vs=some r:=⟨k,hj⟩;simp only[hme,dif_pos hx];have:=(DR vs hx).choose_spec.2 k hj;omega
     . rename_i e;rw[if_neg e]at hj;exact hF j vs hj
 |again id vs=>intro Ps Qs U F G hP hF h;exact hF _ _ h
 | fail e=>
   intro Ps Qs U F G hP hF h;cases Ps with
   |nil=>cases h
   | cons p ps=>cases Qs with
     |nil=>exact hP.elim
     |cons q qs=>exact hP.1 _ h
 | ak5 x tp t zW ih=>
   intro Ps Qs U F G hP hF h;exact ih (Ps:=_::Ps) (Qs:=_::Qs) ⟨fun e he=>zW hP hF he,hP⟩ hF h
 | pop t ih=>
   intro Ps Qs U F G hP hF h;cases Ps with
   |nil=>cases h
   | cons p ps=>cases Qs with
     |nil=>exact hP.elim
     |cons q qs=>exact ih hP.2 hF h
def Rc(a b:Option (List DV)):Prop:=∀r,a=some r->b=some r
def tZ:List (Int->Option (List DV))->List (Int->Option (List DV))->Prop
 | [],[]=>True
 |p::ps,q::qs=>(∀e,Rc (p e) (q e))/\tZ ps qs
 |_,_=>False
theorem tZ.refl:∀ {ps:List (Int->Option (List DV))},tZ ps ps
 | []=>trivial
 |_::_=>⟨fun _ _ h=>h,tZ.refl⟩
theorem og{C C':bA}{N N':Nat}(hC:∀f ds,Rc (C f ds) (C' f ds))(hN:N<=N') :
   ∀ {t:aw} {Ps Qs:List (Int->Option (List DV))} {U:az} {F G:oe},tZ Ps Qs->(∀j vs,Rc (F j vs) (G j vs))->Rc (t.run C N Ps U F) (t.run C' N' Qs U G):=by
 intro t;induction t with
 |ret vs=>intro Ps Qs U F G _ _ r h;exact h
 |stuck s=>intro Ps Qs U F G _ _ r h;cases h
 | ev e t ih=>
   intro Ps Qs U F G hP hF r h;cases e with
   | aG p=>
     simp only[aw.run,Ev.run]at h ⊢;split at h
     . rename_i hp;rw[if_pos hp];exact ih hP hF r h
     . cases h
   | call f g args res base=>
     simp only[aw.run,Ev.run]at h ⊢;split at h
     . rename_i hg;rw[if_pos hg];split at h
       . rename_i rs rC;rw[hC _ _ _ rC];exact ih hP hF r h
       . cases h
     . rename_i hg;rw[if_neg hg];exact ih hP hF r h
   |ch id op=>exact ih hP hF r h
   |dd p e=>cases h
 | ite c a b eF fa=>
   intro Ps Qs U F G hP hF r h;simp only[aw.run]at h ⊢;split at h
   . rename_i hc;rw[if_pos hc];exact eF hP hF r h
   . rename_i hc;rw[if_neg hc];exact fa hP hF r h
 | loop id es kd base body ih=>
   intro Ps Qs U F G hP hF r h;simp only[aw.run]at h ⊢;have key:∀n n' ds,n<=n'->Rc (iter (fun rec ds=>body.run C N Ps (U.ar base ds) (zk F id rec)) n ds) (iter (fun rec ds=>body.run C' N' Qs (U.ar base ds) (zk G id rec)) n' ds):=by
     intro n;induction n with
     |zero=>intro n' ds _ r h;cases h
     | succ n Vk=>
       intro n' ds hn r h;cases n' with
       |zero=>omega
       | succ n'=>
         refine ih hP (fun j vs=>?_) r h
         unfold zk;split
         . exact Vk n' vs (by omega)
         . exact hF j vs
   exact key N N' _ hN r h
 |again id vs=>intro Ps Qs U F G hP hF r h;exact hF _ _ r h
 | fail e=>
   intro Ps Qs U F G hP hF r h;cases Ps with
   |nil=>cases h
   | cons p ps=>cases Qs with
     |nil=>exact hP.elim
     |cons q qs=>exact hP.1 _ r h
 | ak5 x tp t zW ih=>
   intro Ps Qs U F G hP hF r h;exact ih (Ps:=_::Ps) (Qs:=_::Qs) ⟨fun e=>zW hP hF,hP⟩ hF r h
 | pop t ih=>
   intro Ps Qs U F G hP hF r h;cases Ps with
   |nil=>cases h
   | cons p ps=>cases Qs with
     |nil=>exact hP.elim
     |cons q qs=>exact ih hP.2 hF r h
def aw.fW(E:Nat->List DV->List DV->Prop)(R:List DV->Prop):aw->List (Int->Prop)->az->(Nat->List DV->Prop)->Prop
 |.ret bJ,_,U,_=>R (bJ.map (DE.ae U))
 |.stuck _,_,_,_=>False
 |.ev (.aG p) t,Ps,U,F=>p.ae U=true/\t.fW E R Ps U F
 |.ev (.call f g args res base) t,Ps,U,F=>(g.ae U=true->∃rs,E f (args.map (DE.ae U)) rs/\t.fW E R Ps (U.ar base rs) F)/\(g.ae U=false->t.fW E R Ps (U.ar base (defs (bD res))) F)
 |.ev (.ch id op) t,Ps,U,F=>t.fW E R Ps (U.set id (.l (op.ae U))) F
 |.ev (.dd _ _) _,_,_,_=>False
 |.ite c a b,Ps,U,F=>(c.ae U=true->a.fW E R Ps U F)/\(c.ae U=false->b.fW E R Ps U F)
 |.loop id entry _ base body,Ps,U,F=>∃(inv:List DV->Prop) (oc:List DV->Nat),inv (entry.map (DE.ae U))/\
     ∀ds,inv ds->body.fW E R Ps (U.ar base ds) (ox F id (fun vs=>inv vs/\oc vs<oc ds))
 |.again id bJ,_,U,F=>F id (bJ.map (DE.ae U))
 |.fail e,Ps,U,_=>jd Ps (e.ae U)
 |.ak5 x tp t,Ps,U,F=>t.fW E R ((fun n=>tp.fW E R Ps (U.set x (.i n)) F)::Ps) U F
 | .pop t,Ps,U,F=>match Ps with
   |_::U'=>t.fW E R U' U F
   | []=>False
def LS(C:Nat->bA):Prop:=∀n m f ds,n<=m->Rc (C n f ds) (C m f ds)
def Vl(F:Nat->oe):Prop:=∀n m j vs,n<=m->Rc (F n j vs) (F m j vs)
def B3(P:Nat->List (Int->Option (List DV))):Prop:=∀n m,n<=m->tZ (P n) (P m)
def TC(R:List DV->Prop)(P:Nat->List (Int->Option (List DV))):List (Int->Prop)->Prop
 | []=>∀n,P n=[]
 |q::qs=>(∀n,P n≠[])/\(∀e,q e->∃n r,((P n).headD (fun _=>none)) e=some r/\R r)/\TC R (fun n=>(P n).tail) qs
theorem B3.tail{P:Nat->List (Int->Option (List DV))}(h:B3 P):B3 fun n=>(P n).tail:=by
 intro n m hn;have:=h n m hn;show tZ (P n).tail (P m).tail;cases h1:P n with
 | nil=>cases h2:P m with
   |nil=>trivial
   |cons q qs=>rw[h1,h2]at this;exact this.elim
 | cons p ps=>cases h2:P m with
   |nil=>rw[h1,h2]at this;exact this.elim
   |cons q qs=>rw[h1,h2]at this;exact this.2
theorem Rd{C:Nat->bA}{E:Nat->List DV->List DV->Prop}{R:List DV->Prop}(hC:LS C)(hE:∀f ds rs,E f ds rs->∃n,C n f ds=some rs) :
   ∀ {t:aw} {P:Nat->List (Int->Option (List DV))} {Qs:List (Int->Prop)} {U:az} {F:Nat->oe} {G:Nat->List DV->Prop},B3 P->Vl F->TC R P Qs->(∀j vs,G j vs->∃n r,F n j vs=some r/\R r)->
     t.fW E R Qs U G->∃n r,t.run (C n) n (P n) U (F n)=some r/\R r:=by
 intro t;induction t with
 |ret vs=>intro P Qs U F G _ _ _ _ h;exact⟨0,_,rfl,h⟩
 |stuck s=>intro P Qs U F G _ _ _ _ h;exact h.elim
 | ev e t ih=>
   intro P Qs U F G hP hF hQ hG h;cases e with
   | aG p=>
     obtain⟨n,r,h1,h2⟩:=ih hP hF hQ hG h.2;exact⟨n,r,by simp only[aw.run,Ev.run,if_pos h.1];exact h1,h2⟩
   | call f g args res base=>
     by_cases hg:g.ae U=true
     . obtain⟨rs,he,ht⟩:=h.1 hg;obtain⟨n1,fJ⟩:=hE _ _ _ he;obtain⟨n,r,h1,h2⟩:=ih hP hF hQ hG ht;refine⟨max n n1,r,?_,h2⟩;simp only[aw.run,Ev.run,if_pos hg,hC n1 (max n n1) _ _ (Nat.le_max_right ..) _ fJ];exact og (hC n _ · · (Nat.le_max_left ..)) (Nat.le_max_left ..) (hP _ _ (Nat.le_max_left ..)) (hF _ _ · · (Nat.le_max_left ..)) r h1
     . have Ak:g.ae U=false:=by simpa using hg
       obtain⟨n,r,h1,h2⟩:=ih hP hF hQ hG (h.2 Ak);exact⟨n,r,by simp only[aw.run,Ev.run,if_neg hg];exact h1,h2⟩
   |ch id op=>exact ih hP hF hQ hG h
   |dd p e=>exact h.elim
 | ite c a b eF fa=>
   intro P Qs U F G hP hF hQ hG h;by_cases hc:c.ae U=true
   . obtain⟨n,r,h1,h2⟩:=eF hP hF hQ hG (h.1 hc);exact⟨n,r,by simp only[aw.run,if_pos hc];exact h1,h2⟩
   . obtain⟨n,r,h1,h2⟩:=fa hP hF hQ hG (h.2 (by simpa using hc))
     exact⟨n,r,by simp only[aw.run,if_neg hc];exact h1,h2⟩
 | loop id es kd base body ih=>
   intro P Qs U F G hP hF hQ hG h;obtain⟨inv,oc,h0,hb⟩:=h;let lp:Nat->Nat->List DV->Option (List DV):=fun n=>iter (fun rec ds=>body.run (C n) n (P n) (U.ar base ds) (zk (F n) id rec))
   have mono:∀k n m ds,n<=m->∀k',k<=k'->Rc (lp n k ds) (lp m k' ds):=by
     intro k;induction k with
     |zero=>intro n m ds _ k' _ r h;cases h
     | succ k ihk=>
       intro n m ds hn k' hk r h;cases k' with
       |zero=>omega
       | succ k'=>
         refine og (hC n m · · hn) hn (hP n m hn) (fun j vs=>?_) r h
         unfold zk;split
         . exact ihk n m vs hn k' (by omega)
         . exact hF n m j vs hn
   have key:∀x ds,inv ds->oc ds=x->∃n r,lp n n ds=some r/\R r:=by
     intro x;induction x using Nat.strongRecOn with
     | _ x Kh=>
       intro ds hi hx;obtain⟨n,r,h1,h2⟩:=ih (F:=fun n=>zk (F n) id (lp n n)) hP (fun n m j vs hn=>by
         show Rc (zk (F n) id (lp n n) j vs) (zk (F m) id (lp m m) j vs);unfold zk;split
         . exact mono n n m vs hn m hn
         . exact hF n m j vs hn) hQ (fun j vs hj=>by
         unfold ox at hj;split at hj
         . rename_i e;subst e;obtain⟨n,r,h1,h2⟩:=Kh _ (by omega) vs hj.1 rfl
           exact⟨n,r,by simp only[zk,if_pos];exact h1,h2⟩
         . rename_i e;obtain⟨n,r,h1,h2⟩:=hG j vs hj;exact⟨n,r,by simp only[zk,if_neg e];exact h1,h2⟩) (hb ds hi)
       refine⟨n+1,r,?_,h2⟩;show body.run (C (n+1)) (n+1) (P (n+1)) (U.ar base ds) (zk (F (n+1)) id (lp (n+1) n))=some r;refine og (hC n (n+1) · · (by omega)) (by omega) (hP n (n+1) (by omega)) (fun j vs=>?_) r h1
       unfold zk;split
       . exact mono n n (n+1) vs (by omega) n (Nat.le_refl _)
       . exact hF n (n+1) j vs (by omega)
   obtain⟨n,r,h1,h2⟩:=key _ _ h0 rfl;exact⟨n,r,h1,h2⟩
 |again id vs=>intro P Qs U F G hP hF hQ hG h;exact hG _ _ h
 | fail e=>
   intro P Qs U F G hP hF hQ hG h;cases Qs with
   |nil=>exact h.elim
   | cons q qs=>
     obtain⟨n,r,h1,h2⟩:=hQ.2.1 _ h;refine⟨n,r,?_,h2⟩;simp only[aw.run];cases hp:P n with
     |nil=>exact absurd hp (hQ.1 n)
     |cons p ps=>rw[hp]at h1;exact h1
 | ak5 x tp t zW ih=>
   intro P Qs U F G hP hF hQ hG h;refine ih (P:=fun n=>(fun e=>tp.run (C n) n (P n) (U.set x (.i e)) (F n))::P n) (Qs:=_::Qs) ?_ hF ⟨fun n=>by simp,fun e he=>?_,hQ⟩ hG h
   . intro n m hn;exact⟨fun e=>og (hC n m · · hn) hn (hP n m hn) (hF n m · · hn),hP n m hn⟩
   . exact zW hP hF hQ hG he
 | pop t ih=>
   intro P Qs U F G hP hF hQ hG h;cases Qs with
   |nil=>exact h.elim
   | cons q qs=>
     obtain⟨n,r,h1,h2⟩:=ih (P:=fun n=>(P n).tail) hP.tail hF hQ.2.2 hG h
     refine⟨n,r,?_,h2⟩;simp only[aw.run];cases hp:P n with
     |nil=>exact absurd hp (hQ.1 n)
     |cons p ps=>rw[hp]at h1;exact h1
theorem Ju{Γ:bO}{R R':List DV->Prop}(hR:∀rs,R rs->R' rs):∀ {t:aw} {Ps:List (Int->Prop)} {U:az} {F:Nat->List DV->Prop},t.holds Γ R Ps U F->t.holds Γ R' Ps U F:=by
 have gen:∀ {t:aw} {Ps Qs:List (Int->Prop)} {U:az} {F:Nat->List DV->Prop},zV Ps Qs->t.holds Γ R Ps U F->t.holds Γ R' Qs U F:=by
   intro t;induction t with
   |ret vs=>intro Ps Qs U F _ h;exact hR _ h
   |stuck s=>intro Ps Qs U F _ h;exact h
   |again id vs=>intro Ps Qs U F _ h;exact h
   |ev e t ih=>intro Ps Qs U F hP h;exact xZ (fun e he=>hP.head he) (fun _ h=>ih hP h) h
   |ite c a b eF fa=>intro Ps Qs U F hP h;exact⟨fun hc=>eF hP (h.1 hc),fun hc=>fa hP (h.2 hc)⟩
   | loop id es kd base body ih=>
     intro Ps Qs U F hP h;obtain⟨inv,oc,h1,h2⟩:=h;exact⟨inv,oc,h1,fun ds hd hi=>ih hP (h2 ds hd hi)⟩
   |fail e=>intro Ps Qs U F hP h;exact hP.head h
   |ak5 x tp t zW ih=>intro Ps Qs U F hP h;exact ih (Ps:=_::Ps) (Qs:=_::Qs) ⟨fun e he=>zW hP he,hP⟩ h
   | pop t ih=>
     intro Ps Qs U F hP h;cases Ps with
     |nil=>exact h.elim
     | cons p ps=>cases Qs with
       |nil=>exact hP.elim
       |cons q qs=>exact ih hP.2 h
 intro t Ps U F h;exact gen zV.refl h
structure gR where
 f:FuncId
 tree:aw
 sub:List (FuncId×Nat)
def gR.key(e:gR)(g:FuncId):Nat:=match e.sub.find? (fun p=>p.1==g)with
 |some p=>p.2
 |none=>g
def ev(T:Nat->Option gR)(X:bA):Nat->bA
 |0,_,_=>none
 | n+1,k,ds=>match T k with
   |some e=>e.tree.run (fun g=>ev T X n (e.key g)) n [] (aM.ar 0 ds) (fun _ _=>none)
   |none=>X k ds
theorem lV{T:Nat->Option gR}{X:bA}:LS (ev T X):=by
 intro n;induction n with
 |zero=>intro m f ds _ r h;cases h
 | succ n ih=>
   intro m k ds hm r h;cases m with
   |zero=>omega
   | succ m=>
     simp only[ev]at h ⊢;split at h
     . exact og (fun g ds=>ih m _ ds (by omega)) (by omega) tZ.refl (fun _ _ _ h=>h) r h
     . exact h
def bK(T:Nat->Option gR)(X:bA)(k:Nat)(ds rs:List DV):Prop:=∃n,ev T X n k ds=some rs
theorem bK.AR{T:Nat->Option gR}{X:bA}{k:Nat}{ds rs dW:List DV}(h:bK T X k ds rs)(h':bK T X k ds dW):rs=dW:=by
 obtain⟨n,hn⟩:=h;obtain⟨m,hm⟩:=h';have a:=lV n (max n m) k ds (Nat.le_max_left ..) rs hn;have b:=lV m (max n m) k ds (Nat.le_max_right ..) dW hm;rw[a]at b;simpa using b
theorem yd{T:Nat->Option gR}{X:bA}{k:Nat}{e:gR}{ds:List DV}{R:List DV->Prop}(hk:T k=some e)(h:e.tree.fW (fun g=>bK T X (e.key g)) R [] (aM.ar 0 ds) (fun _ _=>False)):∃rs,bK T X k ds rs/\R rs:=by
 obtain⟨n,r,h1,h2⟩:=Rd (C:=fun n g=>ev T X n (e.key g)) (E:=fun g=>bK T X (e.key g)) (R:=R) (fun n m f ds hn=>lV n m _ ds hn) (fun f ds rs h=>h) (t:=e.tree) (P:=fun _=>[]) (Qs:=[]) (U:=aM.ar 0 ds) (F:=fun _ _ _=>none) (G:=fun _ _=>False)
   (fun _ _ _=>trivial) (fun _ _ _ _ _ _ h=>h) (fun _=>rfl) (fun _ _ h=>h.elim) h
 exact⟨r,⟨n+1,by simp only[ev,hk];exact h1⟩,h2⟩
theorem il{T:Nat->Option gR}{X:bA}{k:Nat}{ds rs:List DV}(hk:T k=none)(h:X k ds=some rs):bK T X k ds rs:=⟨1,by simp only[ev,hk];exact h⟩
variable {P:Program}
def mV(T:Nat->Option gR)(k:Nat):FuncId:=match T k with
 |some e=>e.f
 |none=>k
def sB(T:Nat->Option gR)(Xd:Nat->Bool)(k:Nat):Bool:=(T k).isSome||Xd k
def Has(P:Program)(Wd:World->Prop)(f:FuncId)(c:cV):Prop:=if c.sig.cons=0 then eN P Wd f c\/rK P f c else ij P Wd f c
def Re:CT->DE->Bool
 |.s _ _,.rows _=>true
 |.s _ _,.sU _=>true
 |c,d=>qx c d
def AS:List CT->List DE->Bool
 | [],[]=>true
 |c::cs,d::ds=>Re c d&&AS cs ds
 |_,_=>false
def aw.lG(ks:List CT):aw->Bool
 |.ret bJ=>AS ks bJ
 |.ev _ t=>t.lG ks
 |.ite _ a b=>a.lG ks&&b.lG ks
 |.loop _ _ _ _ t=>t.lG ks
 |.ak5 _ a b=>a.lG ks&&b.lG ks
 |.pop t=>t.lG ks
 |_=>true
theorem Jv{U:az}:∀ {ks:List CT} {ds:List DE},AS ks ds=true->kinds ks (ds.map (DE.ae U))=true:=by
 intro ks;induction ks with
 |nil=>intro ds h;cases ds<;>simp_all[AS,kinds]
 | cons c ks ih=>intro ds h;cases ds with
   |nil=>simp[AS]at h
   | cons d ds=>
     simp only[AS,ao]at h;simp only[List.map_cons,kinds,ih h.2,Bool.and_true];have:=h.1;cases c with
     |c k=>cases k<;>cases d<;>simp_all[Re,qx,DE.ae,DV.kind]
     |s e ks=>cases d<;>simp_all[Re,qx,DE.ae,DV.kind]
     |n e aK=>cases d<;>simp_all[Re,qx,DE.ae,DV.kind]
theorem Jw{C:bA}{N:Nat}{ks:List CT}:∀ {t:aw} {Ps:List (Int->Option (List DV))} {U:az} {F:oe} {r:List DV},t.lG ks=true->(∀p∈Ps,∀e r,p e=some r->kinds ks r=true)->(∀j vs r,F j vs=some r->kinds ks r=true)->t.run C N Ps U F=some r->kinds ks r=true:=by
 intro t;induction t with
 |ret vs=>intro Ps U F r ht _ _ h;simp only[aw.run,af]at h;subst h;exact Jv ht
 |stuck s=>intro Ps U F r _ _ _ h;cases h
 | ev e t ih=>
   intro Ps U F r ht hP hF h;have ht:t.lG ks=true:=ht;cases e with
   | aG p=>
     simp only[aw.run,Ev.run]at h;split at h
     . exact ih ht hP hF h
     . cases h
   | call f g args res base=>
     simp only[aw.run,Ev.run]at h;split at h
     . split at h
       . exact ih ht hP hF h
       . cases h
     . exact ih ht hP hF h
   |ch id op=>exact ih ht hP hF h
   |dd p e=>cases h
 | ite c a b eF fa=>
   intro Ps U F r ht hP hF h;simp only[aw.lG,ao]at ht;simp only[aw.run]at h;split at h
   . exact eF ht.1 hP hF h
   . exact fa ht.2 hP hF h
 | loop id es kd base body ih=>
   intro Ps U F r ht hP hF h;have ht:body.lG ks=true:=ht;simp only[aw.run]at h;have key:∀n ds r,iter (fun rec ds=>body.run C N Ps (U.ar base ds) (zk F id rec)) n ds=some r->kinds ks r=true:=by
     intro n;induction n with
     |zero=>intro ds r h;cases h
     | succ n Vk=>
       intro ds r h;refine ih ht hP (fun j vs r hj=>?_) h
       unfold zk at hj;split at hj
       . exact Vk vs r hj
       . exact hF j vs r hj
   exact key N _ r h
 |again id vs=>intro Ps U F r _ _ hF h;exact hF _ _ _ h
 | fail e=>
   intro Ps U F r _ hP _ h;cases Ps with
   |nil=>cases h
   |cons p ps=>exact hP p (aO ..) _ _ h
 | ak5 x tp t zW ih=>
   intro Ps U F r ht hP hF h;simp only[aw.lG,ao]at ht;refine ih (Ps:=_::Ps) ht.2 (fun p hp e r he=>?_) hF h
   rcases bq.1 hp with rfl|hp
   . exact zW ht.1 hP hF he
   . exact hP p hp e r he
 | pop t ih=>
   intro Ps U F r ht hP hF h;have ht:t.lG ks=true:=ht;cases Ps with
   |nil=>cases h
   |cons p ps=>exact ih ht (fun q hq=>hP q (bp _ hq)) hF h
def TD(P:Program)(Wd:World->Prop)(T:Nat->Option gR)(Xd:Nat->Bool)(sg:Nat->Option bN)(k:Nat)(e:gR):Prop:=
 ∃aJ fn c fuel s,(aJ.no=[]/\e.tree.lG (bD s.res)=true)/\sg k=some s/\iS P aJ/\(∀g s',aJ.sig g=some s'->sg (e.key g)=some s'/\mV T (e.key g)=g)/\(∀g,sB T Xd (e.key g)=true->(aJ.sig g).isSome=true)/\
   P.funcs[e.f]?=some fn/\fn.body=some c/\(fn.name == "runtime.NumGoroutine")=false/\prune [] (qy P aJ e.f fn s fuel)=e.tree/\
   (∀w,Wd w->∀g cs,(g,cs)∈aJ.vM->∃T z,w.heap[g]?=some (.cells (cs.map fun n=>Value.int .i64 n).toArray T z))
structure yh(P:Program)(Wd:World->Prop)(T:Nat->Option gR)(X:bA)(Xd:Nat->Bool)(sg:Nat->Option bN):Prop where
 stays:∀w w',Wd w->Below w.heap.size w w'->Wd w'
 Z0:∀k e,T k=some e->TD P Wd T Xd sg k e
 Z1:∀k s,T k=none->sg k=some s->∀ds rs,X k ds=some rs->kinds (bD s.res) rs=true
 ext:∀k s,T k=none->Xd k=true->sg k=some s->Has P Wd k ⟨s,fun ds=>∃rs,kinds (bD s.res) rs=true/\X k ds=some rs,fun ds rs=>X k ds=some rs,fun _ h=>h⟩
 non:∀k ds,Xd k=false->X k ds=none
theorem ij.weaken{Wd:World->Prop}{f:FuncId}{c c':cV}(h:ij P Wd f c)(hs:c'.sig=c.sig)(hp:∀ds,c'.pre ds->c.pre ds)(hr:∀ds rs,c'.pre ds->c.rel ds rs->c'.rel ds rs):ij P Wd f c':=by
 obtain⟨s,pre,rel,ne⟩:=c;obtain⟨s',B4,DS,ne'⟩:=c';simp only at hs;subst hs;exact⟨h.1,fun w B fk ds hw ha hd=>(h.2 w B fk ds hw ha (hp ds hd)).mono fun e w' he=>by
   obtain⟨bP,fH,e1,e2,e3,e4,e5,e6⟩:=he;exact⟨bP,fH,e1,e2,e3,e4,e5,hr _ _ hd e6⟩⟩
theorem eN.weaken{Wd:World->Prop}{f:FuncId}{c c':cV}(h:eN P Wd f c)(hs:c'.sig=c.sig)(hp:∀ds,c'.pre ds->c.pre ds)(hr:∀ds rs,c'.pre ds->c.rel ds rs->c'.rel ds rs):eN P Wd f c':=by
 obtain⟨s,pre,rel,ne⟩:=c;obtain⟨s',B4,DS,ne'⟩:=c';simp only at hs;subst hs;exact⟨h.1,fun w vs ds hw ha hd=>(h.2 w vs ds hw ha (hp ds hd)).mono fun e w' he=>by
   obtain⟨bP,fH,e1,e2,e3,e4,e5⟩:=he;exact⟨bP,fH,e1,e2,e3,e4,hr _ _ hd e5⟩⟩
theorem rK.weaken{f:FuncId}{c c':cV}(h:rK P f c)(hs:c'.sig=c.sig)(hp:∀ds,c'.pre ds->c.pre ds)(hr:∀ds rs,c'.pre ds->c.rel ds rs->c'.rel ds rs):rK P f c':=by
 obtain⟨s,pre,rel,ne⟩:=c;obtain⟨s',B4,DS,ne'⟩:=c';simp only at hs;subst hs;exact fun w vs ds ha hd=>by
   obtain⟨bP,fH,e1,e2,e3,e4⟩:=h w vs ds ha (hp ds hd);exact⟨bP,fH,e1,e2,e3,hr _ _ hd e4⟩
theorem Has.weaken{Wd:World->Prop}{f:FuncId}{c c':cV}(h:Has P Wd f c)(hs:c'.sig=c.sig)(hp:∀ds,c'.pre ds->c.pre ds)(hr:∀ds rs,c'.pre ds->c.rel ds rs->c'.rel ds rs):Has P Wd f c':=by
 unfold Has at h ⊢;rw[hs];split at h
 . rename_i hc;rw[if_pos hc];exact h.imp (fun a=>a.weaken hs hp hr) (fun a=>a.weaken hs hp hr)
 . rename_i hc;rw[if_neg hc];exact h.weaken hs hp hr
theorem LU{Wd:World->Prop}{f:FuncId}{c:cV}(h:if c.sig.cons=0 then eN P Wd f c else ij P Wd f c):Has P Wd f c:=by
 unfold Has;split at h
 . rename_i hc;rw[if_pos hc];exact .inl h
 . rename_i hc;rw[if_neg hc];exact h
theorem Has.known{Wd:World->Prop}{f:FuncId}{c:cV}{w0:World}(h:Has P Wd f c)(hw:∀w,Below w0.heap.size w0 w->Wd w):if c.sig.cons=0 then oW P w0 f c\/rK P f c else ij P (Below w0.heap.size w0) f c:=by
 unfold Has at h;split at h
 . rename_i hc;rw[if_pos hc];exact h.imp (fun a=>a.at hw) (fun a=>a)
 . rename_i hc;rw[if_neg hc];exact⟨h.1,fun w B fk ds hb ha hp=>h.2 w B fk ds (hw w hb) ha hp⟩
abbrev evC(T:Nat->Option gR)(X:bA)(n k:Nat)(s:bN):cV:=⟨s,fun ds=>∃rs,kinds (bD s.res) rs=true/\ev T X n k ds=some rs,fun ds rs=>ev T X n k ds=some rs,fun _ h=>h⟩
theorem qL{Wd:World->Prop}{T:Nat->Option gR}{X:bA}{Xd:Nat->Bool}{sg:Nat->Option bN}(h:yh P Wd T X Xd sg){n k:Nat}{s:bN}{ds rs:List DV}(hs:sg k=some s)(hr:ev T X n k ds=some rs):kinds (bD s.res) rs=true:=by
 cases n with
 |zero=>cases hr
 | succ n=>
   simp only[ev]at hr;cases hT:T k with
   |none=>rw[hT]at hr;exact h.Z1 k s hT hs ds rs hr
   | some e=>
     rw[hT]at hr;obtain⟨aJ,fn,c,fuel,s',h0,h1,_⟩:=h.Z0 k e hT;rw[hs,af]at h1;subst h1;exact Jw h0.2 (fun p hp=>by simp at hp) (fun j vs r hj=>by cases hj) hr
theorem LV{Wd:World->Prop}{T:Nat->Option gR}{X:bA}{Xd:Nat->Bool}{sg:Nat->Option bN}(h:yh P Wd T X Xd sg) :
   ∀n k s,sg k=some s->sB T Xd k=true->Has P Wd (mV T k) (evC T X n k s):=by
 intro n;induction n with
 | zero=>
   intro k s hs hd;cases hT:T k with
   | none=>
     have hx:Xd k=true:=by simpa[sB,hT]using hd
     have hf:mV T k=k:=by simp[mV,hT]
     rw[hf];refine(h.ext k s hT hx hs).weaken rfl (fun ds hp=>?_) (fun ds rs hp _=>?_)<;>(obtain⟨rs,_,rC⟩:=hp;cases rC)
   | some e=>
     obtain⟨aJ,fn,c,fuel,s',h0,h1,h2,_,_,h5,h6,h7,h8,h9⟩:=h.Z0 k e hT;rw[hs,af]at h1;subst h1;have hf:mV T k=e.f:=by simp[mV,hT]
     rw[hf];refine LU (wa (Γ:=⟨fun _=>none,fun _=>False⟩) h2 (fun w hw=>⟨fun f c hc=>(by cases hc),h9 w hw⟩) h5 h6 h7 h0.1 h8 fun ds hk hp=>?_)
     obtain⟨rs,_,rC⟩:=hp;cases rC
 | succ n ih=>
   intro k s hs hd;cases hT:T k with
   | none=>
     have hx:Xd k=true:=by simpa[sB,hT]using hd
     have hf:mV T k=k:=by simp[mV,hT]
     rw[hf];refine(h.ext k s hT hx hs).weaken rfl (fun ds hp=>?_) (fun ds rs hp hr=>?_)<;>simp only[ev,hT]at * <;>assumption
   | some e=>
     obtain⟨aJ,fn,c,fuel,s',h0,h1,h2,h3,h4,h5,h6,h7,h8,h9⟩:=h.Z0 k e hT;rw[hs,af]at h1;subst h1;have hf:mV T k=e.f:=by simp[mV,hT]
     rw[hf];let Γ:bO:=⟨fun g=>match aJ.sig g with
       |some s'=>if sB T Xd (e.key g)=true then some (evC T X n (e.key g) s')else none
       |none=>none,fun _=>False⟩
     have gP:∀w,Wd w->dQ P Γ aJ w:=by
       refine fun w hw=>⟨fun g c hc=>?_,h9 w hw⟩
       simp only[Γ]at hc;split at hc
       . rename_i s' iP;split at hc
         . rename_i hdg;simp only[af]at hc;subst hc;obtain⟨g1,g2⟩:=h3 g s' iP;have:=ih (e.key g) s' g1 hdg;rw[g2]at this;exact⟨this.known fun w' hb=>h.stays w w' hw hb,iP⟩
         . cases hc
       . cases hc
     refine LU (wa (Γ:=Γ) h2 gP h5 h6 h7 h0.1 h8 fun ds hk hp=>?_)
     obtain⟨r,_,hr⟩:=hp;have cF:=hr;simp only[ev,hT]at hr;have:=Jt (Γ:=Γ) (C:=fun g=>ev T X n (e.key g)) (N:=n) (r:=r) (fun g ds rs hg=>by
       have hdg:sB T Xd (e.key g)=true:=by
         unfold sB;cases hTg:T (e.key g)with
         |some _=>rfl
         | none=>
           cases n with
           |zero=>cases hg
           | succ n=>
             simp only[ev,hTg]at hg;cases hx:Xd (e.key g)with
             |true=>rfl
             |false=>rw[h.non _ _ hx]at hg;cases hg
       obtain⟨s',iP⟩:=Option.isSome_iff_exists.1 (h4 g hdg);refine⟨evC T X n (e.key g) s',by simp only[Γ,iP,hdg,if_true],⟨rs,qL h (h3 g s' iP).1 hg,hg⟩,fun dW cF=>?_⟩
       have cF:ev T X n (e.key g) ds=some dW:=cF;rw[hg]at cF;simpa using cF.symm) (Ps:=[]) (Qs:=[]) (G:=fun _ _=>False) trivial (fun j vs hj=>by cases hj) hr
     refine Ju (fun rs rC=>?_) this
     subst rC;exact cF
theorem ua{Wd:World->Prop}{T:Nat->Option gR}{X:bA}{Xd:Nat->Bool}{sg:Nat->Option bN}(h:yh P Wd T X Xd sg){k:Nat}{e:gR}{ct:cV}(hT:T k=some e)(hs:sg k=some ct.sig)(uB:ct.sig.cons=0)(hp:∀ds,kinds (bD ct.sig.args) ds=true->ct.pre ds->∃rs,bK T X k ds rs/\ct.rel ds rs) :
   eN P Wd e.f ct:=by
 have hd:sB T Xd k=true:=by simp[sB,hT]
 have hf:mV T k=e.f:=by simp[mV,hT]
 obtain⟨aJ,fn,c,fuel,s',h0,h1,h2,h3,h4,h5,h6,h7,h8,h9⟩:=h.Z0 k e hT;refine⟨dx h5 h6 h7,fun w vs ds ZV ha zI=>?_⟩
 have hk:kinds (bD ct.sig.args) ds=true:=by obtain⟨_,_,hf⟩:=ha;exact ie hf
 obtain⟨rs,⟨n,hn⟩,hr⟩:=hp ds hk zI;have hc:=LV h n k ct.sig hs hd;rw[hf]at hc;unfold Has at hc;rw[if_pos uB]at hc;rcases hc with hc|hc
 . refine(hc.2 w vs ds ZV ha ⟨rs,qL h hs hn,hn⟩).mono fun ex w' he=>?_
   obtain⟨bP,fH,e1,e2,e3,e4,e5⟩:=he;have e5:ev T X n k ds=some fH:=e5;rw[hn,af]at e5;subst e5;exact⟨bP,rs,e1,e2,e3,e4,hr⟩
 . obtain⟨bP,fH,e1,_,_,_⟩:=hc w vs ds ha ⟨rs,qL h hs hn,hn⟩;have:=(dx h5 h6 h7) w vs.toArray;rw[this]at e1;cases e1
end Go.Sx
namespace Go.Sx
def lH(T:Nat->Option gR)(X:bA)(k:Nat)(pre:List DV->Prop)(rel:List DV->List DV->Prop):Prop:=∀ds,pre ds->∃rs,bK T X k ds rs/\rel ds rs
theorem lH.weaken{T:Nat->Option gR}{X:bA}{k:Nat}{pre B4:List DV->Prop}{rel DS:List DV->List DV->Prop}(h:lH T X k pre rel)(hp:∀ds,B4 ds->pre ds)(hr:∀ds rs,B4 ds->rel ds rs->DS ds rs):lH T X k B4 DS:=
 fun ds hd=>let⟨rs,h1,h2⟩:=h ds (hp ds hd);⟨rs,h1,hr ds rs hd h2⟩
theorem lH.and{T:Nat->Option gR}{X:bA}{k:Nat}{pre B4:List DV->Prop}{rel DS:List DV->List DV->Prop}(h:lH T X k pre rel)(h':lH T X k B4 DS):lH T X k (fun ds=>pre ds/\B4 ds) (fun ds rs=>rel ds rs/\DS ds rs):=
 fun ds hd=>by
   obtain⟨rs,h1,h2⟩:=h ds hd.1;obtain⟨dW,EF,UQ⟩:=h' ds hd.2;cases h1.AR EF;exact⟨rs,h1,h2,UQ⟩
theorem kS{T:Nat->Option gR}{X:bA}{k:Nat}{f:FuncId}{tr:aw}{sub:List (FuncId×Nat)}{pre:List DV->Prop}{rel:List DV->List DV->Prop}(hk:T k=some ⟨f,tr,sub⟩)
   (h:∀ds,pre ds->tr.fW (fun g=>bK T X ((gR.mk f tr sub).key g)) (rel ds) [] (aM.ar 0 ds) (fun _ _=>False)):lH T X k pre rel:=fun ds hd=>yd hk (h ds hd)
variable {E:Nat->List DV->List DV->Prop}{R:List DV->Prop}{Ps:List (Int->Prop)}{U:az}{F:Nat->List DV->Prop}{t t':aw}
theorem iA{p:BE}(h:p.ae U=true)(ht:t.fW E R Ps U F):(aw.ev (.aG p) t).fW E R Ps U F:=⟨h,ht⟩
theorem ak0{id:Nat}{op:cZ}(ht:t.fW E R Ps (U.set id (.l (op.ae U))) F):(aw.ev (.ch id op) t).fW E R Ps U F:=ht
theorem gT{id:Nat}{op:cZ}{M:List (List Int)}(e:op.ae U=M)(ht:t.fW E R Ps (U.set id (.l M)) F):(aw.ev (.ch id op) t).fW E R Ps U F:=by subst e;exact ht
theorem iB{f:FuncId}{args:List DE}{res:List VT}{base:Nat}{pre:List DV->Prop}{rel:List DV->List DV->Prop}(hc:∀ds,pre ds->∃rs,E f ds rs/\rel ds rs)(hp:pre (args.map (DE.ae U)))
   (ht:∀rs,E f (args.map (DE.ae U)) rs->rel (args.map (DE.ae U)) rs->t.fW E R Ps (U.ar base rs) F):(aw.ev (.call f (.c true) args res base) t).fW E R Ps U F:=
 ⟨fun _=>let⟨rs,h1,h2⟩:=hc _ hp;⟨rs,h1,ht rs h1 h2⟩,fun h=>by simp[BE.ae]at h⟩
theorem Rf{f:FuncId}{g:BE}{args:List DE}{res:List VT}{base:Nat}{pre:List DV->Prop}{rel:List DV->List DV->Prop}(hc:∀ds,pre ds->∃rs,E f ds rs/\rel ds rs)(hp:g.ae U=true->pre (args.map (DE.ae U)))
   (ht:g.ae U=true->∀rs,E f (args.map (DE.ae U)) rs->rel (args.map (DE.ae U)) rs->t.fW E R Ps (U.ar base rs) F) (hn:g.ae U=false->t.fW E R Ps (U.ar base (defs (bD res))) F):(aw.ev (.call f g args res base) t).fW E R Ps U F:=
 ⟨fun hg=>let⟨rs,h1,h2⟩:=hc _ (hp hg);⟨rs,h1,ht hg rs h1 h2⟩,hn⟩
theorem akQ{f:FuncId}{g:BE}{args:List DE}{res:List VT}{base:Nat}{pre:List DV->Prop}{rel:List DV->List DV->Prop}(hc:∀ds,pre ds->∃rs,E f ds rs/\rel ds rs)(hg:g.ae U=true)(hp:pre (args.map (DE.ae U)))
   (ht:∀rs,E f (args.map (DE.ae U)) rs->rel (args.map (DE.ae U)) rs->t.fW E R Ps (U.ar base rs) F):(aw.ev (.call f g args res base) t).fW E R Ps U F:=
 Rf hc (fun _=>hp) (fun _=>ht) (fun h=>by rw[hg]at h;cases h)
theorem akR{f:FuncId}{g:BE}{args:List DE}{res:List VT}{base:Nat}(hg:g.ae U=false)(ht:t.fW E R Ps (U.ar base (defs (bD res))) F):(aw.ev (.call f g args res base) t).fW E R Ps U F:=
 ⟨fun h=>(by rw[hg]at h;cases h),fun _=>ht⟩
theorem ld{c:BE}(h1:c.ae U=true->t.fW E R Ps U F)(h2:c.ae U=false->t'.fW E R Ps U F):(aw.ite c t t').fW E R Ps U F:=⟨h1,h2⟩
theorem my{id:Nat}{entry:List DE}{ks:List CT}{base:Nat}{body:aw}(inv:List DV->Prop)(oc:List DV->Nat)(h0:inv (entry.map (DE.ae U)))
   (hb:∀ds,inv ds->body.fW E R Ps (U.ar base ds) (ox F id (fun vs=>inv vs/\oc vs<oc ds))):(aw.loop id entry ks base body).fW E R Ps U F:=⟨inv,oc,h0,hb⟩
theorem ko{id:Nat}{bJ:List DE}{G:List DV->Prop}(h:G (bJ.map (DE.ae U))):(aw.again id bJ).fW E R Ps U (ox F id G):=by
 simpa[aw.fW,ox]using h
theorem LW{bJ:List DE}(h:R (bJ.map (DE.ae U))):(aw.ret bJ).fW E R Ps U F:=h
theorem akV{e:IE}{p:Int->Prop}(h:p (e.ae U)):(aw.fail e).fW E R (p::Ps) U F:=h
theorem akS{x:Nat}(h:t'.fW E R ((fun n=>t.fW E R Ps (U.set x (.i n)) F)::Ps) U F):(aw.ak5 x t t').fW E R Ps U F:=h
theorem ak1{p:Int->Prop}(h:t.fW E R Ps U F):(aw.pop t).fW E R (p::Ps) U F:=h
end Go.Sx
namespace Go.Sx
def aw.par(E:Nat->List DV->List DV->Prop)(R:List DV->Prop):aw->List (Int->Prop)->az->(Nat->List DV->Prop)->Prop
 |.ret bJ,_,U,_=>R (bJ.map (DE.ae U))
 |.stuck _,_,_,_=>True
 |.ev (.aG p) t,Ps,U,F=>p.ae U=true->t.par E R Ps U F
 |.ev (.call f g args res base) t,Ps,U,F=>(g.ae U=true->∀rs,E f (args.map (DE.ae U)) rs->t.par E R Ps (U.ar base rs) F)/\(g.ae U=false->t.par E R Ps (U.ar base (defs (bD res))) F)
 |.ev (.ch id op) t,Ps,U,F=>t.par E R Ps (U.set id (.l (op.ae U))) F
 |.ev (.dd _ _) _,_,_,_=>True
 |.ite c a b,Ps,U,F=>(c.ae U=true->a.par E R Ps U F)/\(c.ae U=false->b.par E R Ps U F)
 |.loop id entry _ base body,Ps,U,F=>∃inv:List DV->Prop,inv (entry.map (DE.ae U))/\∀ds,inv ds->body.par E R Ps (U.ar base ds) (ox F id inv)
 |.again id bJ,_,U,F=>F id (bJ.map (DE.ae U))
 |.fail e,Ps,U,_=>jd Ps (e.ae U)
 |.ak5 x tp t,Ps,U,F=>t.par E R ((fun n=>tp.par E R Ps (U.set x (.i n)) F)::Ps) U F
 |.pop t,Ps,U,F=>t.par E R Ps.tail U F
def TL(R:List DV->Prop):List (Int->Option (List DV))->List (Int->Prop)->Prop
 | [],_=>True
 |p::ps,q::qs=>(∀e,q e->∀r,p e=some r->R r)/\TL R ps qs
 |_::_,[]=>False
theorem Rz{C:bA}{N:Nat}{E:Nat->List DV->List DV->Prop}{R:List DV->Prop}(hC:∀f ds rs,C f ds=some rs->E f ds rs) :
   ∀ {t:aw} {Ps:List (Int->Option (List DV))} {Qs:List (Int->Prop)} {U:az} {F:oe} {G:Nat->List DV->Prop},TL R Ps Qs->(∀j vs,G j vs->∀r,F j vs=some r->R r)->t.par E R Qs U G->∀r,t.run C N Ps U F=some r->R r:=by
 intro t;induction t with
 |ret bJ=>intro Ps Qs U F G _ _ h r e;cases e;exact h
 |stuck s=>intro Ps Qs U F G _ _ h r e;cases e
 | ev e t ih=>
   intro Ps Qs U F G hP hF h r er;cases e with
   | aG p=>
     simp only[aw.run,Ev.run]at er;split at er
     . rename_i hp;exact ih hP hF (h hp) r er
     . cases er
   | call f g args res base=>
     simp only[aw.run,Ev.run]at er;split at er
     . rename_i hg;split at er
       . rename_i rs rC;exact ih hP hF (h.1 hg rs (hC _ _ _ rC)) r er
       . cases er
     . rename_i hg;exact ih hP hF (h.2 (by simpa using hg)) r er
   |ch id op=>exact ih hP hF h r er
   |dd p e=>cases er
 | ite c a b eF fa=>
   intro Ps Qs U F G hP hF h r er;simp only[aw.run]at er;split at er
   . rename_i hc;exact eF hP hF (h.1 hc) r er
   . rename_i hc;exact fa hP hF (h.2 (by simpa using hc)) r er
 | loop id es kd base body ih=>
   intro Ps Qs U F G hP hF h r er;obtain⟨inv,h0,hb⟩:=h;simp only[aw.run]at er;have key:∀n ds,inv ds->∀r,iter (fun rec ds=>body.run C N Ps (U.ar base ds) (zk F id rec)) n ds=some r->R r:=by
     intro n;induction n with
     |zero=>intro ds _ r e;cases e
     | succ n Vk=>
       intro ds hi r e;refine ih hP (fun j vs hj r hr=>?_) (hb ds hi) r e
       unfold ox at hj;unfold zk at hr;split at hj
       . rename_i e;rw[if_pos e]at hr;exact Vk vs hj r hr
       . rename_i e;rw[if_neg e]at hr;exact hF j vs hj r hr
   exact key N _ h0 r er
 |again id vs=>intro Ps Qs U F G hP hF h r er;exact hF _ _ h r er
 | fail e=>
   intro Ps Qs U F G hP hF h r er;cases Ps with
   |nil=>cases er
   | cons p ps=>cases Qs with
     |nil=>exact hP.elim
     |cons q qs=>exact hP.1 _ h r er
 | ak5 x tp t zW ih=>
   intro Ps Qs U F G hP hF h r er;exact ih (Ps:=_::Ps) (Qs:=_::Qs) ⟨fun e he r hr=>zW hP hF he r hr,hP⟩ hF h r er
 | pop t ih=>
   intro Ps Qs U F G hP hF h r er;cases Ps with
   |nil=>cases er
   | cons p ps=>cases Qs with
     |nil=>exact hP.elim
     |cons q qs=>exact ih hP.2 hF h r er
theorem A1{T:Nat->Option gR}{X:bA}{k:Nat}{e:gR}{ds rs:List DV}{R:List DV->Prop}(hk:T k=some e)(h:e.tree.par (fun g=>bK T X (e.key g)) R [] (aM.ar 0 ds) (fun _ _=>True))(hg:bK T X k ds rs):R rs:=by
 obtain⟨n,hn⟩:=hg;cases n with
 |zero=>cases hn
 | succ n=>
   simp only[ev,hk]at hn;exact Rz (E:=fun g=>bK T X (e.key g)) (Ps:=[]) (Qs:=[]) (G:=fun _ _=>True) (fun f ds rs hf=>⟨n,hf⟩) trivial (fun j vs _ r hr=>by cases hr) h rs hn
variable {E:Nat->List DV->List DV->Prop}{R:List DV->Prop}{Ps:List (Int->Prop)}{U:az}{F:Nat->List DV->Prop}{t t':aw}
theorem akW{p:BE}(ht:p.ae U=true->t.par E R Ps U F):(aw.ev (.aG p) t).par E R Ps U F:=ht
theorem ak3{id:Nat}{op:cZ}(ht:t.par E R Ps (U.set id (.l (op.ae U))) F):(aw.ev (.ch id op) t).par E R Ps U F:=ht
theorem akX{id:Nat}{op:cZ}{M:List (List Int)}(e:op.ae U=M)(ht:t.par E R Ps (U.set id (.l M)) F):(aw.ev (.ch id op) t).par E R Ps U F:=by subst e;exact ht
theorem Mv{f:FuncId}{args:List DE}{res:List VT}{base:Nat}(ht:∀rs,E f (args.map (DE.ae U)) rs->t.par E R Ps (U.ar base rs) F):(aw.ev (.call f (.c true) args res base) t).par E R Ps U F:=
 ⟨fun _=>ht,fun h=>by simp[BE.ae]at h⟩
theorem RA{f:FuncId}{g:BE}{args:List DE}{res:List VT}{base:Nat}(ht:g.ae U=true->∀rs,E f (args.map (DE.ae U)) rs->t.par E R Ps (U.ar base rs) F)(hn:g.ae U=false->t.par E R Ps (U.ar base (defs (bD res))) F):(aw.ev (.call f g args res base) t).par E R Ps U F:=⟨ht,hn⟩
theorem Mw{c:BE}(h1:c.ae U=true->t.par E R Ps U F)(h2:c.ae U=false->t'.par E R Ps U F):(aw.ite c t t').par E R Ps U F:=⟨h1,h2⟩
theorem akY{id:Nat}{entry:List DE}{ks:List CT}{base:Nat}{body:aw}(inv:List DV->Prop)(h0:inv (entry.map (DE.ae U)))
   (hb:∀ds,inv ds->body.par E R Ps (U.ar base ds) (ox F id inv)):(aw.loop id entry ks base body).par E R Ps U F:=⟨inv,h0,hb⟩
theorem akT{id:Nat}{bJ:List DE}{G:List DV->Prop}(h:G (bJ.map (DE.ae U))):(aw.again id bJ).par E R Ps U (ox F id G):=by
 simpa[aw.par,ox]using h
theorem Hs{bJ:List DE}(h:R (bJ.map (DE.ae U))):(aw.ret bJ).par E R Ps U F:=h
theorem akZ{e:IE}{p:Int->Prop}(h:p (e.ae U)):(aw.fail e).par E R (p::Ps) U F:=h
theorem akU{x:Nat}(h:t'.par E R ((fun n=>t.par E R Ps (U.set x (.i n)) F)::Ps) U F):(aw.ak5 x t t').par E R Ps U F:=h
theorem ak4{p:Int->Prop}(h:t.par E R Ps U F):(aw.pop t).par E R (p::Ps) U F:=h
end Go.Sx
namespace Go.Sx
def wZ(d:Nat->Bool)(p:Nat->Bool):Nat->List DE->Bool
 |_,[]=>true
 |i,x::xs=>(!d i||x.all p)&&wZ d p (i+1) xs
def aw.qV(D:FuncId->Nat->Bool)(p:Nat->Bool):aw->Bool
 |.ret bJ=>bJ.all (DE.all p)
 |.stuck _=>true
 |.ev (.aG c) t=>c.all p&&t.qV D p
 |.ev (.call f g args res base) t=>g.all p&&(wZ (D f) p 0 args&&t.qV D p)
 |.ev (.ch id op) t=>op.all p&&t.qV D p
 |.ev (.dd _ _) t=>true
 |.ite c a b=>c.all p&&(a.qV D p&&b.qV D p)
 |.loop _ entry _ _ body=>entry.all (DE.all p)&&body.qV D p
 |.again _ bJ=>bJ.all (DE.all p)
 |.fail e=>e.all p
 |.ak5 _ a b=>a.qV D p&&b.qV D p
 |.pop t=>t.qV D p
def zY(d:Nat->Bool)(ds mr:List DV):Prop:=ds.length=mr.length/\∀i,d i=true->ds[i]?=mr[i]?
variable {U ak:az}{p:Nat->Bool}
theorem DE.Ci(h:∀k,p k=true->U k=ak k){d:DE}(e:d.all p=true):d.ae U=d.ae ak:=by
 cases d with
 |i e'=>simp only[DE.ae,IE.aq h (show e'.all p=true from e)]
 |b e'=>simp only[DE.ae,BE.aq h (show e'.all p=true from e)]
 |l k=>simp only[DE.ae,h k (show p k=true from e)]
 |nil=>rfl
 | rows es=>
   simp only[DE.ae];congr 1;exact List.map_congr_left fun x hm=>by rw[IE.aq h (List.all_eq_true.1 (show es.all (IE.all p)=true from e) x hm)]
 | sU xs=>
   simp only[DE.ae];congr 2;refine List.map_congr_left fun x hm=>?_
   have:=List.all_eq_true.1 (show xs.all (ib p)=true from e) x hm
   cases x with
   |inl y=>exact IE.aq h this
   |inr y=>simp only[bV,BE.aq h (show y.all p=true from this)]
theorem Cj(h:∀k,p k=true->U k=ak k){ds:List DE}(e:ds.all (DE.all p)=true):ds.map (DE.ae U)=ds.map (DE.ae ak):=
 List.map_congr_left fun x hm=>DE.Ci h (List.all_eq_true.1 e x hm)
theorem JH(h:∀k,p k=true->U k=ak k){d:Nat->Bool}:∀ {xs:List DE} {i:Nat},wZ d p i xs=true->zY (fun j=>d (i+j)) (xs.map (DE.ae U)) (xs.map (DE.ae ak)):=by
 intro xs;induction xs with
 |nil=>intro i _;exact⟨rfl,fun _ _=>rfl⟩
 | cons x xs ih=>
   intro i e;simp only[wZ,ao,fy,Bool.not_eq_true']at e;obtain⟨h1,h2⟩:=ih e.2;refine⟨by simp,fun j hj=>?_⟩
   cases j with
   | zero=>
     simp only[Nat.add_zero]at hj;rcases e.1 with e1|e1
     . rw[e1]at hj;cases hj
     . simp[DE.Ci h e1]
   | succ j=>
     have:=h2 j (by show d (i+1+j)=true;rw[show i+1+j=i+(j+1)by omega];exact hj)
     simpa using this
theorem th(h:∀k,p k=true->U k=ak k)(base:Nat)(ds:List DV):∀k,p k=true->U.ar base ds k=ak.ar base ds k:=by
 intro k hk;by_cases h1:k<base
 . rw[az.aX h1,az.aX h1,h k hk]
 . by_cases h2:base+ds.length<=k
   . rw[az.ej h2,az.ej h2,h k hk]
   . have e:ds[k-base]?=some (ds[k-base]'(by omega)):=dJ _
     rw[show k=base+(k-base)by omega,az.cm e,az.cm e]
theorem A2(h:∀k,p k=true->U k=ak k)(id:Nat)(d:DV):∀k,p k=true->U.set id d k=ak.set id d k:=by
 intro k hk;simp only[az.set];split
 . rfl
 . exact h k hk
theorem My(h:∀k,p k=true->U k=ak k){op:cZ}(e:op.all p=true):op.ae U=op.ae ak:=by
 have cell:∀x:Sum IE BE,ib p x=true->bV U x=bV ak x:=fun x hx=>by
   cases x with
   |inl y=>exact IE.aq h hx
   |inr y=>simp only[bV,BE.aq h (show y.all p=true from hx)]
 have cells:∀xs:List (Sum IE BE),xs.all (ib p)=true->xs.map (bV U)=xs.map (bV ak):=fun xs hx=>List.map_congr_left fun x hm=>cell x (List.all_eq_true.1 hx x hm)
 cases op with
 |lit rows=>exact List.map_congr_left fun r hr=>cells r (List.all_eq_true.1 (show rows.all (fun r=>r.all (ib p))=true from e) r hr)
 |app a b=>simp only[cZ.all,ao]at e;simp only[cZ.ae,h a e.1,h b e.2]
 |set a i j x=>simp only[cZ.all,ao]at e;simp only[cZ.ae,h a e.1,IE.aq h e.2.1,cell x e.2.2]
 |xm a i xs=>simp only[cZ.all,ao]at e;simp only[cZ.ae,h a e.1,IE.aq h e.2.1,cells xs e.2.2]
 |zu a i j xs=>simp only[cZ.all,ao]at e;simp only[cZ.ae,h a e.1,IE.aq h e.2.1,cells xs e.2.2]
 |take a n=>simp only[cZ.all,ao]at e;simp only[cZ.ae,h a e.1,IE.aq h e.2]
 |rep n row=>simp only[cZ.all]at e;simp only[cZ.ae,IE.aq h e]
 |cp a=>simp only[cZ.all]at e;simp only[cZ.ae,h a e]
 |sub a i aK j=>simp only[cZ.all,ao]at e;simp only[cZ.ae,h a e.1,IE.aq h e.2]
 |Qh a b=>simp only[cZ.all,ao]at e;simp only[cZ.ae,h a e.1,h b e.2]
 | zA rows=>
   refine List.map_congr_left fun r hr=>?_
   have cF:=List.all_eq_true.1 (show rows.all (fun r=>r.all (bW.all p))=true from e) r hr
   have h1:r.map (bW.head U)=r.map (bW.head ak):=List.map_congr_left fun c hc=>by
     have:=List.all_eq_true.1 cF c hc;cases c with
     |c x=>exact cell x this
     |s lv=>simp only[bW.head,h lv this]
     |nil=>rfl
   have h2:r.map (bW.tail U)=r.map (bW.tail ak):=List.map_congr_left fun c hc=>by
     have:=List.all_eq_true.1 cF c hc;cases c with
     |c x=>rfl
     |s lv=>simp only[bW.tail,h lv this]
     |nil=>rfl
   rw[h1,List.flatMap_def,List.flatMap_def,h2]
theorem D5{C:bA}{N:Nat}{D:FuncId->Nat->Bool}(hC:∀f ds mr,zY (D f) ds mr->C f ds=C f mr) :
   ∀ {t:aw} {Ps:List (Int->Option (List DV))} {U ak:az} {F:oe},(∀k,p k=true->U k=ak k)->t.qV D p=true->t.run C N Ps U F=t.run C N Ps ak F:=by
 intro t;induction t with
 |ret bJ=>intro Ps U ak F h e;simp only[aw.run,Cj h (show bJ.all (DE.all p)=true from e)]
 |stuck s=>intro Ps U ak F h e;rfl
 | ev ev t ih=>
   intro Ps U ak F h e;cases ev with
   | aG c=>
     simp only[aw.qV,ao]at e;simp only[aw.run,Ev.run,BE.aq h e.1,ih h e.2]
   | call f g args res base=>
     simp only[aw.qV,ao]at e;have ha:=JH (d:=D f) h e.2.1;simp only[Nat.zero_add]at ha;simp only[aw.run,Ev.run,BE.aq h e.1,hC f _ _ ha];split
     . split
       . exact ih (th h _ _) e.2.2
       . rfl
     . exact ih (th h _ _) e.2.2
   | ch id op=>
     simp only[aw.qV,ao]at e;simp only[aw.run,Ev.run,My h e.1];exact ih (A2 h _ _) e.2
   |dd c x=>rfl
 | ite c a b eF fa=>
   intro Ps U ak F h e;simp only[aw.qV,ao]at e;simp only[aw.run,BE.aq h e.1,eF h e.2.1,fa h e.2.2]
 | loop id entry ks base body ih=>
   intro Ps U ak F h e;simp only[aw.qV,ao]at e;simp only[aw.run,Cj h e.1];congr 1;funext rec ds;exact ih (th h _ _) e.2
 |again id bJ=>intro Ps U ak F h e;simp only[aw.run,Cj h (show bJ.all (DE.all p)=true from e)]
 | fail x=>
   intro Ps U ak F h e;simp only[aw.run,IE.aq h (show x.all p=true from e)]
 | ak5 x tp t zW ih=>
   intro Ps U ak F h e;simp only[aw.qV,ao]at e;simp only[aw.run];have:(fun n=>tp.run C N Ps (U.set x (.i n)) F)=(fun n=>tp.run C N Ps (ak.set x (.i n)) F):=by
     funext n;exact zW (A2 h _ _) e.1
   rw[this];exact ih h e.2
 | pop t ih=>
   intro Ps U ak F h e;cases Ps with
   |nil=>rfl
   |cons q qs=>exact ih h e
theorem zY.eq{d:Nat->Bool}{ds mr:List DV}(h:zY d ds mr)(hd:∀i,d i=true):ds=mr:=List.ext_getElem? fun i=>h.2 i (hd i)
theorem Mz{d:Nat->Bool}{ds mr:List DV}(h:zY d ds mr):∀k,(d k||Nat.ble ds.length k)=true->aM.ar 0 ds k=aM.ar 0 mr k:=by
 intro k hk;by_cases h1:k<ds.length
 . have hd:d k=true:=by
     rw[fy]at hk;rcases hk with hk|hk
     . exact hk
     . have:=Nat.le_of_ble_eq_true hk;omega
   have h2:=h.2 k hd;have e:ds[k]?=some ds[k]:=dJ h1;have e':mr[k]?=some ds[k]:=by rw[<- h2,e]
   have a:=az.cm (U:=aM) (k:=0) e;have b:=az.cm (U:=aM) (k:=0) e';rw[Nat.zero_add]at a b;rw[a,b]
 . rw[az.ej (by omega),az.ej (by rw[<- h.1];omega)]
def yz(T:Nat->Option gR)(D:Nat->Nat->Bool)(n k:Nat):Bool:=match T k with
 |some e=>e.tree.qV (fun g=>D (e.key g)) (fun j=>D k j||Nat.ble n j)
 |none=>false
theorem RC{T:Nat->Option gR}{X:bA}{D:Nat->Nat->Bool}{L:List (Nat×Nat)}(hL:∀x∈L,yz T D x.1 x.2=true)(hn:∀x∈L,∀i,x.1<=i->D x.2 i=true)(hD:∀k,(∀i,D k i=true)\/∃n,(n,k)∈L) :
   ∀(n k:Nat) (ds mr:List DV),zY (D k) ds mr->ev T X n k ds=ev T X n k mr:=by
 intro n;induction n with
 |zero=>intro k ds mr _;rfl
 | succ n ih=>
   intro k ds mr h;rcases hD k with hd|⟨m,hm⟩
   . rw[h.eq hd]
   . have hu:=hL _ hm;simp only[yz]at hu;split at hu
     . rename_i e hk;simp only[ev,hk];refine D5 (D:=fun g=>D (e.key g)) (p:=fun j=>D k j||Nat.ble m j) (C:=fun g=>ev T X n (e.key g)) (fun f ds mr hs=>ih (e.key f) ds mr hs) (fun j hj=>?_) hu
       refine Mz h j ?_;rw[fy]at hj;rcases hj with hj|hj
       . rw[hj];rfl
       . rw[hn _ hm j (Nat.le_of_ble_eq_true hj)];rfl
     . cases hu
theorem FV{T:Nat->Option gR}{X:bA}{D:Nat->Nat->Bool}{L:List (Nat×Nat)}(hL:∀x∈L,yz T D x.1 x.2=true)(hn:∀x∈L,∀i,x.1<=i->D x.2 i=true)(hD:∀k,(∀i,D k i=true)\/∃n,(n,k)∈L){k:Nat}{ds mr rs:List DV}(h:zY (D k) ds mr)(hg:bK T X k ds rs):bK T X k mr rs:=by
 obtain⟨n,nC⟩:=hg;exact⟨n,by rw[<- RC hL hn hD n k ds mr h];exact nC⟩
end Go.Sx

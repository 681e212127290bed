/- The symbolic executor: memory and own rows. -/
import Derived.Test.YtohebioanhliiaaGreatDoorFA1
import Derived.Maps.AppendAt
set_option linter.unusedVariables false
set_option linter.unusedSimpArgs false
namespace Go.Sx
section
open Go.RowKit
variable {ae:aF}{ph:Ph}{P:Program}
variable{st:St}{w:World}{dst:Option Tmp}{s:bc}{B:Nat}{w':World}{n:Nat}{v:Value}{k:Nat}{bq:St}
theorem Reads.grown{cells:List Value}{row:Option Nat}(h:Reads w v n cells)(hg:w.grownBy w' row)(da:cells≠[]->∀k,v.ownBlock=some k->some k≠row):Reads w' v n cells:=by
 obtain⟨base,cap,rfl,hn,h0,hc⟩:=h;refine⟨base,cap,rfl,hn,h0,fun j u hj=>?_⟩;obtain⟨a,rfl,ha⟩:=hc j u hj;refine⟨a,rfl,?_⟩;have lO:(a.add j).block=a.block:=by unfold Addr.add;split<;>rfl
 exact hg.cell ha (by rw[lO];exact da (by intro e;rw[e]at hj;simp at hj) _ (by simp[Value.ownBlock]))
theorem vk{e:TypeId}{sz:Nat}{xs:List Value}{row:Option Nat}(h:w.ownsRow B e sz v n xs)(hg:w.grownBy w' row)(da:∀k,v.ownBlock=some k->some k≠row):w'.ownsRow B e sz v n xs:=
 h.kept hg (by
   cases hv:v.ownBlock with
   |none=>exact .inl rfl
   |some k=>exact .inr (da k hv))
theorem gZ.grown{r:Row}{row:Option Nat}(h:gZ B ae ph r w)(hg:w.grownBy w' row)(da:∀k,r.cc ae ph=some k->some k≠row):gZ B ae ph r w':=by
 obtain⟨h0,h⟩:=h;refine⟨h0,?_⟩;split at h;rename_i ho;rw[if_pos ho];exact vk h hg (fun k hk=>da k (by simp[Row.cc,ho,hk]));rename_i ho;rw[if_neg ho];exact h.grown hg (fun hc k hk=>da k (by
   have:(ae r.lv).list.length≠0:=fun e=>hc (D5 (by rw[bV,e,Nat.zero_mul]));simp[Row.cc,this,hk]))
theorem vf.lt{b:iX}(h:vf B ae ph b w):ph.r b.id<w.heap.size:=(sy.1 h.2).1
theorem vf.grown{b:iX}{row:Option Nat}(h:vf B ae ph b w)(hg:w.grownBy w' row)(da:some (ph.r b.id)≠row):vf B ae ph b w':=
 ⟨h.1,by rw[hg.block _ h.lt da];exact h.2⟩
theorem kz.grown{bl:List iX}{rows:List Row}(h:kz B ae ph bl rows w)(hg:w.grownBy w' none):kz B ae ph bl rows w':=
 ⟨fun b hb=>(h.oo b hb).grown hg (by simp),h.bb,fun r hr h1=>(h.row r hr h1).grown hg (by simp),h.br,h.rr⟩
theorem cK(w:World):w.grownBy w none:=⟨rfl,rfl,rfl,ga _,fun _ _ _=>rfl⟩
theorem l6(h:Below w.heap.size w w'):w.grownBy w' none:=⟨h.os,h.tape,h.output,h.size,fun k hk _=>h.block k hk⟩
theorem qg{a b c:World}{row:Option Nat}(h:a.grownBy b row)(k:b.grownBy c row):a.grownBy c row:=
 ⟨k.os.trans h.os,k.tape.trans h.tape,k.output.trans h.output,lN h.size k.size,fun i hi da=>(k.block i (Eg hi h.size) da).trans (h.block i hi da)⟩
theorem jx{a b:World}{row:Option Nat}(h:a.grownBy b none):a.grownBy b row:=⟨h.os,h.tape,h.output,h.size,fun i hi _=>h.block i hi (by simp)⟩
theorem Im{q:Nat×Nat->Bool}{d:Nat×Nat}:∀ {l:List (Nat×Nat)},(xY d l).any q=(q d||l.any q):=by
 intro l;induction l with
 |nil=>simp[xY]
 | cons x l ih=>
   simp only[xY];split;simp;simp only[List.any_cons,ih];cases q x<;>cases q d<;>simp
theorem xZ{a:Nat}:(st.bK a n).has k=(st.has k||(decide (a<=k)&&decide (k<a+n))):=by
 show(decide (k<st.next)||(xY (a,a+n) st.qh).any _)=_;rw[Im];show(decide (k<st.next)||(_||_))=((decide (k<st.next)||_)||_);rw[Bool.or_assoc,Bool.or_comm (decide (a<=k)&&decide (k<a+n))]
theorem ig{a:Nat}(h:st.has k=true):(st.bK a n).has k=true:=by rw[xZ,h];rfl
theorem jy{a:Nat}(h1:a<=k)(h2:k<a+n):(st.bK a n).has k=true:=by rw[xZ];simp[h1,h2]
theorem dr{a:Nat}(h:st.free a n=true)(h1:a<=k)(h2:k<a+n):st.has k=false:=by
 simp only[St.free,ao,aO,mE,hZ]at h;simp only[St.has,vF,sO,List.any_eq_false,ao,aO,not_and];refine⟨by omega,fun d hd h3=>?_⟩;have:=h.2 d hd;omega
theorem IE.aK{p q:Nat->Bool}(h:∀k,p k=true->q k=true):∀ {e:IE},e.all p=true->e.all q=true:=by
 intro e;induction e with
 |v k=>simp only[IE.all];exact h k
 |c n=>simp[IE.all]
 |len k=>simp only[IE.all];exact h k
 |get k i j ih=>simp only[IE.all,ao];exact fun ha=>⟨h k ha.1,ih ha.2⟩
 |ju i n a b uS uT YP=>simp only[IE.all,ao];exact fun ha=>⟨uS ha.1,uT ha.2.1,YP ha.2.2⟩
 |ediv a n ih=>simp only[IE.all];exact ih
 |emod a n ih=>simp only[IE.all];exact ih
 |wrap k a ih=>simp only[IE.all];exact ih
 |bits op k a b uS uT=>simp only[IE.all,ao];exact fun ha=>⟨uS ha.1,uT ha.2⟩
 |_ a b uS uT=>simp only[IE.all,ao];exact fun ha=>⟨uS ha.1,uT ha.2⟩
theorem BE.aK{p q:Nat->Bool}(h:∀k,p k=true->q k=true):∀ {e:BE},e.all p=true->e.all q=true:=by
 intro e;induction e with
 |v k=>simp only[BE.all];exact h k
 |c n=>simp[BE.all]
 |not a ih=>simp only[BE.all];exact ih
 |sM a=>simp only[BE.all];exact IE.aK h
 |and a b uS uT=>simp only[BE.all,ao];exact fun ha=>⟨uS ha.1,uT ha.2⟩
 |or a b uS uT=>simp only[BE.all,ao];exact fun ha=>⟨uS ha.1,uT ha.2⟩
 |iff a b uS uT=>simp only[BE.all,ao];exact fun ha=>⟨uS ha.1,uT ha.2⟩
 |_ a b=>simp only[BE.all,ao];exact fun ha=>⟨IE.aK h ha.1,IE.aK h ha.2⟩
theorem dK.aK{p q:Nat->Bool}(h:∀k,p k=true->q k=true){l:dK}(ha:l.all p=true):l.all q=true:=by
 cases l with
 |i k e=>exact IE.aK h ha
 |b e=>exact BE.aK h ha
 |s r=>exact h _ ha
 |lM=>rfl
theorem ak.aK{p q:Nat->Bool}(h:∀k,p k=true->q k=true){l:ak}(ha:l.all p=true):l.all q=true:=by
 cases l with
 |i k e=>exact IE.aK h ha
 |b e=>exact BE.aK h ha
 |p b o=>exact h _ ha
 |ep r s i j=>simp only[ak.all,ao]at ha ⊢;exact⟨h _ ha.1,IE.aK h ha.2⟩
 |pi b o s n x=>simp only[ak.all,ao]at ha ⊢;exact⟨h _ ha.1,IE.aK h ha.2⟩
 |s r=>exact h _ ha
 |fn g dT=>simp only[ak.all,mE]at ha ⊢;exact fun c hc=>h _ (ha c hc)
 |fl e=>exact IE.aK h ha
 |bf g a ls=>simp only[ak.all,mE]at ha ⊢;exact fun c hc=>dK.aK h (ha c hc)
 |vw r s lo n=>simp only[ak.all,ao]at ha ⊢;exact⟨h _ ha.1,IE.aK h ha.2.1,IE.aK h ha.2.2⟩
 |cs r=>exact h _ ha
 |bs b n s=>exact h _ ha
 |kb r bs=>exact h _ ha
 |ab r i b=>exact h _ ha
 |_=>rfl
theorem oy{p q:Nat->Bool}(h:∀k,p k=true->q k=true):∀ {ls:List ak},bG p ls=true->bG q ls=true:=by
 intro ls;induction ls with
 |nil=>intro _;rfl
 |cons l ls ih=>simp only[bG,ao];exact fun ha=>⟨ak.aK h ha.1,ih ha.2⟩
theorem V1.aK{p q:Nat->Bool}(h:∀k,p k=true->q k=true){v:V1}(ha:v.all p=true):v.all q=true:=by
 cases v with
 |one l=>exact ak.aK h ha
 |agg ls=>exact oy h ha
theorem yV{p q:Nat->Bool}(h:∀k,p k=true->q k=true):∀ {ls:List V1},ei p ls=true->ei q ls=true:=by
 intro ls;induction ls with
 |nil=>intro _;rfl
 |cons l ls ih=>simp only[ei,ao];exact fun ha=>⟨V1.aK h ha.1,ih ha.2⟩
theorem bc.aK{p q:Nat->Bool}(h:∀k,p k=true->q k=true)(ha:s.all p=true):s.all q=true:=by
 simp only[bc.all,ao]at ha ⊢;refine⟨BE.aK h ha.1,?_⟩;cases hs:s.sv with
 |v x=>rw[hs]at ha;exact V1.aK h ha.2
 |H5 xs=>rw[hs]at ha;exact yV h ha.2
theorem iX.aK{p q:Nat->Bool}(h:∀k,p k=true->q k=true){b:iX}(ha:b.all p=true):b.all q=true:=by
 simp only[iX.all,ao]at ha ⊢;exact⟨h _ ha.1,oy h ha.2⟩
theorem Row.aK{p q:Nat->Bool}(h:∀k,p k=true->q k=true){r:Row}(ha:r.all p=true):r.all q=true:=by
 simp only[Row.all,ao]at ha ⊢;exact⟨h _ ha.1,h _ ha.2.1,BE.aK h ha.2.2⟩
theorem cP:(st.put dst s).has=st.has:=by
 cases dst<;>rfl
theorem cf:(st.put dst s).bl=st.bl:=by cases dst<;>rfl
theorem dG:(st.put dst s).rows=st.rows:=by cases dst<;>rfl
theorem gB.put{ts:List (Option bc)}{tmps:Array Value}(h:gB ae ph ts tmps)(d:Nat)(s:bc):gB ae ph (ts.set d (some s)) (tmps.setIfInBounds d (s.af ae ph)):=by
 refine⟨by simpa using h.1,fun t s' ht=>?_⟩;rw[List.getElem?_set]at ht;rw[Array.getElem?_setIfInBounds];by_cases hd:d=t;subst hd;simp only[if_true]at ht ⊢;split at ht;rename_i cM;simp only[ah]at ht;subst ht;rw[if_pos (by rw[<- h.1];exact cM)];cases ht;simp only[hd,if_false]at ht ⊢;exact h.2 t s' ht
theorem oA{a:Act}(h:gB ae ph st.tmps a.tmps)(hv:v=s.af ae ph):gB ae ph (st.put dst s).tmps (a.put dst v).tmps:=by
 subst hv;cases dst with
 |none=>exact h
 |some d=>exact h.put d s
theorem ij(h:∀(t:Nat) (s:bc),st.tmps[t]?=some (some s)->s.all st.has=true)(hs:s.all st.has=true) :
   ∀(t:Nat) (s':bc),(st.put dst s).tmps[t]?=some (some s')->s'.all (st.put dst s).has=true:=by
 intro t s' ht;rw[cP];cases dst with
 |none=>exact h t s' ht
 | some d=>
   simp only[St.put]at ht;rw[List.getElem?_set]at ht;split at ht;split at ht;simp only[ah]at ht;subst ht;exact hs;cases ht;exact h t s' ht
theorem c8{a:Act}:(a.put dst v).defers=a.defers:=by cases dst<;>rfl
theorem LM:(st.put dst s).bp=st.bp:=by cases dst<;>rfl
theorem eO.aK{p q:Nat->Bool}(h:∀k,p k=true->q k=true){r:eO}(ha:r.all p=true):r.all q=true:=by
 simp only[eO.all,ao]at ha ⊢;exact⟨h _ ha.1,h _ ha.2.1,BE.aK h ha.2.2⟩
theorem dM.next{row:Option Nat}(h:dM B ae ph st w){aq:aF}{aQ:Ph}(bQ:bH st.has ae aq ph aQ)(hz:aQ.z=ph.z)(hm:∀k,st.has k=true->bq.has k=true)(hg:w.grownBy w' row)(bB:∀k,row=some k->¬ ph.z k/\∀n∈st.bp,n.own=true->(ph.val n.id).ownBlock≠some k)(hn:bq.bp=st.bp)
   (hb:∀b∈bq.bl,(∃b0∈st.bl,aQ.r b.id=ph.r b0.id)\/w.heap.size<=aQ.r b.id)
   (hr:∀r∈bq.rows,r.g.af aq=true->∀k,r.cc aq aQ=some k->(∃r0∈st.rows,(r.own=true->r0.own=true)/\r0.g.af ae=true/\r0.cc ae ph=some k)\/w.heap.size<=k\/row=some k\/(r.own=false/\ph.z k)):dM B aq aQ bq w':=by
 have hv:∀n∈st.bp,aQ.val n.id=ph.val n.id/\aq n.lv=ae n.lv/\n.g.af aq=n.g.af ae:=fun n hn=>by
   have:=h.nm n hn;simp only[eO.all,ao]at this;exact⟨by simp only[Ph.val,bQ.v _ this.1],(bQ.e _ this.2.1).symm,(BE.av bQ.e this.2.2).symm⟩
 refine⟨fun k hk=>Eg (h.lt k (by rw[<- hz];exact hk)) hg.size,fun b CV Oo=>?_,fun r UE ho h1 k hk LN=>?_,fun n jZ h1=>?_,fun n jZ=>eO.aK hm (h.nm n (by rw[<- hn];exact jZ)),fun n jZ ho=>?_⟩;rw[hz]at Oo;rcases hb b CV with⟨b0,h0,e⟩|e;rw[e]at Oo;exact h.bz b0 h0 Oo;have:=h.lt _ Oo;omega;rw[hz]at LN;rcases hr r UE h1 k hk with⟨r0,h0,h2,h3,h4⟩|e|e|⟨e,_⟩;exact h.rz r0 h0 (h2 ho) h3 k h4 LN;have:=h.lt _ LN;omega;exact(bB k e).1 LN;rw[e]at ho;cases ho;rw[hn]at jZ;obtain⟨e1,e2,e3⟩:=hv n jZ;obtain⟨h0,Ca⟩:=h.rd n jZ (by rw[<- e3];exact h1);refine⟨h0,?_⟩;unfold fS at *;rw[hz,e1,e2];split;rename_i ho;rw[if_pos ho]at Ca;refine Ca.nG (fun k hk=>hg.block k (h.lt k hk.1) (fun e=>(bB k e.symm).1 hk.1)) (fun _ h=>h) (fun k hk=>hg.block k (h.qc jZ ho hk).2 (fun e=>(bB k e.symm).2 n jZ ho hk));rename_i ho;rw[if_neg ho]at Ca;exact Ca.nG (fun k hk=>hg.block k (h.lt k hk) (fun e=>(bB k e.symm).1 hk)) (fun _ h=>h);rw[hn]at jZ;obtain⟨e1,e2,e3⟩:=hv n jZ;obtain⟨h1,h2⟩:=h.oz n jZ ho;refine⟨h1,fun k hk=>?_⟩;rw[e1]at hk;obtain⟨g1,g2,g3,g4⟩:=h2 k hk;have cM:=(h.qc jZ ho hk).2;refine⟨by rw[hz];exact g1,fun b CV he=>?_,fun r UE iM hf=>?_,fun n' lR re da=>?_⟩;rcases hb b CV with⟨b0,h0,e⟩|e;exact g2 b0 h0 (by rw[<- e];exact he);omega;rcases hr r UE iM k hf with⟨r0,h0,_,h3,h4⟩|e|e|⟨_,e⟩;exact g3 r0 h0 h3 h4;omega;exact(bB k e).2 n jZ ho hk;exact g1 e;rw[hn]at lR;rw[(hv n' lR).1];exact g4 n' lR re da
theorem dM.same(h:dM B ae ph st w)(hm:∀k,st.has k=true->bq.has k=true)(h1:bq.bl=st.bl)(h2:bq.rows=st.rows)(h3:bq.bp=st.bp):dM B ae ph bq w:=
 ⟨h.lt,by rw[h1];exact h.bz,by rw[h2];exact h.rz,by rw[h3];exact h.rd,by rw[h3];exact fun n hn=>eO.aK hm (h.nm n hn),by rw[h1,h2,h3];exact h.oz⟩
theorem dM.put(h:dM B ae ph st w):dM B ae ph (st.put dst s) w:=
 h.same (fun k hk=>by rw[cP];exact hk) cf dG LM
theorem Sat.put{w0:World}{a:Act}(h:Sat w0 ae ph st a w)(hs:s.all st.has=true)(hv:v=s.af ae ph):Sat w0 ae ph (st.put dst s) (a.put dst v) w:=
 ⟨oA h.tmps hv,by rw[cf,dG];exact h.mem,h.below,by rw[c8];exact h.defers,
   ⟨ij h.names.tmps hs,by rw[cf,cP];exact h.names.bl,by rw[dG,cP];exact h.names.rows⟩,h.nest.put⟩
theorem oC:kT.af ae ph=undef:=rfl
theorem oE{p:Nat->Bool}:kT.all p=true:=rfl
end
section
open Go.RowKit
variable {ae:aF}{ph:Ph}{P:Program}
variable{w:World}{dst:Option Tmp}{e:TypeId}{ls:List ak}{st:St}{w0:World}
theorem kX(g:Nat)(ty:TypeId)(off:Nat):∀(vs:List Value) (i:Nat) (cur:List Value) (w:World),w.heap[g]?=some (.cells cur.toArray ty (0,0))->off+i+vs.length<=cur.length->(∀v∈vs,v.oneCell'=true)->
   ∃w',(storeCells ⟨g,off,none⟩ vs i).run P w = .ok () w'/\w.grownBy w' (some g)/\w'.heap[g]?=some (.cells ((vs.zipIdx i).foldl (fun cs (x:Value×Nat)=>cs.set (off+x.2) x.1) cur).toArray ty (0,0)):=by
 intro vs;induction vs with
 |nil=>intro i cur w hg _ _;exact⟨w,rfl,jx (cK w),hg⟩
 | cons v vs ih=>
   intro i cur w hg hl h1;simp only[pf]at hl;have cM:off+i<cur.length:=by omega
   have nB:w.cell? ⟨g,off+i,none⟩=some cur[off+i]:=by
     rw[cell_of_row w g _ _ _ _ hg];simp[cM]
   have hfz:=frozen_of_row w g (off+i) cur.toArray ty hg;have eK:(store ((⟨g,off,none⟩:Addr).add i) v).run P w = .ok () (w.setCell ⟨g,off+i,none⟩ v):=by
     rw[jM,run_store P w _ v _ (h1 v (aZ ..))];simp[stored,nB,hfz]
   have C3:(w.setCell ⟨g,off+i,none⟩ v).heap[g]?=some (.cells (cur.set (off+i) v).toArray ty (0,0)):=by
     have:=heap_setCell_same w g (off+i) cur.toArray ty v hg;rw[this];simp
   obtain⟨w',hr,iM,hh⟩:=ih (i+1) (cur.set (off+i) v) (w.setCell ⟨g,off+i,none⟩ v) C3 (by simp;omega) (fun u hu=>h1 u (bI _ hu));refine⟨w',?_,?_,?_⟩;simp only[storeCells,ff,eK,fc,hr];have H7:w.grownBy (w.setCell ⟨g,off+i,none⟩ v) (some g):=⟨rfl,rfl,rfl,by simp,fun k _ hk=>heap_setCell_other w ⟨g,off+i,none⟩ k v (fun e=>hk (by rw[e]))⟩;exact qg H7 iM;simpa[List.zipIdx_cons]using hh
theorem yW{t:TypeId}{g off:Nat}{ty:TypeId}{v:V1}{cs:List ak}(hs:v.leaves.length=P.cellsOf t)(nF:0<P.cellsOf t)(hg:w.heap[g]?=some (.cells (cs.map (ak.af ae ph)).toArray ty (0,0)))
   (hl:off+v.leaves.length<=cs.length) :
   ∃w',(Instr.storeAt t (.pointer (some ⟨g,off,none⟩)) (v.af ae ph)).run P w = .ok () w'/\w.grownBy w' (some g)/\w'.heap[g]?=some (.cells ((je cs off v.leaves).map (ak.af ae ph)).toArray ty (0,0)):=by
 obtain⟨w',hr,iM,hh⟩:=kX (P:=P) g ty off (v.leaves.map (ak.af ae ph)) 0 (cs.map (ak.af ae ph)) w hg (by simpa using hl) (fun u hu=>by
   obtain⟨l,_,rfl⟩:=jz.1 hu;exact ak.yU l)
 refine⟨w',?_,iM,by rw[hh,nK]⟩;simp only[Instr.storeAt,Instr.sureAddr,ff,gk,fc,storeVar,cA nF,V1.fZ];rw[if_neg (by simp[hs])];simpa using hr
theorem gU{b x:iX}:∀ {l:List iX},b∈mV x l↔b=x\/b∈l:=by
 intro l;induction l with
 |nil=>simp[mV]
 | cons y l ih=>
   simp only[mV];split;simp;simp only[bC,ih];constructor;rintro(h|h|h)<;>simp[h];rintro(h|h|h)<;>simp[h]
theorem eo{b x:Row}:∀ {l:List Row},b∈dN x l↔b=x\/b∈l:=by
 intro l;induction l with
 |nil=>simp[dN]
 | cons y l ih=>
   simp only[dN];split;simp;simp only[bC,ih];constructor;rintro(h|h|h)<;>simp[h];rintro(h|h|h)<;>simp[h]
structure Step(w0:World)(ae aq:aF)(ph aQ:Ph)(st bq:St)(a':Act)(w w':World)(row:Option Nat):Prop where
 sat:Sat w0 aq aQ bq a' w'
 agree:bH st.has ae aq ph aQ
 grown:w.grownBy w' row
 mono:∀k,st.has k=true->bq.has k=true
 fresh:∀b∈bq.bl,(∃b0∈st.bl,b0.id=b.id)\/w.heap.size<=aQ.r b.id
theorem cW{p:Nat->Bool}:bH p ae ae ph ph:=⟨fun _ _=>rfl,fun _ _=>rfl,fun _ _=>rfl⟩
theorem Az{a:Act}{key:Nat}{s:bc}{v:Value}(h:Sat w0 ae ph st a w)(bj:st.free key 1=true)(xH:bG st.has ls=true)
   (hsa:s.all (st.bK key 1).has=true) (hv:v=s.af ae (ph.qi key w.heap.size)) :
   Step w0 ae ae ph (ph.qi key w.heap.size) st ({st.bK key 1 with bl:=mV ⟨key,e,ls⟩ st.bl}.put dst s) (a.put dst v) w (w.alloc (.cells (ls.map (ak.af ae ph)).toArray e)) none:=by
   have vJ:st.has key=false:=dr bj (ga _) (by omega);have bQ:bH st.has ae ae ph (ph.qi key w.heap.size):=⟨fun _ _=>rfl,fun k hk=>by
     have:k≠key:=fun e=>by rw[e,vJ]at hk;cases hk
     simp[Ph.qi,this],fun _ _=>rfl⟩
   have ke:=h.congr bQ;have iM:w.grownBy (w.alloc (.cells (ls.map (ak.af ae ph)).toArray e)) none:=World.grownBy_alloc w _ none;have bT:∀k,st.has k=true->(st.bK key 1).has k=true:=fun k hk=>ig hk;have hB:w0.heap.size<=w.heap.size:=h.below.size;refine⟨⟨?_,?_,h.below.alloc hB _,by rw[c8];exact h.defers,?_,?_⟩,bQ,iM,fun k hk=>by rw[cP];exact bT k hk,fun b hb=>?_⟩
   rotate_right
   rw[cf]at hb;rcases gU.1 hb with rfl|hb;exact .inr (by simp[Ph.qi]);exact .inl ⟨b,hb,rfl⟩;refine oA (st:={st.bK key 1 with bl:=mV ⟨key,e,ls⟩ st.bl}) ke.tmps ?_;exact hv;rw[cf,dG];have hm:=ke.mem.grown iM;have anp:∀b∈st.bl,b.id≠key:=fun b hb e=>by
     have:=h.names.bl b hb;simp only[iX.all,ao]at this;rw[e,vJ]at this;simp at this
   refine⟨fun b hb=>?_,fun b hb b' nC da=>?_,hm.row,fun b hb r hr h1=>?_,hm.rr⟩;rcases gU.1 hb with rfl|hb;refine⟨by simp[Ph.qi];exact hB,?_⟩;simp only[Ph.qi,if_true,heap_alloc_new];have:=kP bQ xH;rw[this];rfl;exact hm.oo b hb;have cM:∀b∈st.bl,(ph.qi key w.heap.size).r b.id<w.heap.size:=fun b hb=>(ke.mem.oo b hb).lt;rcases gU.1 hb with rfl|hb<;>rcases gU.1 nC with rfl|nC;exact absurd rfl da;have:=cM b' nC;simp only[Ph.qi,if_true]at this ⊢;omega;have:=cM b hb;simp only[Ph.qi,if_true]at this ⊢;omega;exact hm.bb b hb b' nC da;rcases gU.1 hb with rfl|hb;intro acw;simp only[Ph.qi,if_true]at acw;have:=(ke.mem.row r hr h1).uk acw;omega;exact hm.br b hb r hr h1;refine⟨?_,?_,?_⟩;refine ij (st:={st.bK key 1 with bl:=mV ⟨key,e,ls⟩ st.bl}) (fun t s ht=>bc.aK bT (h.names.tmps t s ht)) hsa;rw[cf,cP];intro b hb;rcases gU.1 hb with rfl|hb;simp only[iX.all,ao];exact⟨jy (st:=st) (a:=key) (n:=1) (ga _) (by omega),oy bT xH⟩;exact iX.aK bT (h.names.bl b hb);rw[dG,cP];exact fun r hr=>Row.aK bT (h.names.rows r hr)
   . refine dM.put (st:={st.bK key 1 with bl:=mV ⟨key,e,ls⟩ st.bl}) (h.nest.next bQ rfl bT iM (fun k hk=>by cases hk) rfl (fun b hb=>?_) (fun r hr h1 k hk=>?_));rcases gU.1 hb with rfl|hb;exact .inr (by simp[Ph.qi]);have:=h.names.bl b hb;simp only[iX.all,ao]at this;exact .inl ⟨b,hb,(bQ.r _ this.1).symm⟩;have dj:r∈st.rows:=hr;have:=h.names.rows r dj;simp only[Row.all,ao]at this;refine .inl ⟨r,dj,id,h1,?_⟩;unfold Row.cc at hk ⊢;simp only[Ph.val,bQ.v _ this.1];exact hk
theorem C4{a:Act}{key:Nat}{dJ:List Ev}{bq:St}(h:Sat w0 ae ph st a w)(ha:qD st key e ls dst=some (dJ,bq)) :
   dJ=[]/\Step w0 ae ae ph (ph.qi key w.heap.size) st bq (a.put dst (.pointer (some ⟨w.heap.size,0,none⟩))) w (w.alloc (.cells (ls.map (ak.af ae ph)).toArray e)) none:=by
 unfold qD at ha;split at ha;rename_i hc;simp only[ao]at hc;obtain⟨bj,xH⟩:=hc;simp only[ah,aD]at ha;obtain⟨rfl,rfl⟩:=ha;refine⟨rfl,Az h bj xH ?_ ?_⟩;simp only[bc.all,BE.all,SV.all,V1.all,ak.all,Bool.true_and];exact jy (ga _) (by omega);simp[bc.af,BE.af,SV.af,V1.af,ak.af,Ph.qi];cases ha
end
section
open Go.RowKit
variable {ae:aF}{ph:Ph}{P:Program}
variable{dst:Option Tmp}{st:St}{w w0 w':World}{G:BE}{e:TypeId}{ks:List CK}{rows:List Row}
theorem wJ{bq:St}{a:Act}{b:iX}{cs:List ak}{dJ:List Ev}(h:Sat w0 ae ph st a w)(hs:setCells st b cs dst=some (dJ,bq))(hb:b∈st.bl)
   (hg:w.grownBy w' (some (ph.r b.id))) (hw:w'.heap[ph.r b.id]?=some (.cells (cs.map (ak.af ae ph)).toArray b.ty (0,0))) :
   dJ=[]/\Step w0 ae ae ph ph st bq (a.put dst undef) w w' (some (ph.r b.id)):=by
 unfold setCells at hs;split at hs
 . rename_i jc;simp only[ah,aD]at hs;obtain⟨rfl,rfl⟩:=hs;have hB:=(h.mem.oo b hb).1;have mem_set:∀y∈(x8 st {b with cells:=cs}).bl,(y = {b with cells:=cs})\/(y∈st.bl/\y.id≠b.id):=by
     intro y hy;simp only[x8,jz]at hy;obtain⟨x,hx,rfl⟩:=hy;split;exact .inl rfl;rename_i da;exact .inr ⟨hx,da⟩
   refine⟨rfl,⟨?_,?_,h.below.grown hg h.below.size (fun k hk=>by cases hk;exact hB),by rw[c8];exact h.defers,?_,?_⟩,cW,hg,fun k hk=>by rw[cP];exact hk,fun y hy=>?_⟩
   rotate_right
   rw[cf]at hy;rcases mem_set y hy with rfl|⟨hy,_⟩;exact .inl ⟨b,hb,rfl⟩;exact .inl ⟨y,hy,rfl⟩;exact oA (st:=x8 st {b with cells:=cs}) h.tmps oC.symm;rw[cf,dG];refine⟨fun y hy=>?_,fun y hy y' Ue da=>?_,fun r hr h1=>?_,fun y hy r hr h1=>?_,h.mem.rr⟩;rcases mem_set y hy with rfl|⟨hy,da⟩;exact⟨hB,hw⟩;exact(h.mem.oo y hy).grown hg (fun e=>by
     simp only[ah]at e;exact h.mem.bb y hy b hb da e)
   rcases mem_set y hy with rfl|⟨hy,acx⟩<;>rcases mem_set y' Ue with rfl|⟨Ue,Oq⟩;exact absurd rfl da;exact h.mem.bb b hb y' Ue da;exact h.mem.bb y hy b hb da;exact h.mem.bb y hy y' Ue da;exact(h.mem.row r hr h1).grown hg (fun k hk e=>by
     simp only[ah]at e;subst e;exact h.mem.br b hb r hr h1 hk)
   rcases mem_set y hy with rfl|⟨hy,_⟩;exact h.mem.br b hb r hr h1;exact h.mem.br y hy r hr h1;refine⟨ij (st:=x8 st {b with cells:=cs}) h.names.tmps oE,?_,?_⟩;rw[cf,cP];intro y hy;rcases mem_set y hy with rfl|⟨hy,_⟩;have:=h.names.bl b hb;simp only[iX.all,ao]at this ⊢;exact⟨this.1,jc⟩;exact h.names.bl y hy;rw[dG,cP];exact h.names.rows
   . refine dM.put (st:=x8 st {b with cells:=cs}) (h.nest.next cW rfl (fun _ h=>h) hg (fun k hk=>?_) rfl (fun y hy=>?_) (fun r hr h1 k hk=>.inl ⟨r,hr,id,h1,hk⟩));simp only[ah]at hk;subst hk;exact⟨h.nest.bz b hb,fun n hn ho e=>((h.nest.oz n hn ho).2 _ e).2.1 b hb rfl⟩;rcases mem_set y hy with rfl|⟨hy,_⟩;exact .inl ⟨b,hb,rfl⟩;exact .inl ⟨y,hy,rfl⟩
 cases hs
theorem s6(r:List Int)(j j':Nat)(x:Int):(mW r j x).getD j' 0=if j'=j then x else r.getD j' 0:=by
 unfold mW;split;rename_i h;by_cases e:j'=j;subst e;simp[List.getD,h];have e':j≠j':=fun h=>e h.symm;simp[List.getD,List.getElem?_set,e,e'];rename_i h;by_cases e:j'=j;subst e;simp only[if_true,List.getD];rw[qv (by omega),qv (by simp)];simp;simp only[e,if_false,List.getD];by_cases h1:j'<r.length;rw[p9 h1];rw[qv (by omega)];by_cases h2:j'<j;rw[p9 (by simp;omega)];simp[Gj,uU (Nat.le_of_not_lt h1)];split<;>rfl;rw[qv (by simp;omega)];rw[uU (by simp;omega),uU (Nat.le_of_not_lt h1)]
theorem zH(ks:List CK):∀(j0 j:Nat) (r:List Int) (x:Int) (k:CK),ks[j]?=some k->bU ks j0 (mW r (j0+j) x)=(bU ks j0 r).set j (k.val x):=by
 intro j0 j r x k hk;apply List.ext_getElem?;intro j';rw[jv,List.getElem?_set,cO];have hj:j<ks.length:=(dw.1 hk).1;by_cases e:j=j';subst e;rw[hk];simp only[s5,s6,if_true,hj];simp only[e,if_false];rw[jv];cases h:ks[j']? with
 |none=>rfl
 | some k'=>
   simp only[s5,s6];rw[if_neg (by omega)]
theorem s7(ks:List CK):∀(xs:List (List Int)) (i j:Nat) (x:Int) (k:CK),i<xs.length->ks[j]?=some k->
   aJ ks (setAt xs (i:Int) j x)=(aJ ks xs).set (i*ks.length+j) (k.val x):=by
 intro xs;induction xs with
 |nil=>intro i j x k hi;simp at hi
 | cons r rs ih=>
   intro i j x k hi hk;have hj:j<ks.length:=(dw.1 hk).1;cases i with
   | zero=>
     simp only[setAt,pz,List.modify_zero_cons,aJ,Nat.zero_mul,fR];have:=zH ks 0 j r x k hk;rw[fR]at this;rw[this,List.set_append_left _ _ (by rw[cO];exact hj)]
   | succ i=>
     have Xv:=ih i j x k (by simpa using hi) hk;simp only[setAt,pz]at Xv ⊢;simp only[List.modify_succ_cons,aJ,Xv];have e:(i+1)*ks.length+j=(bU ks 0 r).length+(i*ks.length+j):=by rw[cO,lY];omega
     rw[e,List.set_append_right _ _ (by omega)];simp
theorem wK(xs:List (List Int))(i:Int)(j:Nat)(x:Int):(setAt xs i j x).length=xs.length:=by simp[setAt]
theorem Eh{a:Act}{key:Nat}{nr:Row}{xs:List (List Int)}{row:Option Nat}{aQ:Ph}{s:bc}{v:Value}
   (h:Sat w0 ae ph st a w) (zI:nr.lv=key) (sP:nr.g.all st.has=true) (YX:nr.g.af ae=true) (bj:st.free key 1=true) (fg:∀r∈rows,r∈st.rows) (hg:w.grownBy w' row)
   (bB:∀k,row=some k->w0.heap.size<=k/\¬ ph.z k/\∀n∈st.bp,n.own=true->(ph.val n.id).ownBlock≠some k)
   (bQ:bH st.has ae (ae.set key (.l xs)) ph aQ) (hz:aQ.z=ph.z) (af8:(st.bK key 1).has nr.id=true)
   (lO:∀b∈st.bl,row≠some (ph.r b.id)) (iw:∀r∈rows,r.g.af ae=true->∀k,r.cc ae ph=some k->row≠some k)
   (iA:gZ w0.heap.size (ae.set key (.l xs)) aQ nr w') (jA:∀k,nr.cc (ae.set key (.l xs)) aQ=some k->row=some k\/w.heap.size<=k)
   (hsa:s.all (st.bK key 1).has=true) (hv:v=s.af (ae.set key (.l xs)) aQ) :
   Step w0 ae (ae.set key (.l xs)) ph aQ st ({st.bK key 1 with rows:=dN nr rows}.put dst s) (a.put dst v) w w' row:=by
 have vJ:st.has key=false:=dr bj (ga _) (by omega);have ke:=h.congr bQ hz;have bT:∀k,st.has k=true->(st.bK key 1).has k=true:=fun k hk=>ig hk;have mX:=fun(q:Row) (hq:q∈st.rows)=>by
   have:=h.names.rows q hq;simpa only[Row.all,ao]using this
 have ft:∀r∈st.rows,r.cc (ae.set key (.l xs)) aQ=r.cc ae ph:=fun r hr=>by
   unfold Row.cc;rw[<- bQ.e _ (mX r hr).2.1];simp only[Ph.val,bQ.v _ (mX r hr).1]
 have pB:∀r∈st.rows,r.g.af (ae.set key (.l xs))=r.g.af ae:=fun r hr=>(BE.av bQ.e (mX r hr).2.2).symm;have sB:∀b∈st.bl,aQ.r b.id=ph.r b.id:=fun b hb=>by
   have:=h.names.bl b hb;simp only[iX.all,ao]at this;exact(bQ.r _ this.1).symm
 have AA:∀k,nr.cc (ae.set key (.l xs)) aQ=some k->(∀b∈st.bl,ph.r b.id≠k)/\(∀r∈rows,r.g.af ae=true->r.cc ae ph≠some k):=by
   intro k hk;rcases jA k hk with e|e;exact⟨fun b hb he=>lO b hb (by rw[e,he]),fun r hr h1 hf=>iw r hr h1 k hf e⟩;refine⟨fun b hb he=>?_,fun r hr h1 hf=>?_⟩;have:=(h.mem.oo b hb).lt;omega;have:=(h.mem.row r (fg r hr) h1).uk hf;omega
 refine⟨⟨?_,?_,h.below.grown hg h.below.size (fun k hk=>(bB k hk).1),by rw[c8];exact h.defers,?_,?_⟩,bQ,hg,fun k hk=>by rw[cP];exact bT k hk,fun b hb=>?_⟩;exact oA (st:={st.bK key 1 with rows:=dN nr rows}) ke.tmps hv;rw[cf,dG];refine⟨fun b hb=>(ke.mem.oo b hb).grown hg (fun e=>lO b hb (by rw[<- e,sB b hb])),ke.mem.bb,fun r hr h1=>?_,fun b hb r hr h1=>?_,fun r hr r' dj l7 ho h1 h2=>?_⟩;rcases eo.1 hr with rfl|hr;exact iA;have eQ:=fg r hr;rw[pB r eQ]at h1;exact(ke.mem.row r eQ (by rw[pB r eQ];exact h1)).grown hg (fun k hk e=>by
   rw[ft r eQ]at hk;exact iw r hr h1 k hk e.symm)
 rcases eo.1 hr with rfl|hr;intro hk;rw[sB b hb]at hk;exact(AA _ hk).1 b hb rfl;exact ke.mem.br b hb r (fg r hr) h1;rcases eo.1 hr with e1|q<;>rcases eo.1 dj with e2|q';exact absurd (by rw[e1,e2]) l7;intro k hk dH;rw[e1]at hk;rw[ft r' (fg r' q')]at dH;rw[pB r' (fg r' q')]at h2;exact(AA k hk).2 r' q' h2 dH;intro k hk dH;rw[e2]at dH;rw[ft r (fg r q)]at hk;rw[pB r (fg r q)]at h1;exact(AA k dH).2 r q h1 hk;exact ke.mem.rr r (fg r q) r' (fg r' q') l7 ho h1 h2;refine⟨?_,?_,?_⟩;exact ij (st:={st.bK key 1 with rows:=dN nr rows}) (fun t s ht=>bc.aK bT (h.names.tmps t s ht)) hsa;rw[cf,cP];exact fun b hb=>iX.aK bT (h.names.bl b hb);rw[dG,cP];intro r hr;rcases eo.1 hr with rfl|hr;simp only[Row.all,ao];have:(st.bK key 1).has key=true:=jy (ga _) (by omega);exact⟨af8,by rw[zI];exact this,BE.aK bT sP⟩;exact Row.aK bT (h.names.rows r (fg r hr))
 . refine dM.put (st:={st.bK key 1 with rows:=dN nr rows}) (h.nest.next bQ hz bT hg (fun k hk=>(bB k hk).2) rfl (fun b hb=>.inl ⟨b,hb,sB b hb⟩) (fun r hr h1 k hk=>?_));rcases eo.1 hr with rfl|hr;rcases jA k hk with e|e;exact .inr (.inr (.inl e));exact .inr (.inl e);have eQ:=fg r hr;exact .inl ⟨r,eQ,id,by rw[<- pB r eQ];exact h1,by rw[<- ft r eQ];exact hk⟩
 rw[cf]at hb;exact .inl ⟨b,hb,rfl⟩
theorem l8{a:Act}{key:Nat}{xs:List (List Int)}{sl:Option Addr×Nat×Nat}{row:Option Nat}
   (h:Sat w0 ae ph st a w) (sP:G.all st.has=true) (YX:G.af ae=true) (bj:st.free key 1=true) (ot:0<ks.length) (fg:∀r∈rows,r∈st.rows) (hg:w.grownBy w' row)
   (bB:∀k,row=some k->w0.heap.size<=k/\¬ ph.z k/\∀n∈st.bp,n.own=true->(ph.val n.id).ownBlock≠some k)
   (lO:∀b∈st.bl,row≠some (ph.r b.id)) (iw:∀r∈rows,r.g.af ae=true->∀k,r.cc ae ph=some k->row≠some k)
   (bR:w'.ownsRow w0.heap.size e ks.length (.slice sl.1 sl.2.1 sl.2.2) xs.length (aJ ks xs)) (jA:(Value.slice sl.1 sl.2.1 sl.2.2).ownBlock=row\/(Value.slice sl.1 sl.2.1 sl.2.2).ownBlock=some w.heap.size\/(Value.slice sl.1 sl.2.1 sl.2.2).ownBlock=none) :
   Step w0 ae (ae.set key (.l xs)) ph (ph.wL key sl) st ({st.bK key 1 with rows:=dN ⟨key,e,ks,key,true,G⟩ rows}.put dst ⟨G,.v (.one (.s key))⟩)
     (a.put dst (.slice sl.1 sl.2.1 sl.2.2)) w w' row:=by
 have vJ:st.has key=false:=dr bj (ga _) (by omega);have da:∀k,st.has k=true->k≠key:=fun k hk e=>by rw[e,vJ]at hk;cases hk
 have bQ:bH st.has ae (ae.set key (.l xs)) ph (ph.wL key sl):=⟨fun k hk=>by simp[aF.set,da k hk],fun _ _=>rfl,fun k hk=>by simp[Ph.wL,da k hk]⟩;have gI:(ph.wL key sl).val key = .slice sl.1 sl.2.1 sl.2.2:=by simp[Ph.val,Ph.wL]
 have yX:(st.bK key 1).has key=true:=jy (ga _) (by omega);refine Eh (nr:=⟨key,e,ks,key,true,G⟩) h rfl sP YX bj fg hg bB bQ rfl yX lO iw ⟨ot,?_⟩ (fun k hk=>?_) ?_ ?_;simp only[if_true,gI,aF.set,DV.list];exact bR;simp only[Row.cc,Bool.true_or,if_true,gI]at hk;rcases jA with e|e|e;exact .inl (by rw[<- e,hk]);rw[hk]at e;simp only[ah]at e;exact .inr (by omega);rw[hk]at e;cases e;simp only[bc.all,SV.all,V1.all,ak.all,ao];exact⟨BE.aK (fun k hk=>ig hk) sP,yX⟩;have af9:G.af (ae.set key (.l xs))=true:=by rw[<- BE.av bQ.e sP];exact YX
 simp[bc.af,af9,SV.af,V1.af,ak.af,gI]
theorem LO{a:Act}{key:Nat}{xs:List (List Int)}
   (h:Sat w0 ae ph st a w) (sP:G.all st.has=true) (hGf:G.af ae=false) (bj:st.free key 1=true) :
   Step w0 ae (ae.set key (.l xs)) ph ph st ({st.bK key 1 with rows:=dN ⟨key,e,ks,key,true,G⟩ st.rows}.put dst ⟨G,.v (.one (.s key))⟩) (a.put dst undef) w w none:=by
 have vJ:st.has key=false:=dr bj (ga _) (by omega);have da:∀k,st.has k=true->k≠key:=fun k hk e=>by rw[e,vJ]at hk;cases hk
 have bQ:bH st.has ae (ae.set key (.l xs)) ph ph:=⟨fun k hk=>by simp[aF.set,da k hk],fun _ _=>rfl,fun k hk=>rfl⟩;have ke:=h.congr bQ;have bT:∀k,st.has k=true->(st.bK key 1).has k=true:=fun k hk=>ig hk;have Ia:G.af (ae.set key (.l xs))=false:=by rw[<- BE.av bQ.e sP];exact hGf
 have jA:(st.bK key 1).has key=true:=jy (ga _) (by omega);refine⟨⟨?_,?_,h.below,by rw[c8];exact h.defers,?_,?_⟩,bQ,cK w,fun k hk=>by rw[cP];exact bT k hk,fun b hb=>.inl ⟨b,by rw[cf]at hb;exact hb,rfl⟩⟩;refine oA (st:={st.bK key 1 with rows:=dN ⟨key,e,ks,key,true,G⟩ st.rows}) ke.tmps ?_;simp only[bc.af,Ia];rfl;rw[cf,dG];have hk:=ke.mem;have ho:∀r∈dN ⟨key,e,ks,key,true,G⟩ st.rows,r.g.af (ae.set key (.l xs))=true->r∈st.rows:=fun r hr h1=>by
   rcases eo.1 hr with rfl|hr;rw[Ia]at h1;cases h1;exact hr
 exact⟨hk.oo,hk.bb,fun r hr h1=>hk.row r (ho r hr h1) h1,fun b hb r hr h1=>hk.br b hb r (ho r hr h1) h1,fun r hr r' dj da hw h1 h2=>hk.rr r (ho r hr h1) r' (ho r' dj h2) da hw h1 h2⟩;refine⟨?_,?_,?_⟩;refine ij (st:={st.bK key 1 with rows:=dN ⟨key,e,ks,key,true,G⟩ st.rows}) (fun t s ht=>bc.aK bT (h.names.tmps t s ht)) ?_;simp only[bc.all,SV.all,V1.all,ak.all,ao];exact⟨BE.aK bT sP,jA⟩;rw[cf,cP];exact fun b hb=>iX.aK bT (h.names.bl b hb);rw[dG,cP];intro r hr;rcases eo.1 hr with rfl|hr;simp only[Row.all,ao];exact⟨jA,jA,BE.aK bT sP⟩;exact Row.aK bT (h.names.rows r hr)
 . refine dM.put (st:={st.bK key 1 with rows:=dN ⟨key,e,ks,key,true,G⟩ st.rows}) (ke.nest.next (cW (p:=st.has)) rfl bT (cK w) (fun k hk=>by cases hk) rfl (fun b hb=>.inl ⟨b,hb,rfl⟩) (fun r hr h1 k hk=>?_));rcases eo.1 hr with rfl|hr;rw[Ia]at h1;cases h1;exact .inl ⟨r,hr,id,h1,hk⟩
end
section
open Go.RowKit
variable {ae:aF}{ph:Ph}{P:Program}
variable{k:aF->Prop}{st:St}{w w0:World}{l:ak}{o:Oper}{sz:Nat}{t:TypeId}{v:V1}{x y:Operand}{j:Nat}{z:IE}{n:Nat}{bq:St}{dJ:List Ev}{es:List (Sum IE BE)}{ks:List CK}{nA:List (List Int)}{w':World}
def DV.kind:CT->DV->Bool
 |.c (.i _),.i _=>true
 |.c .b,.b _=>true
 |.c .f,.i _=>true
 |.s _ _,.l _=>true
 |.n _ _,.l _=>true
 |_,_=>false
def kinds:List CT->List DV->Bool
 | [],[]=>true
 |c::cs,d::ds=>d.kind c&&kinds cs ds
 |_,_=>false
structure eB where
 sig:bX
 pre:List DV->Prop
 rel:List DV->List DV->Prop
 ne:∀ds,pre ds->∃rs,kinds (bP sig.res) rs=true/\rel ds rs
structure bZ where
 get:FuncId->Option eB
 fl:Int->Prop
variable{Γ:bZ}
instance :CoeFun bZ (fun _=>FuncId->Option eB):=⟨bZ.get⟩
def bZ.at(Γ:bZ)(fl:Int->Prop):bZ:=⟨Γ.get,fl⟩
def defs:List CT->List DV
 | []=>[]
 |.c (.i _)::cs=>.i 0::defs cs
 |.c .b::cs=>.b false::defs cs
 |.c .f::cs=>.i 0::defs cs
 |.s _ _::cs=>.l []::defs cs
 |.n _ _::cs=>.l []::defs cs
theorem jf:∀cs:List CT,kinds cs (defs cs)=true/\(defs cs).length=cs.length:=by
 intro cs;induction cs with
 |nil=>exact⟨rfl,rfl⟩
 | cons c cs ih=>
   cases c with
   |c k=>cases k<;>simp[defs,kinds,DV.kind,ih]
   |s e ks=>simp[defs,kinds,DV.kind,ih]
   |n e aU=>simp[defs,kinds,DV.kind,ih]
def Ev.holds(Γ:bZ)(e:Ev)(k:aF->Prop)(ae:aF):Prop:=
 match e with
 |.aH p=>p.af ae=true/\k ae
 |.call f g args res base=>(g.af ae=true->∃c,Γ f=some c/\c.pre (args.map (DE.af ae))/\
     ∀rs,kinds (bP res) rs=true->c.rel (args.map (DE.af ae)) rs->k (ae.au base rs))/\(g.af ae=false->k (ae.au base (defs (bP res))))
 |.b8 id op=>k (ae.set id (.l (op.af ae)))
 |.dO p e=>(p.af ae=true->k ae)/\(p.af ae=false->Γ.fl (e.af ae))
theorem Ev.kf{e:Ev}{k':aF->Prop}{ae:aF}(hk:∀ae,k ae->k' ae)(h:e.holds Γ k ae):e.holds Γ k' ae:=by
 cases e with
 |aH p=>exact⟨h.1,hk _ h.2⟩
 | call f g args res base=>
   refine⟨fun hg=>?_,fun hg=>hk _ (h.2 hg)⟩;obtain⟨c,h1,h2,h3⟩:=h.1 hg;exact⟨c,h1,h2,fun rs a b=>hk _ (h3 rs a b)⟩
 |b8 id op=>exact hk _ h
 |dO p e=>exact⟨fun hp=>hk _ (h.1 hp),h.2⟩
def aW(Γ:bZ):List Ev->(aF->Prop)->aF->Prop
 | [],k,ae=>k ae
 |e::es,k,ae=>e.holds Γ (aW Γ es k) ae
theorem gb:∀ {es Uf:List Ev} {ae:aF},aW Γ (es++Uf) k ae=aW Γ es (aW Γ Uf k) ae:=by
 intro es;induction es with
 |nil=>intro Uf ae;rfl
 | cons e es ih=>
   intro Uf ae;have:aW Γ (es++Uf) k=aW Γ es (aW Γ Uf k):=funext fun _=>ih;simp only[sR,aW,this]
def vm(ph:Ph):ak->Option Nat
 |.p id _=>some (ph.r id)
 |.pi id _ _ _ _=>some (ph.r id)
 |.ep row _ _ _=>(ph.val row).ownBlock
 |_=>none
def sC(st:St)(ph:Ph):Op->Option Nat
 |.store _ a _=>(bJ st (.c true) a).bind (vm ph)
 | .call {callee:=.builtin .append,args,..}=>match args.toList with
   | x::_=>match bJ st (.c true) x with
     |some (.s row)=>(ph.val row).ownBlock
     |_=>none
   | []=>none
 | .call {callee:=.builtin .copy,args,..}=>match args.toList with
   | x::_=>match bJ st (.c true) x with
     |some (.s row)=>(ph.val row).ownBlock
     |_=>none
   | []=>none
 | .call {callee:=.builtin .clear,args,..}=>match args.toList with
   | x::_=>match bJ st (.c true) x with
     |some (.s row)=>(ph.val row).ownBlock
     |_=>none
   | []=>none
 |_=>none
def qE(o:Oper)(a a':Act):Next->Prop
 |.value v=>a'=a.put o.dst v
 |.skip=>a'=a.put o.dst undef
 |_=>False
def pg(Γ:bZ)(P:Program)(w0:World)(ae:aF)(ph:Ph)(st bq:St)(o:Oper)(a:Act)(w:World)(k:aF->Prop):Prop:=
 ∃nx w' a' aq aQ,(execOp a.eval o).run P w = .ok nx w'/\qE o a a' nx/\Step w0 ae aq ph aQ st bq a' w w' (sC st ph o.op)/\k aq
theorem Gk{cells:List ak}{o:Nat}{m:ak}(hc:cells[o]?=some l)(h:m.af ae ph=l.af ae ph):(cells.set o m).map (ak.af ae ph)=cells.map (ak.af ae ph):=by
 rw[List.map_set,h];apply List.ext_getElem?;intro q;rw[List.getElem?_set];split;rename_i hm;subst hm;obtain⟨Ax,sD⟩:=dw.1 hc;simp[Ax,sD];rfl
theorem yY{x:IE}{o:Nat}{cells r:List ak}(h:ry x l sz cells o j (n+1)=some r):∃c m,cells[o]?=some c/\ry x l sz (cells.set o m) (o+sz) (j+1) n=some r/\
   (x.af ae=(j:Int)->m.af ae ph=l.af ae ph)/\(x.af ae≠(j:Int)->m.af ae ph=c.af ae ph):=by
 simp only[ry]at h;split at h;rename_i k a k' b hc;split at h;rename_i hk;subst hk;exact⟨_,_,hc,h,fun e=>by simp[ak.af,IE.af,e],fun e=>by simp[ak.af,IE.af,e]⟩;cases h;rename_i p q hc;exact⟨_,_,hc,h,fun e=>by simp[ak.af,BE.af,IE.af,e],fun e=>by simp[ak.af,BE.af,IE.af,e]⟩;cases h
theorem Gl{x:IE}:∀ {n j:Nat} {cells r:List ak} {o:Nat},ry x l sz cells o j n=some r->x.af ae<(j:Int)->r.length=cells.length/\r.map (ak.af ae ph)=cells.map (ak.af ae ph):=by
 intro n;induction n with
 |zero=>intro j cells r o h _;simp only[ry,ah]at h;subst h;exact⟨rfl,rfl⟩
 | succ n ih=>
   intro j cells r o h cM;obtain⟨c,m,hc,h',_,h2⟩:=yY (ae:=ae) (ph:=ph) h;obtain⟨e1,e2⟩:=ih h' (by omega);exact⟨by simpa using e1,by rw[e2,Gk hc (h2 (by omega))]⟩
theorem Gm{x:IE}:∀ {n j:Nat} {cells r:List ak} {o:Nat},ry x l sz cells o j n=some r->∀i:Nat,x.af ae=((j+i:Nat):Int)->i<n->
   r.length=cells.length/\o+i*sz<cells.length/\r.map (ak.af ae ph)=(cells.map (ak.af ae ph)).set (o+i*sz) (l.af ae ph):=by
 intro n;induction n with
 |zero=>intro j cells r o _ i _ hi;omega
 | succ n ih=>
   intro j cells r o h i hx hi;obtain⟨c,m,hc,h',h1,h2⟩:=yY (ae:=ae) (ph:=ph) h;have cM:o<cells.length:=(dw.1 hc).1;cases i with
   | zero=>
     simp only[iy]at hx;obtain⟨e1,e2⟩:=Gl (ae:=ae) (ph:=ph) h' (by omega);refine⟨by simpa using e1,by simpa using cM,?_⟩;rw[e2,List.map_set,h1 hx];simp
   | succ i=>
     obtain⟨e1,e2,e3⟩:=ih h' i (by rw[hx];congr 1;omega) (by omega);have hs:o+(i+1)*sz=o+sz+i*sz:=by rw[lY];omega
     refine⟨by simpa using e1,by simpa[hs]using e2,?_⟩;rw[e3,hs,Gk hc (h2 (by omega))]
theorem Ck{cells Ot:List ak}(h:cells.map (ak.af ae ph)=Ot.map (ak.af ae ph))(off:Nat)(ls:List ak):(je cells off ls).map (ak.af ae ph)=(je Ot off ls).map (ak.af ae ph):=by
 rw[nK,nK,h]
theorem Ei{x:IE}{i:Nat}(hx:x.af ae=(i:Int))(hi:i<n):∀ {ls cells r:List ak} {off:Nat},wM x sz n cells off ls=some r->
   r.length=cells.length/\(0<ls.length->off+i*sz+ls.length<=cells.length)/\r.map (ak.af ae ph)=(je cells (off+i*sz) ls).map (ak.af ae ph):=by
 intro ls;induction ls with
 |nil=>intro cells r off h;simp only[wM,ah]at h;subst h;exact⟨rfl,fun h=>by simp at h,rfl⟩
 | cons l ls ih=>
   intro cells r off h;simp only[wM]at h;split at h;rename_i cs jc;obtain⟨e1,e2,e3⟩:=Gm (ae:=ae) (ph:=ph) jc i (by rw[hx];simp) hi;obtain⟨f1,f2,f3⟩:=ih h;refine⟨by rw[f1,e1],fun _=>?_,?_⟩;rcases Nat.eq_zero_or_pos ls.length with h0|h0;simp only[pf,h0];omega;have:=f2 h0;simp only[pf];omega;rw[f3];simp only[je];rw[show off+1+i*sz=off+i*sz+1 by omega];exact Ck (by rw[e3,List.map_set]) _ _;cases h
theorem jK{p:BE}{es:List Ev}(h:aW Γ (.aH p::es) k ae):p.af ae=true/\aW Γ es k ae:=h
theorem cC:(BE.c true).af ae=true:=rfl
theorem ou{B:Nat}{a:Act}(hs:Sat w0 ae ph st a w){r:Row}(bD:r∈st.rows)(bR:r.own=true)(mw:r.g.af ae=true){k:Nat}(hk:(ph.val r.id).ownBlock=some k) :
   (w0.heap.size<=k/\¬ ph.z k/\∀n∈st.bp,n.own=true->(ph.val n.id).ownBlock≠some k)/\(∀b∈st.bl,some k≠some (ph.r b.id))/\∀q∈st.rows,q.id≠r.id->q.g.af ae=true->∀k',q.cc ae ph=some k'->some k≠some k':=by
 have ft:r.cc ae ph=some k:=by simp[Row.cc,bR,hk]
 have bB:=hs.mem.row r bD mw;have dz:=bB.2;rw[if_pos bR]at dz;refine⟨⟨(dz.lt k hk).1,hs.nest.rz r bD bR mw k ft,fun n hn ho e=>((hs.nest.oz n hn ho).2 _ e).2.2.1 r bD mw ft⟩,fun b hb e=>?_,fun q hq da Io k' dH e=>?_⟩;simp only[ah]at e;exact hs.mem.br b hb r bD mw (by rw[ft,e]);simp only[ah]at e;subst e;exact hs.mem.rr r bD q hq (fun e=>da e.symm) bR mw Io k ft dH
theorem s8{a:Act}{dst:Option Tmp}{key:Nat}{r:Row}{s:bc}{v:Value}(hs:Sat w0 ae ph st a w)(bD:r∈st.rows)(bR:r.own=true)(mw:r.g.af ae=true)
   (bj:st.free key 1=true) (jA:w'.ownsRow w0.heap.size r.e r.ks.length (ph.val r.id) nA.length (aJ r.ks nA)) (iM:w.grownBy w' (ph.val r.id).ownBlock)
   (hsa:s.all (st.bK key 1).has=true) (hv:v=s.af (ae.set key (.l nA)) ph) :
   Step w0 ae (ae.set key (.l nA)) ph ph st ({st.bK key 1 with rows:=dN {r with lv:=key} (st.rows.filter fun z=>decide (z.id≠r.id)) }.put dst s) (a.put dst v) w w' (ph.val r.id).ownBlock:=by
 have vJ:st.has key=false:=dr bj (ga _) (by omega);have da:∀k,st.has k=true->k≠key:=fun k hk e=>by rw[e,vJ]at hk;cases hk
 have bQ:bH st.has ae (ae.set key (.l nA)) ph ph:=⟨fun k hk=>by simp[aF.set,da k hk],fun _ _=>rfl,fun _ _=>rfl⟩;have hn:=hs.names.rows r bD;simp only[Row.all,ao]at hn;have s9:∀q∈st.rows.filter (fun z=>decide (z.id≠r.id)),q∈st.rows/\q.id≠r.id:=fun q hq=>by
   have:=jB.1 hq;exact⟨this.1,by simpa using this.2⟩
 refine Eh (nr:={r with lv:=key}) hs rfl hn.2.2 mw bj (fun q hq=>(s9 q hq).1) iM (fun k hk=>(ou (B:=0) hs bD bR mw hk).1) bQ rfl (ig hn.1)
   (fun b hb e=>(ou (B:=0) hs bD bR mw e).2.1 b hb rfl) (fun q hq Io k hk e=>(ou (B:=0) hs bD bR mw e).2.2 q (s9 q hq).1 (s9 q hq).2 Io k hk rfl)
   ⟨(hs.mem.row r bD mw).1,?_⟩ (fun k hk=>.inl ?_) hsa hv
 rw[if_pos bR];simp only[aF.set,if_true,DV.list];exact jA;simpa[Row.cc,bR]using hk
theorem ta{a:Act}{key:Nat}{r:Row}{g cap:Nat}{op:ew}(hs:Sat w0 ae ph st a w)(ho:o.op = .store t x y)
   (hl:bJ st (.c true) x=some (.ep r.id sz z j)) (bD:r∈st.rows) (bR:r.own=true) (mw:r.g.af ae=true)
   (bj:st.free key 1=true) (bB:gZ w0.heap.size ae ph r w) (gI:ph.val r.id = .slice (some ⟨g,0,none⟩) (ae r.lv).list.length cap) (hBg:w0.heap.size<=g) (Ej:op.af ae=nA) (qw:nA.length=(ae r.lv).list.length)
   (eK:(Instr.storeAt t ((ak.ep r.id sz z j).af ae ph) (v.af ae ph)).run P w = .ok () w') (jA:w'.ownsRow w0.heap.size r.e r.ks.length (.slice (some ⟨g,0,none⟩) (ae r.lv).list.length cap) (ae r.lv).list.length (aJ r.ks nA)) (iM:w.grownBy w' (some g))
   (cY:∀w',(Instr.storeAt t ((ak.ep r.id sz z j).af ae ph) (v.af ae ph)).run P w = .ok () w'->(execOp a.eval o).run P w = .ok .skip w') (hk:aW Γ [.b8 key op] k ae) :
   pg Γ P w0 ae ph st ({st.bK key 1 with rows:=dN {r with lv:=key} (st.rows.filter fun z=>decide (z.id≠r.id)) }.put o.dst kT) o a w k:=by
 have dH:k (ae.set key (.l nA)):=by rw[<- Ej];exact hk
 have Ou:(ph.val r.id).ownBlock=some g:=by rw[gI];rfl
 have hW:sC st ph o.op=(ph.val r.id).ownBlock:=by simp[ho,sC,hl,vm]
 refine⟨.skip,_,_,ae.set key (.l nA),ph,cY _ eK,rfl,?_,dH⟩;rw[hW];exact s8 hs bD bR mw bj (by rw[gI,qw];exact jA) (by rw[Ou];exact iM) oE oC.symm
theorem C5(x:Bool):Value.bool x=CK.b.val (if x=true then 1 else 0):=by cases x<;>rfl
theorem tc:∀ {ks:List CK} {ls:List ak} {xs:List (Sum IE BE)},fi ks ls=some xs->∀(pre:List Int) (j:Nat),pre.length=j->ls.map (ak.af ae ph)=bU ks j (pre++xs.map (cg ae)):=by
 intro ks;induction ks with
 | nil=>intro ls xs h pre j hj;cases ls with
   |nil=>rfl
   |cons l ls=>simp[fi]at h
 | cons k ks ih=>intro ls xs h pre j hj;cases ls with
   |nil=>simp[fi]at h
   | cons l ls=>
     simp only[fi]at h;split at h;rename_i x nA hx qA;simp only[ah]at h;subst h;have h1:=ih qA (pre++[cg ae x]) (j+1) (by simp[hj]);simp only[kQ,bU];have e1:pre++cg ae x::nA.map (cg ae)=(pre++[cg ae x])++nA.map (cg ae):=by simp
     rw[e1,<- h1];congr 1;have e2:((pre++[cg ae x])++nA.map (cg ae)).getD j 0=cg ae x:=by
       subst hj;simp[cm]
     rw[e2];unfold oF at hx;split at hx;split at hx;rename_i hk;subst hk;simp only[ah]at hx;subst hx;rfl;cases hx;simp only[ah]at hx;subst hx;rename_i b;exact C5 _;cases hx;cases h
theorem pC:∀ {ks:List CK} {ls:List ak} {xs:List (Sum IE BE)},fi ks ls=some xs->ls.length=ks.length/\xs.length=ks.length:=by
 intro ks;induction ks with
 | nil=>intro ls xs h;cases ls with
   |nil=>simp only[fi,ah]at h;subst h;exact⟨rfl,rfl⟩
   |cons l ls=>simp[fi]at h
 | cons k ks ih=>intro ls xs h;cases ls with
   |nil=>simp[fi]at h
   | cons l ls=>
     simp only[fi]at h;split at h;rename_i x nA hx qA;simp only[ah]at h;subst h;obtain⟨h1,h2⟩:=ih qA;exact⟨by simp[h1],by simp[h2]⟩;cases h
theorem rA{kd:CK}{x:Sum IE BE}(h:oF kd l=some x):l.af ae ph=kd.val (cg ae x):=by
 unfold oF at h;split at h;split at h;rename_i hk;subst hk;simp only[ah]at h;subst h;rfl;cases h;simp only[ah]at h;subst h;exact C5 _;cases h
theorem Gn{a:Act}{key:Nat}{r:Row}{e:Sum IE BE}{kd:CK}{lf:ak}(hs:Sat w0 ae ph st a w)(ho:o.op = .store t x y)
   (hl:bJ st (.c true) x=some (.ep r.id sz z j)) (hv:lS st (.c true) y=some v) (C6:v.leaves=[lf]) (hlc:oF kd lf=some e) (hlen:v.leaves.length=P.cellsOf t) (bD:r∈st.rows) (bR:r.own=true) (mw:r.g.af ae=true)
   (vK:r.ks.length=sz) (YY:r.ks[j]?=some kd) (bj:st.free key 1=true) (h0:0<=z.af ae) (h1:z.af ae<((ae r.lv).list.length:Int))
   (cY:∀w',(Instr.storeAt t ((ak.ep r.id sz z j).af ae ph) (v.af ae ph)).run P w = .ok () w'->(execOp a.eval o).run P w = .ok .skip w') (hk:aW Γ [.b8 key (.set r.lv z j e)] k ae) :
   pg Γ P w0 ae ph st ({st.bK key 1 with rows:=dN {r with lv:=key} (st.rows.filter fun z=>decide (z.id≠r.id)) }.put o.dst kT) o a w k:=by
 subst vK;have bB:=hs.mem.row r bD mw;have dz:=bB.2;rw[if_pos bR]at dz;obtain⟨ad,cap,jV,_⟩:=jN bB h0 h1;have gI:ph.val r.id = .slice (some ad) (ae r.lv).list.length cap:=by simp[Ph.val,jV]
 rw[gI]at dz;have had:∃g,ad=⟨g,0,none⟩/\w0.heap.size<=g:=by
   rcases dz.2 with⟨e1,_⟩|⟨g,qy,cur,e1,hg,_⟩;simp at e1;simp only[Value.slice.injEq,ah]at e1;exact⟨g,e1.1,hg⟩
 obtain⟨g,rfl,hBg⟩:=had;have hj:j<r.ks.length:=(dw.1 YY).1;obtain⟨i,hi⟩:∃i:Nat,z.af ae=(i:Int):=⟨(z.af ae).toNat,by omega⟩;have Ov:i<(ae r.lv).list.length:=by omega
 have Ie:i*r.ks.length+j<(ae r.lv).list.length*r.ks.length:=by
   have:(i+1)*r.ks.length<=(ae r.lv).list.length*r.ks.length:=x9 _ (by omega);rw[lY]at this;omega
 have nB:=dz.cellAt (i*r.ks.length+j) Ie;have hfz:=dz.frozenAt (i*r.ks.length+j);obtain⟨jA,iM⟩:=dz.stored (i*r.ks.length+j) (kd.val (cg ae e));have jc:∃u,w.cell? ⟨g,i*r.ks.length+j,none⟩=some u:=by
   rw[nB];have:i*r.ks.length+j<(aJ r.ks (ae r.lv).list).length:=by rw[bV];exact Ie
   exact⟨_,eN this⟩
 obtain⟨u,hu⟩:=jc;have eK:(Instr.storeAt t ((ak.ep r.id r.ks.length z j).af ae ph) (v.af ae ph)).run P w = .ok () (w.setCell ⟨g,i*r.ks.length+j,none⟩ (kd.val (cg ae e))):=by
   have uu:0<P.cellsOf t:=by rw[<- hlen,C6];simp
   have nL:P.cellsOf t=1:=by rw[<- hlen,C6];rfl
   simp only[Instr.storeAt,ak.af,jV,Instr.sureAddr,ff,gk,fc,storeVar,cA uu,V1.fZ,C6];rw[if_neg (by simp[nL])];simp only[kQ,pj,rA (ae:=ae) (ph:=ph) hlc,storeCells,ff,hi,pz,iF,iy,jM,fR];rw[run_store P w _ _ _ (CK.pq _ _)];simp[stored,hu,hfz]
 refine ta hs ho hl bD bR mw bj bB gI hBg (nA:=setAt (ae r.lv).list (z.af ae) j (cg ae e)) rfl (wK ..) eK ?_ iM cY hk;rw[hi,s7 r.ks _ i j _ _ Ov YY];exact jA
theorem AB{ls:List ak}{r:List (Sum IE BE)}(h:fi ks ls=some r):bU ks 0 (r.map (cg ae))=ls.map (ak.af ae ph):=by
 have:=tc (ae:=ae) (ph:=ph) h [] 0 rfl;simpa using this.symm
theorem uw:∀(vs cells:List Value) (off k:Nat),off+k+vs.length<=cells.length->
   (vs.zipIdx k).foldl (fun cs (x:Value×Nat)=>cs.set (off+x.2) x.1) cells=cells.take (off+k)++vs++cells.drop (off+k+vs.length):=by
 intro vs;induction vs with
 |nil=>intro cells off k h;simp
 | cons v vs ih=>
   intro cells off k h;simp only[pf]at h;simp only[List.zipIdx_cons,xU];rw[ih _ off (k+1) (by simp;omega)];have e1:(cells.set (off+k) v).take (off+(k+1))=cells.take (off+k)++[v]:=by
     rw[show off+(k+1)=(off+k)+1 by omega,List.take_succ_eq_append_getElem (by simp;omega)];simp[List.take_set_of_le]
   have e2:(cells.set (off+k) v).drop (off+(k+1)+vs.length)=cells.drop (off+k+(vs.length+1)):=by
     rw[List.drop_set_of_lt (by omega)];congr 1;omega
   rw[e1,e2];simp
theorem zJ(ks:List CK)(row:List Int):∀(xs:List (List Int)) (i:Nat),i<xs.length->aJ ks (xs.modify i (fun _=>row))=(aJ ks xs).take (i*ks.length)++(bU ks 0 row++(aJ ks xs).drop (i*ks.length+ks.length)):=by
 intro xs;induction xs with
 |nil=>intro i hi;simp at hi
 | cons r rs ih=>
   intro i hi;have hl:=cO ks 0 r;cases i with
   | zero=>
     simp only[List.modify_zero_cons,aJ,Nat.zero_mul,List.take_zero,nM,fR];rw[Ip (by omega),wN (by omega),nM]
   | succ i=>
     simp only[List.modify_succ_cons,aJ];rw[ih i (by simpa using hi)];have e:(i+1)*ks.length=ks.length+i*ks.length:=by rw[lY];omega
     rw[e,List.take_append,List.drop_append,hl,show ks.length+i*ks.length-ks.length=i*ks.length by omega,show ks.length+i*ks.length+ks.length-ks.length=i*ks.length+ks.length by omega];rw[qB (l:=bU ks 0 r) (by omega),wN (l:=bU ks 0 r) (by omega)];simp
theorem ya(ks:List CK):∀(j:Nat) (r:List Int),∀u∈bU ks j r,u.oneCell'=true:=by
 induction ks with
 |nil=>intro j r u hu;simp[bU]at hu
 | cons k ks ih=>
   intro j r u hu;simp only[bU,bC]at hu;rcases hu with rfl|hu;exact CK.pq _ _;exact ih _ _ u hu
theorem Ek{a:Act}{key:Nat}{r:Row}(hs:Sat w0 ae ph st a w)(ho:o.op = .store t x y)
   (hl:bJ st (.c true) x=some (.ep r.id r.ks.length z 0)) (hv:lS st (.c true) y=some v) (F5:v.leaves.map (ak.af ae ph)=bU r.ks 0 (es.map (cg ae))) (hlen:v.leaves.length=P.cellsOf t) (bD:r∈st.rows) (bR:r.own=true) (mw:r.g.af ae=true)
   (bj:st.free key 1=true) (h0:0<=z.af ae) (h1:z.af ae<((ae r.lv).list.length:Int))
   (cY:∀w',(Instr.storeAt t ((ak.ep r.id r.ks.length z 0).af ae ph) (v.af ae ph)).run P w = .ok () w'->(execOp a.eval o).run P w = .ok .skip w') (hk:aW Γ [.b8 key (.zK r.lv z es)] k ae) :
   pg Γ P w0 ae ph st ({st.bK key 1 with rows:=dN {r with lv:=key} (st.rows.filter fun z=>decide (z.id≠r.id)) }.put o.dst kT) o a w k:=by
 have bB:=hs.mem.row r bD mw;have dz:=bB.2;rw[if_pos bR]at dz;obtain⟨ad,cap,jV,_⟩:=jN bB h0 h1;have gI:ph.val r.id = .slice (some ad) (ae r.lv).list.length cap:=by simp[Ph.val,jV]
 rw[gI]at dz;obtain⟨qw,⟨e1,_⟩|⟨g,qy,cur,e1,hg,hh,vC,Gp,jc,td⟩⟩:=dz;simp at e1;simp only[Value.slice.injEq,ah,true_and]at e1;obtain⟨rfl,rfl⟩:=e1;obtain⟨i,hi⟩:∃i:Nat,z.af ae=(i:Int):=⟨(z.af ae).toNat,by omega⟩;have Ov:i<(ae r.lv).list.length:=by omega
 have te:(bU r.ks 0 (es.map (cg ae))).length=r.ks.length:=cO _ _ _;have yb:i*r.ks.length+r.ks.length<=(ae r.lv).list.length*r.ks.length:=by
   have:(i+1)*r.ks.length<=(ae r.lv).list.length*r.ks.length:=x9 _ (by omega);rw[lY]at this;omega
 have vL:(ae r.lv).list.length*r.ks.length<=cap*r.ks.length:=x9 _ vC;have pc:cur.toList.length=cap*r.ks.length:=by simpa using jc
 obtain⟨w',hr,iM,NU⟩:=kX (P:=P) g r.e (i*r.ks.length) (bU r.ks 0 (es.map (cg ae))) 0 cur.toList w (by simpa using hh) (by rw[te,pc];omega) (ya _ _ _);have rC:=uw (bU r.ks 0 (es.map (cg ae))) cur.toList (i*r.ks.length) 0 (by rw[te,pc];omega);simp only[iy]at rC;rw[rC]at NU;have eK:(Instr.storeAt t ((ak.ep r.id r.ks.length z 0).af ae ph) (v.af ae ph)).run P w = .ok () w':=by
   have hlk:P.cellsOf t=r.ks.length:=by
     have:=congrArg List.length F5;rw[qd,te]at this;omega
   have uu:0<P.cellsOf t:=by rw[hlk];exact bB.1
   simp only[Instr.storeAt,ak.af,jV,Instr.sureAddr,ff,gk,fc,storeVar,cA uu,V1.fZ];rw[if_neg (by simp[hlen]),F5];simp only[hi,pz,iy,jM,fR];exact hr
 refine ta hs ho hl bD bR mw bj bB gI hg (nA:=(ae r.lv).list.modify i (fun _=>es.map (cg ae))) (by simp only[ew.af,hi,pz]) (by simp) eK ?_ iM cY hk;refine⟨by rw[bV];simp,.inr ⟨g,cap,_,rfl,hg,NU,vC,Gp,?_,?_⟩⟩;simp only[List.size_toArray,fE,uV,List.length_drop,te,pc];omega;rw[zJ r.ks _ _ i Ov,<- td];apply List.ext_getElem?;intro m;simp only[Ay,List.getElem?_append,uV,fE,te,pc,List.getElem?_drop];grind
theorem yc(ks:List CK)(i:Nat):∀(cs:List (Sum IE BE)) (ls:List ak) (xs:List (List Int)) (j:Nat),i<xs.length->j+ls.length<=ks.length->fi ((ks.drop j).take ls.length) ls=some cs->
   aJ ks (xs.modify i (fun r=>j4 r j (cs.map (cg ae))))=((ls.map (ak.af ae ph)).zipIdx 0).foldl (fun cur (x:Value×Nat)=>cur.set (i*ks.length+j+x.2) x.1) (aJ ks xs):=by
 have gen:∀(cs:List (Sum IE BE)) (ls:List ak) (xs:List (List Int)) (j m:Nat),i<xs.length->j+m+ls.length<=ks.length->fi ((ks.drop (j+m)).take ls.length) ls=some cs->
     aJ ks (xs.modify i (fun r=>j4 r (j+m) (cs.map (cg ae))))=((ls.map (ak.af ae ph)).zipIdx m).foldl (fun cur (x:Value×Nat)=>cur.set (i*ks.length+j+x.2) x.1) (aJ ks xs):=by
   intro cs;induction cs with
   | nil=>
     intro ls xs j m hi hl h;have:=(pC h).2;have hll:=(pC h).1;have:ls=[]:=D5 (by simp at this;omega);subst this;simp only[pj,j4,List.zipIdx_nil,List.foldl_nil];congr 1;exact List.modify_id ..
   | cons c cs ih=>
     intro ls xs j m hi hl h;cases ls with
     |nil=>simp[fi]at h
     | cons l ls=>
       simp only[pf]at hl h;have hjm:j+m<ks.length:=by omega
       rw[List.drop_eq_getElem_cons hjm,List.take_succ_cons]at h;simp only[fi]at h;split at h;rename_i y ys hy hys;simp only[ah,List.cons.injEq]at h;obtain⟨rfl,rfl⟩:=h;simp only[kQ,j4,List.zipIdx_cons,xU];have e:xs.modify i (fun r=>j4 (mW r (j+m) (cg ae y)) (j+m+1) (ys.map (cg ae)))=(setAt xs (i:Int) (j+m) (cg ae y)).modify i (fun r=>j4 r (j+(m+1)) (ys.map (cg ae))):=by
         simp only[setAt,pz,List.modify_modify_eq];rfl
       rw[e,ih ls _ j (m+1) (by rw[wK];exact hi) (by omega) hys,s7 ks xs i (j+m) _ _ hi (eN hjm),rA (ae:=ae) (ph:=ph) hy,Nat.add_assoc];cases h
 intro cs ls xs j hi hl h;exact gen cs ls xs j 0 hi (by simpa using hl) (by simpa using h)
theorem AD(f:Nat->Nat)(n:Nat):∀(vs:List (Value×Nat)) (cur:List Value),(vs.foldl (fun cur x=>cur.set (f x.2) x.1) cur).take n=vs.foldl (fun cur x=>cur.set (f x.2) x.1) (cur.take n):=by
 intro vs;induction vs with
 |nil=>intro cur;rfl
 |cons v vs ih=>intro cur;simp only[xU];rw[ih,List.take_set]
theorem Cl(f:Nat->Nat):∀(vs:List (Value×Nat)) (cur:List Value),(vs.foldl (fun cur x=>cur.set (f x.2) x.1) cur).length=cur.length:=by
 intro vs;induction vs with
 |nil=>intro cur;rfl
 |cons v vs ih=>intro cur;simp only[xU];rw[ih,List.length_set]
theorem El{a:Act}{key:Nat}{r:Row}(hs:Sat w0 ae ph st a w)(ho:o.op = .store t x y)
   (hl:bJ st (.c true) x=some (.ep r.id r.ks.length z j)) (hv:lS st (.c true) y=some v) (F5:fi ((r.ks.drop j).take v.leaves.length) v.leaves=some es) (hlen:v.leaves.length=P.cellsOf t) (nF:0<v.leaves.length) (H8:j+v.leaves.length<=r.ks.length) (bD:r∈st.rows) (bR:r.own=true) (mw:r.g.af ae=true)
   (bj:st.free key 1=true) (h0:0<=z.af ae) (h1:z.af ae<((ae r.lv).list.length:Int))
   (cY:∀w',(Instr.storeAt t ((ak.ep r.id r.ks.length z j).af ae ph) (v.af ae ph)).run P w = .ok () w'->(execOp a.eval o).run P w = .ok .skip w') (hk:aW Γ [.b8 key (.Em r.lv z j es)] k ae) :
   pg Γ P w0 ae ph st ({st.bK key 1 with rows:=dN {r with lv:=key} (st.rows.filter fun z=>decide (z.id≠r.id)) }.put o.dst kT) o a w k:=by
 have bB:=hs.mem.row r bD mw;have dz:=bB.2;rw[if_pos bR]at dz;obtain⟨ad,cap,jV,_⟩:=jN bB h0 h1;have gI:ph.val r.id = .slice (some ad) (ae r.lv).list.length cap:=by simp[Ph.val,jV]
 rw[gI]at dz;obtain⟨qw,⟨e1,_⟩|⟨g,qy,cur,e1,hg,hh,vC,Gp,jc,td⟩⟩:=dz;simp at e1;simp only[Value.slice.injEq,ah,true_and]at e1;obtain⟨rfl,rfl⟩:=e1;obtain⟨i,hi⟩:∃i:Nat,z.af ae=(i:Int):=⟨(z.af ae).toNat,by omega⟩;have Ov:i<(ae r.lv).list.length:=by omega
 have yb:i*r.ks.length+r.ks.length<=(ae r.lv).list.length*r.ks.length:=by
   have:(i+1)*r.ks.length<=(ae r.lv).list.length*r.ks.length:=x9 _ (by omega);rw[lY]at this;omega
 have vL:(ae r.lv).list.length*r.ks.length<=cap*r.ks.length:=x9 _ vC;have pc:cur.toList.length=cap*r.ks.length:=by simpa using jc
 obtain⟨w',hr,iM,NU⟩:=kX (P:=P) g r.e (i*r.ks.length+j) (v.leaves.map (ak.af ae ph)) 0 cur.toList w (by simpa using hh) (by rw[qd,pc];omega) (fun u hu=>by
   obtain⟨l,_,rfl⟩:=jz.1 hu;exact ak.yU l)
 have eK:(Instr.storeAt t ((ak.ep r.id r.ks.length z j).af ae ph) (v.af ae ph)).run P w = .ok () w':=by
   have uu:0<P.cellsOf t:=by omega
   simp only[Instr.storeAt,ak.af,jV,Instr.sureAddr,ff,gk,fc,storeVar,cA uu,V1.fZ];rw[if_neg (by simp[hlen])];simp only[hi,pz,jM,fR];exact hr
 refine ta hs ho hl bD bR mw bj bB gI hg (nA:=(ae r.lv).list.modify i (fun r=>j4 r j (es.map (cg ae)))) (by simp only[ew.af,hi,pz]) (by simp) eK ?_ iM cY hk;refine⟨by rw[bV];simp,.inr ⟨g,cap,_,rfl,hg,NU,vC,Gp,?_,?_⟩⟩;simp only[List.size_toArray];rw[Cl (fun q=>i*r.ks.length+j+q),pc];rw[yc (ae:=ae) (ph:=ph) r.ks i es v.leaves _ j Ov H8 F5,<- td];simp only[D8];exact AD (fun q=>i*r.ks.length+j+q) _ _ _
theorem Iq{a:Act}{key:Nat}(hs:Sat w0 ae ph st a w)(ho:o.op = .store t x y)
   (hl:bJ st (.c true) x=some l) (hv:lS st (.c true) y=some v) (hlen:v.leaves.length=P.cellsOf t) (nF:0<P.cellsOf t) (h:tf st l v.leaves key o.dst=some (dJ,bq)) (hk:aW Γ dJ k ae) :
   pg Γ P w0 ae ph st bq o a w k:=by
 have ex:=aG hl cC hs.tmps;have ey:=cZ hv cC hs.tmps;have cY:∀w',(Instr.storeAt t (l.af ae ph) (v.af ae ph)).run P w = .ok () w'->(execOp a.eval o).run P w = .ok .skip w':=fun w' hr=>by
   simp only[execOp,ho,ex,ey,ff,hr,fc,gk]
 have hW:sC st ph o.op=vm ph l:=by simp[ho,sC,hl]
 unfold tf at h;split at h;rename_i id off;split at h;rename_i b hb;obtain⟨bD,rfl⟩:=eW hb;split at h;rename_i Ie;obtain⟨w',hr,hg,hh⟩:=yW (P:=P) (ae:=ae) (ph:=ph) (t:=t) (off:=off) hlen nF (hs.mem.oo b bD).2 Ie;obtain⟨rfl,fk⟩:=wJ hs h bD hg hh;exact⟨.skip,w',_,ae,ph,cY w' hr,rfl,by rw[hW];exact fk,hk⟩;cases h;cases h;rename_i id off sz n z;split at h;rename_i b hb;obtain⟨bD,rfl⟩:=eW hb;split at h;rename_i cs jc;split at h;rename_i hn;split at h;rename_i zL LP rC;simp only[ah,aD]at h;obtain⟨rfl,rfl⟩:=h;obtain⟨h0,hk⟩:=jK hk;obtain⟨h1,hk⟩:=jK hk;have h0:=ck h0;have h1:=fJ h1;simp only[IE.af]at h0 h1;obtain⟨e1,e2,e3⟩:=Ei (ae:=ae) (ph:=ph) (x:=z) (i:=(z.af ae).toNat) (by omega) (by omega) jc;have YZ:=(hs.mem.oo b bD).2;obtain⟨w',hr,hg,hh⟩:=yW (P:=P) (ae:=ae) (ph:=ph) (t:=t) (off:=off+(z.af ae).toNat*sz) hlen nF YZ (e2 hn.2.2);have NU:w'.heap[ph.r b.id]?=some (.cells (cs.map (ak.af ae ph)).toArray b.ty (0,0)):=by
   rw[hh,e3]
 obtain⟨rfl,fk⟩:=wJ hs rC bD hg NU;exact⟨.skip,w',_,ae,ph,cY w' hr,rfl,by rw[hW];exact fk,hk⟩;cases h;cases h;cases h;cases h;rename_i row sz z j;split at h;rename_i r lf hr C6;obtain⟨bD,rfl⟩:=bn hr;split at h;rename_i kj YY;split at h;rename_i y' hlc;split at h;rename_i hc;simp only[ao,aO]at hc;obtain⟨⟨⟨bR,pn⟩,vK⟩,bj⟩:=hc;simp only[ah,aD]at h;obtain⟨rfl,rfl⟩:=h;obtain⟨h0,hk⟩:=jK hk;obtain⟨h1,hk⟩:=jK hk;have h0:=ck h0;have h1:=fJ h1;simp only[IE.af]at h0 h1;have mw:r.g.af ae=true:=by rw[pn];rfl
 exact Gn hs ho hl hv C6 hlc hlen bD bR mw vK YY bj h0 h1 cY hk;cases h;cases h;cases h;rename_i ls r hr da;split at h;rename_i es F5;obtain⟨bD,rfl⟩:=bn hr;split at h;rename_i hc;simp only[ao,aO]at hc;obtain⟨⟨⟨⟨⟨bR,pn⟩,vK⟩,hj0⟩,_⟩,bj⟩:=hc;subst hj0 vK;simp only[ah,aD]at h;obtain⟨rfl,rfl⟩:=h;obtain⟨h0,hk⟩:=jK hk;obtain⟨h1,hk⟩:=jK hk;have h0:=ck h0;have h1:=fJ h1;simp only[IE.af]at h0 h1;have mw:r.g.af ae=true:=by rw[pn];rfl
 have af':=AB (ae:=ae) (ph:=ph) F5;exact Ek hs ho hl hv (by rw[<- af']) hlen bD bR mw bj h0 h1 cY hk;cases h;split at h;rename_i es F5;obtain⟨bD,rfl⟩:=bn hr;split at h;rename_i hc;simp only[ao,aO]at hc;obtain⟨⟨⟨⟨⟨bR,pn⟩,vK⟩,H8⟩,acy⟩,bj⟩:=hc;subst vK;simp only[ah,aD]at h;obtain⟨rfl,rfl⟩:=h;obtain⟨h0,hk⟩:=jK hk;obtain⟨h1,hk⟩:=jK hk;have h0:=ck h0;have h1:=fJ h1;simp only[IE.af]at h0 h1;have mw:r.g.af ae=true:=by rw[pn];rfl
 exact El hs ho hl hv F5 hlen acy H8 bD bR mw bj h0 h1 cY hk;cases h;cases h;cases h;cases h
theorem LQ(ks:List CK):∀(n i:Nat) (ps:List (Nat×V1)) (rows:List (List (Sum IE BE))) (cells:List Value),pD ks n i ps=some rows->cells.length=(i+n)*ks.length->
   Instr.fill (fun i=>some (i*ks.length,ks.length)) cells.toArray (ps.map fun p=>(p.1,p.2.af ae ph))=some (cells.take (i*ks.length)++aJ ks (rows.map fun r=>r.map (cg ae))).toArray/\rows.length=n:=by
 intro n;induction n with
 | zero=>
   intro i ps rows cells h hl;cases ps with
   | nil=>
     simp only[pD,ah]at h;subst h;refine⟨?_,rfl⟩;simp only[pj,Instr.fill,aJ,vM];rw[qB (by rw[hl,iy];exact ga _)]
   |cons p ps=>simp[pD]at h
 | succ n ih=>
   intro i ps rows cells h hl;cases ps with
   |nil=>simp[pD]at h
   | cons p ps=>
     obtain⟨j,v⟩:=p;simp only[pD]at h;split at h;rename_i En;subst En;split at h;rename_i r rs hr vn;simp only[ah]at h;subst h;have hlen:=(pC hr).1;have zI:(v.leaves.map (ak.af ae ph)).length=ks.length:=by rw[qd,hlen]
     have yd:(i+(n+1))*ks.length=i*ks.length+ks.length+n*ks.length:=by rw[lY,lY,Nat.one_mul];omega
     simp only[kQ,Instr.fill,V1.fZ];rw[if_neg (by simp[hlen,hl,yd]<;>omega)];have rC:=uw (v.leaves.map (ak.af ae ph)) cells (i*ks.length) 0 (by rw[zI,hl,yd];omega);have LR:((v.leaves.map (ak.af ae ph)).toArray.zipIdx.foldl (fun cs (x:Value×Nat)=>cs.setIfInBounds (i*ks.length+x.2) x.1) cells.toArray)=(cells.take (i*ks.length)++v.leaves.map (ak.af ae ph)++cells.drop (i*ks.length+ks.length)).toArray:=by
       apply kS;rw[xV];simp only[D8];rw[rC,zI,iy]
     obtain⟨e1,e2⟩:=ih (i+1) ps rs (cells.take (i*ks.length)++v.leaves.map (ak.af ae ph)++cells.drop (i*ks.length+ks.length)) vn (by
       simp only[fE,uV,List.length_drop,zI,hl,yd];rw[show i+1+n=i+(n+1)by omega,yd];omega)
     refine⟨?_,by simp[e2]⟩;refine(congrArg (fun c=>Instr.fill (fun i=>some (i*ks.length,ks.length)) c (ps.map fun p=>(p.1,p.2.af ae ph))) LR).trans ?_;rw[e1];have bB:=AB (ae:=ae) (ph:=ph) hr;simp only[aJ,bB];congr 2;rw[show(i+1)*ks.length=i*ks.length+ks.length by rw[lY,Nat.one_mul]];rw[Eo (by simp only[fE,uV,zI,hl,yd];omega),qB (by simp only[fE,uV,zI,hl,yd];omega)];simp;cases h;cases h
theorem zM{a:Act}{parts:Array (Nat×Operand)}{e:TypeId}{ps:List (Nat×V1)}{rows:List (List (Sum IE BE))}{key:Nat}{G:BE}
   (hs:Sat w0 ae ph st a w) (ho:o.op = .buildSlice t n parts) (hu:P.underlying t=some (.slice e)) (hG:G.af ae=true) (F4:iN st G parts.toList=some ps) (ot:0<ks.length) (hz:((P.info? e).bind (·.zero)).isSome=true)
   (lT:n*ks.length<=16777216) (hc:P.cellsOf e=ks.length) (iw:pD ks n 0 ps=some rows) (h:newRow st G key e ks [] (.lit rows) st.rows o.dst=some (dJ,bq)) (hk:aW Γ dJ k ae) :
   pg Γ P w0 ae ph st bq o a w k:=by
 have AE:=qe (a:=a) hG hs.tmps F4;obtain⟨i,hi,z,NV⟩:∃i,P.info? e=some i/\∃z,i.zero=some z:=by
   cases hi:P.info? e with
   |none=>simp[hi]at hz
   |some i=>simp[hi]at hz;exact⟨i,rfl,At.1 hz⟩
 have hzr:(zeroValue e).run P w = .ok z w:=by simp[zeroValue,typeInfo,hi,NV]
 obtain⟨z0,NW⟩:∃z0:Array Value,z0.size=(0+n)*ks.length/\(Instr.buildSlice t n (parts.map fun(i,x)=>(i,a.eval x))).run P w =
     (match Instr.fill (fun i=>some (i*ks.length,ks.length)) z0 (ps.map fun p=>(p.1,p.2.af ae ph))with
      |some cells=>.ok (.slice (some ⟨w.heap.size,0,none⟩) n n) (w.alloc (.cells cells e))
      |none=>.halt (.stuck "buildSlice: a part of the wrong size") w):=by
   by_cases hn:n*ks.length=0;refine⟨Array.map (fun x=>(#[]:Array Value)[x%(#[]:Array Value).size]!) (Array.range (n*ks.length)),by simp,?_⟩;simp only[Instr.buildSlice,ff,run_underlying hu,fc,cA (P:=P) (w:=w) (t:=e) (by omega),hc];rw[if_neg (by omega),if_pos hn];simp only[ff,gk,fc,Array.toList_map,AE];generalize Array.map _ (Array.range (n*ks.length))=zz;cases Instr.fill (fun i=>some (i*ks.length,ks.length)) zz (ps.map fun p=>(p.1,p.2.af ae ph))with
   |none=>rfl
   |some cells=>rfl
   refine⟨(Array.range (n*ks.length)).map (z.cells[· % z.cells.size]!),by simp,?_⟩;simp only[Instr.buildSlice,ff,run_underlying hu,fc,cA (P:=P) (w:=w) (t:=e) (by omega),hc];rw[if_neg (by omega),if_neg hn];simp only[ff,hzr,gk,fc,Array.toList_map,AE];generalize Array.map _ (Array.range (n*ks.length))=zz;cases Instr.fill (fun i=>some (i*ks.length,ks.length)) zz (ps.map fun p=>(p.1,p.2.af ae ph))with
   |none=>rfl
   |some cells=>rfl
 obtain⟨Y0,cY⟩:=NW;obtain⟨hf,hrl⟩:=LQ (ae:=ae) (ph:=ph) ks n 0 ps rows z0.toList iw (by simpa using Y0);simp only[Nat.zero_mul,List.take_zero,nM,Array.toArray_toList]at hf;rw[hf]at cY;obtain⟨xs,qA⟩:∃xs,xs=rows.map fun r=>r.map (cg ae):=⟨_,rfl⟩;rw[<- qA]at cY;have qw:xs.length=n:=by rw[qA,qd,hrl]
 unfold newRow at h;split at h;rename_i bj;simp only[ao]at bj;obtain⟨bj,sP⟩:=bj;simp only[ah,aD]at h;obtain⟨rfl,rfl⟩:=h;have dH:k (ae.set key (.l xs)):=by rw[qA];exact hk
 have hB:w0.heap.size<=w.heap.size:=hs.below.size;have Xw:=bV ks xs;have iO:n<=maxLen:=by
   have:n<=n*ks.length:=Nat.le_mul_of_pos_right n ot;unfold maxLen;omega
 have bR:(w.alloc (.cells (aJ ks xs).toArray e)).ownsRow w0.heap.size e ks.length (.slice (some ⟨w.heap.size,0,none⟩) n n) xs.length (aJ ks xs):=by
   refine⟨Xw,.inr ⟨w.heap.size,n,(aJ ks xs).toArray,by rw[qw],hB,heap_alloc_new w _,by omega,iO,by simp[Xw,qw],?_⟩⟩;simp only[D8];exact qB (by omega)
 have hW:sC st ph o.op=none:=by simp[ho,sC]
 have fk:=l8 (ae:=ae) (ph:=ph) (dst:=o.dst) (sl:=(some ⟨w.heap.size,0,none⟩,n,n)) (row:=none) hs sP hG bj ot (fun r hr=>hr) (World.grownBy_alloc w (.cells (aJ ks xs).toArray e) none) (fun k hk=>by cases hk)
   (fun b _=>by simp) (fun r _ _ k _=>by simp) bR (.inr (.inl rfl))
 refine⟨.value (.slice (some ⟨w.heap.size,0,none⟩) n n),_,_,_,_,?_,rfl,by rw[hW];exact fk,dH⟩;simp only[execOp,ho,ff,cY,fc,gk];cases h
end
section
open Go.RowKit
variable {ae:aF}{ph:Ph}{P:Program}
variable{w:World}{e:TypeId}{k:aF->Prop}{t:TypeId}{Γ:bZ}{st:St}{w0:World}{o:Oper}{bq:St}{dJ:List Ev}{n B:Nat}{G:BE}{ks:List CK}{lv room:Nat}{v:Value}{x:Operand}{base:Option Addr}{c:Operand}{kd':IntKind}{m sz:Nat}{z:V1}
theorem rD{i:TypeInfo}(h:P.info? t=some i):P.cellsOf t=i.size:=by simp[Program.cellsOf,h]
theorem l9{xs:List Value}(h:w.ownsRow B e sz v n xs):∃sl:Option Addr×Nat×Nat,v = .slice sl.1 sl.2.1 sl.2.2:=by
 obtain⟨_,⟨rfl,_⟩|⟨g,cap,cur,rfl,_⟩⟩:=h;exact⟨(none,0,0),rfl⟩;exact⟨(_,_,_),rfl⟩
theorem tg{ty:TypeId}{y:Value}{xs news:List Value}(ht:P.underlying t=some (.slice e))(hr:ma P e=some room)(vK:P.cellsOf e=sz)
   (bR:w.ownsRow B e sz v n xs) (hy:Reads w y m news) (hl:news.length=m*sz) (h1:∀u∈news,u.oneCell'=true) (lT:n+m<=room) (hB:B<=w.heap.size) :
   ∃(sl:Option Addr×Nat×Nat) (w':World),(Builtin.append_ #[t,t] ty #[v,y]).run P w = .ok (.slice sl.1 sl.2.1 sl.2.2) w'/\w'.ownsRow B e sz (.slice sl.1 sl.2.1 sl.2.2) (n+m) (xs++news)/\w.grownBy w' v.ownBlock/\
     ((Value.slice sl.1 sl.2.1 sl.2.2).ownBlock=v.ownBlock\/(Value.slice sl.1 sl.2.1 sl.2.2).ownBlock=some w.heap.size):=by
 unfold ma at hr;cases hi:P.info? e with
 |none=>simp[hi]at hr
 | some i=>
   simp only[hi]at hr;cases hz:i.zero with
   |none=>simp[hz]at hr
   | some z=>
     simp only[hz]at hr;split at hr;rename_i hc;simp only[ao,aO]at hc;obtain⟨⟨mv,C7⟩,hzs⟩:=hc;simp only[ah]at hr;subst hr;have Y1:i.size=sz:=by rw[<- vK,rD hi]
     have hby:(n+m)*i.bytes<=140737488355328:=(Nat.le_div_iff_mul_le mv).1 lT;have J6:n+m<=maxLen:=by
       have:n+m<=(n+m)*i.bytes:=Nat.le_mul_of_pos_right _ mv;unfold maxLen;omega
     obtain⟨base,cap,rfl,hm,vI,jc⟩:=hy;cases base with
     | none=>
       obtain⟨rfl,rfl⟩:=vI rfl;rw[Nat.zero_mul]at hl;have:=D5 hl;subst this;obtain⟨sl,rfl⟩:=l9 bR;refine⟨sl,w,run_append_owned_none w B t ty e i sz ht hi _ n xs bR,by simpa using bR,⟨rfl,rfl,rfl,ga _,fun _ _ _=>rfl⟩,.inl rfl⟩
     | some a=>
       obtain⟨v',w',e1,e2,e3,_,e5⟩:=run_append_own_at (P:=P) w B t ty e i z sz i.bytes ht hi hz Y1 rfl (by rw[hzs,Y1]) (by omega) v n xs bR a m cap news hl
         (fun j u hj=>by obtain⟨a',e,h⟩:=jc j u hj;simp only[ah]at e;subst e;exact h) h1 J6 hby hB
       obtain⟨sl,rfl⟩:=l9 e2;exact⟨sl,w',e1,e2,e3,e5⟩
     cases hr
theorem yZ{a:Act}{y:Operand}{key:Nat}{xs:List (List Int)}{rb:Row}{rows:List Row}{ne:BE}{op:ew}
   (hs:Sat w0 ae ph st a w) (ho:o.op = .call {callee:=.builtin .append,args:=#[x,y],argTypes:=#[t,t] }) (hu:P.underlying t=some (.slice e)) (hr:ma P e=some room)
   (hx:a.eval x=v) (hy:bJ st (.c true) y=some (.s rb.id)) (Cm:rb∈st.rows) (Ep:rb.g = .c true) (pF:P.cellsOf e=rb.ks.length)
   (hv:w.ownsRow w0.heap.size e rb.ks.length v xs.length (aJ rb.ks xs)) (hW:sC st ph o.op=v.ownBlock) (fg:∀r∈rows,r∈st.rows)
   (Y2:∀k,v.ownBlock=some k->¬ ph.z k/\∀n∈st.bp,n.own=true->(ph.val n.id).ownBlock≠some k) (lO:∀b∈st.bl,v.ownBlock≠some (ph.r b.id)) (iw:∀r∈rows,r.g.af ae=true->∀k,r.cc ae ph=some k->v.ownBlock≠some k)
   (nN:op.af ae=xs++(ae rb.lv).list) (da:ne.af ae=true->xs.length+(ae rb.lv).list.length<=room)
   (h:newRow st (.c true) key e rb.ks [.aH ne] op rows o.dst=some (dJ,bq)) (hk:aW Γ dJ k ae) :
   pg Γ P w0 ae ph st bq o a w k:=by
 unfold newRow at h;split at h;rename_i bj;simp only[ao]at bj;obtain⟨bj,sP⟩:=bj;simp only[ah,aD]at h;obtain⟨rfl,rfl⟩:=h;obtain⟨hn,hk⟩:=jK (es:=[.b8 key op]) hk;have dH:k (ae.set key (.l (xs++(ae rb.lv).list))):=by rw[<- nN];exact hk
 have bB:=hs.mem.row rb Cm (by rw[Ep];rfl);have ey:=aG hy cC hs.tmps;simp only[ak.af]at ey;obtain⟨sl,w',e1,e2,e3,e5⟩:=tg (ty:=o.type) hu hr pF hv bB.reads (bV _ _) (jw _ _) (da hn) hs.below.size;rw[<- mU,<- fE]at e2;have hvB:∀k,v.ownBlock=some k->w0.heap.size<=k/\¬ ph.z k/\∀n∈st.bp,n.own=true->(ph.val n.id).ownBlock≠some k:=fun k hk=>⟨(hv.lt k hk).1,Y2 k hk⟩;have fk:=l8 (dst:=o.dst) (sl:=sl) (row:=v.ownBlock) hs sP cC bj bB.1 fg e3 hvB lO iw e2 (by
   rcases e5 with e5|e5;exact .inl e5;exact .inr (.inl e5))
 refine⟨.value (.slice sl.1 sl.2.1 sl.2.2),w',_,_,_,?_,rfl,by rw[hW];exact fk,dH⟩;simp only[execOp,ho,resolve,invoke,builtin,ff,gk,fc,List.map_toArray,kQ,pj,hx,ey,e1];cases h
theorem AF{a:Act}{ls:List ak}{key:Nat}(hs:Sat w0 ae ph st a w)
   (hW:sC st ph o.op=none) (cY:(execOp a.eval o).run P w = .ok (.value (.pointer (some ⟨w.heap.size,0,none⟩))) (w.alloc (.cells (ls.map (ak.af ae ph)).toArray e)))
   (h:qD st key e ls o.dst=some (dJ,bq)) (hk:aW Γ dJ k ae):pg Γ P w0 ae ph st bq o a w k:=by
 obtain⟨rfl,fk⟩:=C4 hs h;exact⟨_,_,_,_,_,cY,rfl,by rw[hW];exact fk,hk⟩
theorem vo(ks:List CK):∀(xs:List (List Int)) (n:Nat),aJ ks (xs.take n)=(aJ ks xs).take (n*ks.length):=by
 intro xs;induction xs with
 |nil=>intro n;simp[aJ]
 | cons r rs ih=>
   intro n;cases n with
   |zero=>simp[aJ]
   | succ n=>
     simp only[List.take_succ_cons,aJ,ih];have e:(n+1)*ks.length=ks.length+n*ks.length:=by rw[lY];omega
     rw[e,List.take_append,cO,show ks.length+n*ks.length-ks.length=n*ks.length by omega,qB (l:=bU ks 0 r) (by rw[cO];omega)]
theorem Ow{cap:Nat}{xs:List (List Int)}(hn:n=xs.length)(h:w.ownsRow B e ks.length (.slice base n cap) n (aJ ks xs))(hm:m<=n) :
   w.ownsRow B e ks.length (.slice base m cap) (xs.take m).length (aJ ks (xs.take m)):=by
 have hl:(xs.take m).length=m:=by rw[uV];omega
 rw[hl];refine⟨by rw[bV,hl],?_⟩;rcases h.2 with⟨e1,e2⟩|⟨g,qy,cur,e1,hg,hh,vC,Gp,jc,td⟩;simp only[Value.slice.injEq]at e1;obtain⟨rfl,h0,rfl⟩:=e1;have:m=0:=by omega
 subst this;exact .inl ⟨rfl,rfl⟩;simp only[Value.slice.injEq,true_and]at e1;obtain⟨rfl,rfl⟩:=e1;refine .inr ⟨g,cap,cur,rfl,hg,hh,by omega,Gp,jc,?_⟩;rw[vo,<- td,List.take_take];congr 1;have:=x9 ks.length hm;omega
theorem th{cap:Nat}{k:IntKind}{m:Int}(hu:P.underlying t=some (.slice e))(hc:0<P.cellsOf e)(h0:0<=m)(h1:m<=(n:Int))(vC:n<=cap) :
   (Instr.slice t (.slice base n cap) none (some (.int k m)) none).run P w = .ok (.slice base m.toNat cap) w:=by
 have hm:0<=m/\m<=(cap:Int):=⟨h0,by omega⟩;simp only[Instr.slice,Instr.sliceBounds,Instr.sliceBound,asIntOf,ff,gk,fc,run_underlying hu];simp only[hm,and_self,if_true,ff,gk,fc,cA hc,Nat.sub_zero,Nat.zero_mul];congr 2;cases base with
 |none=>simp
 |some a=>simp[Addr.add_zero']
theorem LS{a:Act}{h':Operand}{key:Nat}{ra:Row}{kd:IntKind}{n:IE}
   (hs:Sat w0 ae ph st a w) (ho:o.op = .slice t x none (some h') none) (hu:P.underlying t=some (.slice e)) (hx:bJ st (.c true) x=some (.s ra.id)) (hh:bJ st (.c true) h'=some (.i kd n))
   (bD:ra∈st.rows) (bR:ra.own=true) (hg:ra.g = .c true) (he:ra.e=e) (pF:P.cellsOf e=ra.ks.length)
   (h:newRow st (.c true) key e ra.ks [.aH (BE.le (.c 0) n).mk,.aH (BE.le n (.len ra.lv)).mk] (.take ra.lv n) (st.rows.filter fun r=>decide (r.id≠ra.id)) o.dst=some (dJ,bq)) (hk:aW Γ dJ k ae) :
   pg Γ P w0 ae ph st bq o a w k:=by
 unfold newRow at h;split at h;rename_i bj;simp only[ao]at bj;obtain⟨bj,sP⟩:=bj;simp only[ah,aD]at h;obtain⟨rfl,rfl⟩:=h;obtain⟨h0,hk⟩:=jK (es:=[.aH (BE.le n (.len ra.lv)).mk,.b8 key (.take ra.lv n)]) hk;obtain⟨h1,hk⟩:=jK (es:=[.b8 key (.take ra.lv n)]) hk;have h0:=ck h0;have h1:=ck h1;simp only[IE.af]at h0 h1;have dH:k (ae.set key (.l ((ae ra.lv).list.take (n.af ae).toNat))):=hk;have Ir:ra.g.af ae=true:=by rw[hg];rfl
 have bB:=hs.mem.row ra bD Ir;have dz:=bB.2;rw[if_pos bR,he]at dz;have ex:=aG hx cC hs.tmps;have eh:=aG hh cC hs.tmps;simp only[ak.af]at ex eh;obtain⟨base,cap,hv,vC⟩:∃base cap,ph.val ra.id = .slice base (ae ra.lv).list.length cap/\(ae ra.lv).list.length<=cap:=by
   rcases dz.2 with⟨e1,e2⟩|⟨g,qy,cur,e1,_,_,vC,_⟩;exact⟨none,0,by rw[e1,e2],by omega⟩;exact⟨_,qy,e1,vC⟩
 rw[hv]at dz;have htk:=Ow (m:=(n.af ae).toNat) rfl dz (by omega);have ft:ra.cc ae ph=(Value.slice base (ae ra.lv).list.length cap).ownBlock:=by rw[<- hv];simp[Row.cc,bR]
 have Ou:∀m m':Nat,(Value.slice base m cap).ownBlock=(Value.slice base m' cap).ownBlock:=fun _ _=>by cases base<;>rfl
 have fk:=l8 (dst:=o.dst) (sl:=(base,(n.af ae).toNat,cap)) (row:=(Value.slice base (ae ra.lv).list.length cap).ownBlock) (rows:=st.rows.filter fun r=>decide (r.id≠ra.id)) hs sP cC bj bB.1 (fun r hr=>(jB.1 hr).1) (jx (cK w)) (fun k hk=>(ou (B:=0) hs bD bR Ir (by rw[hv,hk])).1)
   (fun b hb e=>hs.mem.br b hb ra bD Ir (by rw[ft,e])) (fun r hr h1 k hk e=>by
     have hm:=jB.1 hr;exact hs.mem.rr ra bD r hm.1 (fun e=>by simp[e]at hm) bR Ir h1 k (by rw[ft,e]) hk) htk (.inl (Ou _ _))
 refine⟨.value (.slice base (n.af ae).toNat cap),w,_,_,_,?_,rfl,⟨fk.sat,fk.agree,?_,fk.mono,fk.fresh⟩,dH⟩;simp only[execOp,ho,Option.map_none,s5,ex,eh,hv,ff,run_sliceAt_slice (P:=P) (w:=w) t _ _ _ _ (by simp[Program.elem,hu]),th hu (by rw[pF];exact bB.1) h0 h1 vC,fc,gk];rw[ho];exact cK w;cases h
theorem ti{v:V1}(h:qC P t=some v):∃i z,P.info? t=some i/\i.zero=some z/\z.cells=(v.leaves.map (ak.af ae ph)).toArray:=by
 unfold qC at h;cases hi:P.info? t with
 |none=>simp[hi]at h
 | some i=>
   cases hz:i.zero with
   |none=>simp[hi,hz]at h
   | some z=>
     refine⟨i,z,rfl,hz,?_⟩;have hw:Inhabited World:=⟨{heap:=#[],tape:=default,drawn:=0,os:=default,output:=default}⟩;have h2:=xW (P:=P) (ae:=ae) (ph:=ph) (w:=default) (t:=t) (v:=v) (by unfold qC;exact h);simp[zeroValue,typeInfo,hi,hz]at h2;rw[h2,V1.fZ]
theorem yh{z:Value}(hz:z.cells=((ks.map zeroOf).map (ak.af ae ph)).toArray)(n:Nat):(madeCells z.cells (n*ks.length)).toList=aJ ks (List.replicate n (List.replicate ks.length 0)):=by
 apply List.ext_getElem?;intro j;by_cases hj:j<n*ks.length;have h0:0<ks.length:=by
   rcases Nat.eq_zero_or_pos ks.length with h|h;rw[h]at hj;omega;exact h
 have hd:j/ks.length<n:=(Nat.div_lt_iff_lt_mul h0).2 hj;have hm:=Nat.mod_lt j h0;have e:j=j/ks.length*ks.length+j%ks.length:=(Nat.div_add_mod' j ks.length).symm;have hf:=nE ks (List.replicate n (List.replicate ks.length 0)) (j/ks.length) (j%ks.length) (by simpa using hd) hm;rw[<- e]at hf;rw[hf];have hc:∀q:Nat,z.cells[q]?=(ks[q]?).map fun(k:CK)=>k.val 0:=fun q=>by
   rw[hz];simp only[List.getElem?_toArray,iS];cases ks[q]? with
   |none=>rfl
   |some k=>cases k<;>rfl
 have vK:z.cells.size=ks.length:=by rw[hz];simp
 have hl:(List.replicate n (List.replicate ks.length (0:Int))).getD (j/ks.length) []=List.replicate ks.length 0:=by
   simp[cm,hd]
 rw[hl];have Ax:(List.replicate ks.length (0:Int)).getD (j%ks.length) 0=0:=by
   simp[cm,hm]
 rw[Ax,<- hc];simp[madeCells,hj,vK];rw[Array.getElem?_eq_getElem (by rw[vK];exact hm),getElem!_pos z.cells (j%ks.length) (by rw[vK];exact hm)];rw[uU (by simp[madeCells];omega),uU (by rw[bV];simp;omega)]
theorem Co(w:World)(base:Nat)(t e:TypeId)(i:TypeInfo)(z:Value)(size:Nat)(ht:P.underlying t=some (.slice e))(hi:P.info? e=some i)(hz:i.zero=some z)(Gq:i.size=size)
   (kl kc:IntKind) (n c:Nat) (vC:n<=c) (aga:i.bytes*c<=281474976710656) (J6:c<=maxLen) (acz:base<=w.heap.size) :
   ∃w',(Instr.makeSlice t (.int kl (n:Int)) (.int kc (c:Int))).run P w = .ok (.slice (some ⟨w.heap.size,0,none⟩) n c) w'/\
     w'.ownsRow base e size (.slice (some ⟨w.heap.size,0,none⟩) n c) n (madeCells z.cells (n*size)).toList/\w.grownBy w' none:=by
 subst Gq;have agb:(c:Int)<=9223372036854775807:=by
   have h:=J6;simp[maxLen]at h;omega
 have nC:(i.bytes:Int)*(c:Int)<=281474976710656:=by
   have h:((i.bytes*c:Nat):Int)<=281474976710656:=by omega
   rwa[Int.natCast_mul]at h
 have hr:=run_make (P:=P) w t e i z ht hi hz kl kc n c (by omega) (by omega) nC agb;simp only[pz]at hr;refine⟨_,hr,⟨?_,.inr ⟨w.heap.size,c,madeCells z.cells (c*i.size),rfl,acz,?_,vC,J6,size_madeCells _ _,?_⟩⟩,World.grownBy_alloc w _ none⟩;simp[madeCells];exact heap_alloc_new w _;have:n*i.size<=c*i.size:=x9 _ vC;simp only[madeCells,Array.toList_map,Array.toList_range,<- List.map_take,List.take_range,Nat.min_eq_left this]
theorem LU{a:Act}{n:Operand}{key:Nat}{kd:IntKind}{x:IE}
   (hs:Sat w0 ae ph st a w) (ho:o.op = .makeSlice t n c) (hu:P.underlying t=some (.slice e)) (hn:bJ st (.c true) n=some (.i kd x)) (hc:bJ st (.c true) c=some (.i kd' x)) (hr:ma P e=some room) (hz:qC P e=some z)
   (h0:0<ks.length) (pF:P.cellsOf e=ks.length) (Ug:z.leaves=ks.map zeroOf)
   (h:newRow st (.c true) key e ks [.aH (BE.le (.c 0) x).mk,.aH (BE.le x (.c (room:Int))).mk] (.rep x (List.replicate ks.length 0)) st.rows o.dst=some (dJ,bq)) (hk:aW Γ dJ k ae) :
   pg Γ P w0 ae ph st bq o a w k:=by
 unfold newRow at h;split at h;rename_i bj;simp only[ao]at bj;obtain⟨bj,sP⟩:=bj;simp only[ah,aD]at h;obtain⟨rfl,rfl⟩:=h;obtain⟨g0,hk⟩:=jK (es:=[.aH (BE.le x (.c (room:Int))).mk,.b8 key (.rep x (List.replicate ks.length 0))]) hk;obtain⟨g1,hk⟩:=jK (es:=[.b8 key (.rep x (List.replicate ks.length 0))]) hk;have g0:=ck g0;have g1:=ck g1;simp only[IE.af]at g0 g1;obtain⟨m,hm⟩:∃m:Nat,x.af ae=m:=⟨(x.af ae).toNat,by omega⟩;have dH:k (ae.set key (.l (List.replicate m (List.replicate ks.length 0)))):=by
   have:k (ae.set key (.l ((ew.rep x (List.replicate ks.length 0)).af ae))):=hk;simp only[ew.af,hm,pz]at this;exact this
 have en:=aG hn cC hs.tmps;have ec:=aG hc cC hs.tmps;simp only[ak.af,hm]at en ec;obtain⟨i,zv,hi,Y3,iz⟩:=ti (ae:=ae) (ph:=ph) hz;unfold ma at hr;simp only[hi,Y3]at hr;split at hr;rename_i oG;simp only[ao,aO]at oG;obtain⟨⟨mv,C7⟩,jc⟩:=oG;simp only[ah]at hr;rw[Ug]at iz;have Gq:i.size=ks.length:=by rw[<- jc,iz];simp
 rw[hm]at g1;have lT:m<=140737488355328/i.bytes:=by rw[hr];omega
 have hby:i.bytes*m<=140737488355328:=lN (Nat.mul_le_mul_left _ lT) (Nat.mul_div_le _ _);have J6:m<=maxLen:=by
   have:m<=i.bytes*m:=Nat.le_mul_of_pos_left _ mv;unfold maxLen;omega
 obtain⟨w',e1,e2,e3⟩:=run_make_full (P:=P) w w0.heap.size t e i zv ks.length hu hi Y3 Gq kd kd' m (by omega) J6 hs.below.size;rw[yh iz]at e2;have hl:(List.replicate m (List.replicate ks.length (0:Int))).length=m:=by simp
 have fk:=l8 (dst:=o.dst) (xs:=List.replicate m (List.replicate ks.length 0)) (sl:=(some ⟨w.heap.size,0,none⟩,m,m)) (row:=none) (rows:=st.rows) hs sP cC bj h0 (fun _ h=>h) e3 (fun _ h=>by cases h) (fun _ _=>by simp) (fun _ _ _ _ _=>by simp) (by rw[hl];exact e2) (.inr (.inl rfl));refine⟨.value (.slice (some ⟨w.heap.size,0,none⟩) m m),w',_,_,_,?_,rfl,⟨fk.sat,fk.agree,?_,fk.mono,fk.fresh⟩,dH⟩;simp only[execOp,ho,en,ec,ff,e1,fc,gk];rw[ho];exact fk.grown;cases hr;cases h
theorem AG{a:Act}{n:Operand}{key:Nat}{kd:IntKind}{x y:IE}
   (hs:Sat w0 ae ph st a w) (ho:o.op = .makeSlice t n c) (hu:P.underlying t=some (.slice e)) (hn:bJ st (.c true) n=some (.i kd x)) (hc:bJ st (.c true) c=some (.i kd' y)) (hr:ma P e=some room) (hz:qC P e=some z)
   (h0:0<ks.length) (pF:P.cellsOf e=ks.length) (Ug:z.leaves=ks.map zeroOf)
   (h:newRow st (.c true) key e ks [.aH (BE.le (.c 0) x).mk,.aH (BE.le x y).mk,.aH (BE.le y (.c (room:Int))).mk] (.rep x (List.replicate ks.length 0)) st.rows o.dst=some (dJ,bq)) (hk:aW Γ dJ k ae) :
   pg Γ P w0 ae ph st bq o a w k:=by
 unfold newRow at h;split at h;rename_i bj;simp only[ao]at bj;obtain⟨bj,sP⟩:=bj;simp only[ah,aD]at h;obtain⟨rfl,rfl⟩:=h;obtain⟨g0,hk⟩:=jK (es:=[.aH (BE.le x y).mk,.aH (BE.le y (.c (room:Int))).mk,.b8 key (.rep x (List.replicate ks.length 0))]) hk;obtain⟨g2,hk⟩:=jK (es:=[.aH (BE.le y (.c (room:Int))).mk,.b8 key (.rep x (List.replicate ks.length 0))]) hk;obtain⟨g1,hk⟩:=jK (es:=[.b8 key (.rep x (List.replicate ks.length 0))]) hk;have g0:=ck g0;have g1:=ck g1;have g2:=ck g2;simp only[IE.af]at g0 g1;obtain⟨m,hm⟩:∃m:Nat,x.af ae=m:=⟨(x.af ae).toNat,by omega⟩;obtain⟨q,hq⟩:∃q:Nat,y.af ae=q:=⟨(y.af ae).toNat,by omega⟩;have hmq:m<=q:=by omega
 have dH:k (ae.set key (.l (List.replicate m (List.replicate ks.length 0)))):=by
   have:k (ae.set key (.l ((ew.rep x (List.replicate ks.length 0)).af ae))):=hk;simp only[ew.af,hm,pz]at this;exact this
 have en:=aG hn cC hs.tmps;have ec:=aG hc cC hs.tmps;simp only[ak.af,hm,hq]at en ec;obtain⟨i,zv,hi,Y3,iz⟩:=ti (ae:=ae) (ph:=ph) hz;unfold ma at hr;simp only[hi,Y3]at hr;split at hr;rename_i oG;simp only[ao,aO]at oG;obtain⟨⟨mv,C7⟩,jc⟩:=oG;simp only[ah]at hr;rw[Ug]at iz;have Gq:i.size=ks.length:=by rw[<- jc,iz];simp
 rw[hq]at g1;have lT:q<=140737488355328/i.bytes:=by rw[hr];omega
 have hby:i.bytes*q<=140737488355328:=lN (Nat.mul_le_mul_left _ lT) (Nat.mul_div_le _ _);have J6:q<=maxLen:=by
   have:q<=i.bytes*q:=Nat.le_mul_of_pos_left _ mv;unfold maxLen;omega
 obtain⟨w',e1,e2,e3⟩:=Co (P:=P) w w0.heap.size t e i zv ks.length hu hi Y3 Gq kd kd' m q hmq (by omega) J6 hs.below.size;rw[yh iz]at e2;have hl:(List.replicate m (List.replicate ks.length (0:Int))).length=m:=by simp
 have fk:=l8 (dst:=o.dst) (xs:=List.replicate m (List.replicate ks.length 0)) (sl:=(some ⟨w.heap.size,0,none⟩,m,q)) (row:=none) (rows:=st.rows) hs sP cC bj h0 (fun _ h=>h) e3 (fun _ h=>by cases h) (fun _ _=>by simp) (fun _ _ _ _ _=>by simp) (by rw[hl];exact e2) (.inr (.inl rfl));refine⟨.value (.slice (some ⟨w.heap.size,0,none⟩) m q),w',_,_,_,?_,rfl,⟨fk.sat,fk.agree,?_,fk.mono,fk.fresh⟩,dH⟩;simp only[execOp,ho,en,ec,ff,e1,fc,gk];rw[ho];exact fk.grown;cases hr;cases h
theorem rF{α:Type}{a:Array α}{x y:α}(h:a.toList=[x,y]):a = #[x,y]:=kS (by simpa using h)
theorem rG:∀ {ns:List BE},aW Γ (sj G ns) k ae->k ae/\(G.af ae=true->∀n∈ns,n.af ae=true):=by
 intro ns;induction ns with
 |nil=>intro h;exact⟨h,fun _ n hn=>by simp at hn⟩
 | cons n ns ih=>
   intro h;simp only[sj]at h;split at h;rename_i he;obtain⟨h1,h2⟩:=ih h;refine⟨h1,fun hG m hm=>?_⟩;rcases bC.1 hm with rfl|hm;exact BE.CS hG (by rw[he];rfl);exact h2 hG m hm;obtain⟨h0,h⟩:=jK h;obtain⟨h1,h2⟩:=ih h;refine⟨h1,fun hG m hm=>?_⟩;rcases bC.1 hm with rfl|hm;exact BE.CS hG h0;exact h2 hG m hm
theorem bS{r:Row}:∀ {rs l:List Row},r∈dB rs l↔r∈rs\/r∈l:=by
 intro rs;induction rs with
 |nil=>intro l;simp[dB]
 | cons x rs ih=>
   intro l;show r∈dN x (dB rs l)↔_;rw[eo,ih,bC,or_assoc]
theorem y2{key:Nat}{i:IE}:∀ {aU:List NK} {j m:Nat},(gl lv i key j aU)[m]?=(aU[m]?).map (fun| .c k=>rl lv i (j+m) k| .s _ _=>.s (key+(j+m))):=by
 intro aU;induction aU with
 |nil=>intro j m;simp[gl]
 | cons nk aU ih=>
   intro j m;cases nk<;>cases m<;>simp[gl,ih,Nat.add_assoc,Nat.add_comm 1]
theorem Gr{key:Nat}{i:IE}:∀ {aU:List NK} {j:Nat},(gl lv i key j aU).length=aU.length:=by
 intro aU;induction aU with
 |nil=>intro j;rfl
 |cons nk aU ih=>intro j;cases nk<;>simp[gl,ih]
theorem C8{key:Nat}{r:Row}:∀ {aU:List NK} {j:Nat},r∈kY G key j aU->∃m e k,aU[m]?=some (.s e k)/\r=⟨key+(j+m),e,[k],key+(j+m),false,G⟩:=by
 intro aU;induction aU with
 |nil=>intro j h;simp[kY]at h
 | cons nk aU ih=>
   intro j h;have up:r∈kY G key (j+1) aU->∃m e k,(nk::aU)[m]?=some (.s e k)/\r=⟨key+(j+m),e,[k],key+(j+m),false,G⟩:=fun h=>by
     obtain⟨m,e,k,h1,h2⟩:=ih h;exact⟨m+1,e,k,by simpa using h1,by rw[h2,show j+1+m=j+(m+1)by omega]⟩
   cases nk with
   |c k=>exact up h
   | s e k=>
     simp only[kY,bC]at h;rcases h with rfl|h;exact⟨0,e,k,rfl,rfl⟩;exact up h
theorem C9{key:Nat}{i:IE}{all:List NK}{q:Nat->Bool}{a8:aF}(zI:q lv=true)(hi:i.all q=true)(hq:∀x,key<=x->x<key+n->q x=false):∀ {aU:List NK} {j:Nat} {ae:aF},j+aU.length<=n->(∀x,q x=true->ae x=a8 x)->aW Γ (Gs lv i key all j aU) k ae->
   ∃aq,k aq/\(∀x,q x=true->aq x=a8 x)/\(∀x,x<key+j->aq x=ae x)/\∀m e kk,aU[m]?=some (.s e kk)->aq (key+(j+m)) = .l ((ew.sub lv i all (j+m)).af a8):=by
 intro aU;induction aU with
 |nil=>intro j ae _ he h;exact⟨ae,h,he,fun _ _=>rfl,fun m e kk hm=>by simp at hm⟩
 | cons nk aU ih=>
   intro j ae hn he h;simp only[pf]at hn;cases nk with
   | c kk0=>
     obtain⟨aq,h1,h2,h3,h4⟩:=ih (j:=j+1) (ae:=ae) (by omega) he h;refine⟨aq,h1,h2,fun x hx=>h3 x (by omega),fun m e kk hm=>?_⟩;cases m with
     |zero=>simp at hm
     |succ m=>have:=h4 m e kk (by simpa using hm);rw[show j+1+m=j+(m+1)by omega]at this;exact this
   | s e0 kk0=>
     have yj:(ew.sub lv i all j).af ae=(ew.sub lv i all j).af a8:=by
       simp only[ew.af,he lv zI,IE.av he hi]
     obtain⟨aq,h1,h2,h3,h4⟩:=ih (j:=j+1) (ae:=ae.set (key+j) (.l ((ew.sub lv i all j).af ae))) (by omega) (fun x hx=>by
       have:x≠key+j:=fun e=>by rw[e,hq _ (by omega) (by omega)]at hx;cases hx
       simp only[aF.set,this,if_false];exact he x hx) h
     refine⟨aq,h1,h2,fun x hx=>by rw[h3 x (by omega)];simp only[aF.set];rw[if_neg (by omega)],fun m e kk hm=>?_⟩;cases m with
     | zero=>
       rw[iy,h3 _ (by omega),<- yj];simp[aF.set]
     |succ m=>have:=h4 m e kk (by simpa using hm);rw[show j+1+m=j+(m+1)by omega]at this;exact this
def Ph.wO(ph:Ph)(key:Nat)(us:List Value):Ph:=
 { ph with v:=fun k=>if key<=k then(match us[k-key]? with
   |some (.slice a b c)=>(a,b,c)
   |_=>ph.v k)else ph.v k}
def nO(st:St)(G:BE)(key:Nat)(dst:Option Tmp)(n:eO)(v:V1):St:=
 {st.bK key n.aU.length with rows:=dB (kY G key 0 n.aU) st.rows}.put dst ⟨G,.v v⟩
theorem y5{q:Nat->Bool}{key:Nat}{i:IE}{aU:List NK}(zI:q lv=true)(hi:i.all q=true)(hq:∀m,m<aU.length->q (key+m)=true):bG q (gl lv i key 0 aU)=true:=by
 have:∀ {ls:List ak},(∀l∈ls,l.all q=true)->bG q ls=true:=by
   intro ls;induction ls with
   |nil=>intro _;rfl
   |cons l ls ih=>intro h;simp only[bG,h l (aZ ..),Bool.true_and];exact ih fun x hx=>h x (bI _ hx)
 refine this fun l hl=>?_;obtain⟨m,hm⟩:=List.getElem?_of_mem hl;rw[y2]at hm;simp only[fR,bN]at hm;obtain⟨nk,LV,rfl⟩:=hm;have hml:=(dw.1 LV).1;cases nk with
 | c kk=>
   cases kk<;>simp only[rl,ak.all,BE.all,IE.all,ao]<;>exact⟨zI,hi⟩
 |s e kk=>exact hq m hml
theorem dM.cells(h:dM B ae ph st w){n:eO}(hn:n∈st.bp)(hg:n.g.af ae=true):0<n.aU.length/\∃base cap,ph.val n.id = .slice base (ae n.lv).list.length cap/\(ae n.lv).list.length<=maxLen/\(base=none->(ae n.lv).list.length=0/\cap=0)/\
   ∀i r,(ae n.lv).list[i]?=some r->∃a,base=some a/\∀j nk,n.aU[j]?=some nk->∃u,w.cell? (a.add (i*n.aU.length+j))=some u/\sf ph.z w nk (r.getD j 0) (eU n.aU r j) u:=by
 obtain⟨h0,h1⟩:=h.rd n hn hg;refine⟨h0,?_⟩;unfold fS at h1;split at h1;obtain⟨base,cap,e1,e2,e3,e4⟩:=h1.reads (z':=fun _=>True) h0 (fun _ _=>trivial) (fun _ _=>trivial);obtain⟨cs,bR,hc⟩:=h1;refine⟨base,cap,e1,e2,e3,fun i r hi=>?_⟩;obtain⟨a,rfl,_,_⟩:=e4 i r hi;refine⟨a,rfl,fun j nk hj=>?_⟩;obtain⟨u,hu,vC⟩:=hc i r hi j nk hj;rw[e1]at bR;have had:a=⟨a.block,0,none⟩:=by
   obtain⟨_,⟨e,_⟩|⟨g,qy,cur,e,_⟩⟩:=bR;simp at e;simp only[Value.slice.injEq,ah]at e;rw[e.1]
 rw[had]at bR ⊢;exact⟨u,bR.cells (by simp[Value.ownBlock]) _ _ hu,vC.nG (fun _ _=>rfl) (fun _ h=>h.1)⟩;obtain⟨base,cap,e1,e2,e3,e4⟩:=h1;refine⟨base,cap,e1,e2,e3,fun i r hi=>?_⟩;obtain⟨a,e,_,jc⟩:=e4 i r hi;exact⟨a,e,jc⟩
theorem Is{a:Act}{key j:Nat}{n:eO}{i:IE}{v:V1}
   (hs:Sat w0 ae ph st a w) (ho:o.op = .load t x) (hG:G.af ae=true) (hx:bJ st G x=some (.ep n.id n.aU.length i j)) (bD:n∈st.bp) (nF:0<n.aU.length) (hg:G.jt n.g=true) (sP:G.all st.has=true) (bj:st.free key n.aU.length=true) (UL:i.all st.has=true) (Er:st.has n.lv=true)
   (qx:Looks P t v) (te:∀jj l,v.leaves[jj]?=some l->(gl n.lv i key 0 n.aU)[j+jj]?=some l) (Da:∀q:Nat->Bool,bG q (gl n.lv i key 0 n.aU)=true->v.all q=true)
   (hk:aW Γ (sj G [(BE.le (.c 0) i).mk,(BE.lt i (.len n.lv)).mk]++Gs n.lv i key n.aU 0 n.aU) k ae):pg Γ P w0 ae ph st (nO st G key o.dst n v) o a w k:=by
   rw[gb]at hk;obtain⟨hk,qF⟩:=rG hk;have qF:=qF hG;have h0:=ck (qF _ (aZ ..));have h1:=fJ (qF _ (bI _ (aZ ..)));simp only[IE.af]at h0 h1;have pn:n.g.af ae=true:=BE.df hg hG;obtain⟨_,base,cap,hv,hlen,mv,Ca⟩:=hs.nest.cells bD pn;have iP:(i.af ae).toNat<(ae n.lv).list.length:=by omega
   obtain⟨r,hr⟩:∃r,(ae n.lv).list[(i.af ae).toNat]?=some r:=⟨_,eN iP⟩;obtain⟨ad,rfl,jc⟩:=Ca _ r hr;have acA:(ae n.lv).list.getD (i.af ae).toNat []=r:=by simp[List.getD,hr]
   obtain⟨us,hus⟩:∃us:List Value,us=(List.range n.aU.length).map fun j=>(w.cell? (ad.add ((i.af ae).toNat*n.aU.length+j))).getD undef:=⟨_,rfl⟩;have anr:us.length=n.aU.length:=by simp[hus]
   have NT:∀j nk,n.aU[j]?=some nk->∃u,us[j]?=some u/\w.cell? (ad.add ((i.af ae).toNat*n.aU.length+j))=some u/\sf ph.z w nk (r.getD j 0) (eU n.aU r j) u:=fun j nk hj=>by
     obtain⟨u,h1,h2⟩:=jc j nk hj;have H8:=(dw.1 hj).1;refine⟨u,?_,h1,h2⟩;simp[hus,iS,List.getElem?_range H8,h1]
   have jA:∀j,j<n.aU.length->st.has (key+j)=false:=fun j hj=>dr bj (by omega) (by omega);obtain⟨aq,UM,hE1,_,hE2⟩:=C9 (a8:=ae) (q:=st.has) Er UL (fun x a b=>dr bj a b) (by omega) (fun _ _=>rfl) hk;simp only[fR]at hE2;have bQ:bH st.has ae aq ph (ph.wO key us):=by
     refine⟨fun x hx=>(hE1 x hx).symm,fun _ _=>rfl,fun x hx=>?_⟩;simp only[Ph.wO];split;rename_i hkx;rcases oH (x-key) n.aU.length with cM|my;have:=jA _ cM;rw[show key+(x-key)=x by omega,hx]at this;cases this;rw[uU (by omega)];rfl
   have ke:=hs.congr bQ;have bT:∀k,st.has k=true->(st.bK key n.aU.length).has k=true:=fun k hk=>ig hk;have Gt:∀(m:Nat) (e:TypeId) (kk:CK),n.aU[m]?=some (.s e kk)->∃u,us[m]?=some u/\(ph.wO key us).val (key+m)=u/\(aq (key+m)).list=(eU n.aU r m).map (fun x=>[x])/\Reads w u (eU n.aU r m).length (aJ [kk] ((eU n.aU r m).map fun x=>[x]))/\(eU n.aU r m≠[]->∀b,u.ownBlock=some b->ph.z b):=fun m e kk hm=>by
     obtain⟨u,h1,_,h3,h4,h5⟩:=NT m _ hm;refine⟨u,h1,?_,?_,h4,h5⟩;obtain⟨b0,c0,rfl,_⟩:=h4;simp[Ph.val,Ph.wO,h1];rw[hE2 m e kk hm];show((ew.sub n.lv i n.aU m).af ae)=_;simp only[ew.af,acA]
   have rf:∀r'∈kY G key 0 n.aU,∃(m:Nat) (e:TypeId) (kk:CK),n.aU[m]?=some (.s e kk)/\r'=⟨key+m,e,[kk],key+m,false,G⟩:=fun r' dj=>by
     obtain⟨m,e,kk,a,b⟩:=C8 dj;exact⟨m,e,kk,a,by rw[b,fR]⟩
   have Y4:∀r'∈kY G key 0 n.aU,gZ w0.heap.size aq (ph.wO key us) r' w/\r'.own=false/\∀b,r'.cc aq (ph.wO key us)=some b->ph.z b:=fun r' dj=>by
     obtain⟨m,e,kk,hm,rfl⟩:=rf r' dj;obtain⟨u,_,e1,e2,e3,e4⟩:=Gt m e kk hm;refine⟨⟨by simp,?_⟩,rfl,fun b hb=>?_⟩;simp only[jU,if_false,e1,e2,qd];exact e3;simp only[Row.cc,Bool.false_or,e1,e2,qd,aO]at hb;split at hb;rename_i da;exact e4 (fun e=>da (by rw[e];rfl)) b hb;cases hb
   have cJ:∀m,m<n.aU.length->(st.bK key n.aU.length).has (key+m)=true:=fun m hm=>jy (by omega) (by omega);have Ia:G.af aq=true:=by rw[<- BE.av bQ.e sP];exact hG
   have Ec:ph.v n.id=(some ad,(ae n.lv).list.length,cap):=by
     simp only[Ph.val,Value.slice.injEq]at hv;exact Prod.ext hv.1 (Prod.ext hv.2.1 hv.2.2)
   have cY:(execOp a.eval o).run P w = .ok (.value (v.af aq (ph.wO key us))) w:=by
     have ex:=aG hx hG hs.tmps;simp only[ak.af,Ec]at ex;simp only[execOp,ho,ex,Instr.loadAt,Instr.sureAddr,ff,gk,fc];rw[jd (ae:=aq) (ph:=ph.wO key us) qx fun jj lf hj=>?_];rfl;have hj:=te jj lf hj;simp only[y2,fR,bN]at hj;obtain⟨nk,LV,rfl⟩:=hj;rw[iF,Nat.add_assoc];cases nk with
     | c kk=>
       obtain⟨u,_,h2,h3⟩:=NT (j+jj) _ LV;rw[h2];have h3:u=kk.val (r.getD (j+jj) 0):=h3;rw[h3,sW,<- bQ.e _ Er,<- IE.av bQ.e UL];simp only[cellAt,acA]
     | s e kk=>
       obtain⟨u,h1,h2,_⟩:=NT (j+jj) _ LV;obtain⟨u',H7,e1,_⟩:=Gt (j+jj) e kk LV;rw[h1,ah]at H7;subst H7;rw[h2];simp only[ak.af,e1]
   have hW:sC st ph o.op=none:=by rw[ho];rfl
   have Ox:bG (st.bK key n.aU.length).has (gl n.lv i key 0 n.aU)=true:=y5 (bT _ Er) (IE.aK bT UL) cJ;refine⟨_,w,_,aq,ph.wO key us,cY,rfl,?_,UM⟩;rw[hW];unfold nO;refine⟨⟨?_,?_,hs.below,by rw[c8];exact hs.defers,?_,?_⟩,bQ,cK w,fun k hk=>by rw[cP];exact bT k hk,fun b hb=>.inl ⟨b,by rw[cf]at hb;exact hb,rfl⟩⟩;exact oA (st:={st.bK key n.aU.length with rows:=dB (kY G key 0 n.aU) st.rows}) ke.tmps (by simp[bc.af,Ia,SV.af]);rw[cf,dG];have hm:=ke.mem;refine⟨hm.oo,hm.bb,fun r' dj C3=>?_,fun b hb r' dj C3 e=>?_,fun q hq q' NY da J7 Io vN b hb nC=>?_⟩;rcases bS.1 dj with dj|dj;exact(Y4 r' dj).1;exact hm.row r' dj C3;rcases bS.1 dj with dj|dj;exact ke.nest.bz b hb ((Y4 r' dj).2.2 _ e);exact hm.br b hb r' dj C3 e;rcases bS.1 hq with hq|hq;rw[(Y4 q hq).2.1]at J7;cases J7;rcases bS.1 NY with NY|NY;exact ke.nest.rz q hq J7 Io b hb ((Y4 q' NY).2.2 _ nC);exact hm.rr q hq q' NY da J7 Io vN b hb nC;refine⟨?_,?_,?_⟩;refine ij (st:={st.bK key n.aU.length with rows:=dB (kY G key 0 n.aU) st.rows}) (fun t s ht=>bc.aK bT (hs.names.tmps t s ht)) ?_;simp only[bc.all,SV.all,ao];exact⟨BE.aK bT sP,Da _ Ox⟩;rw[cf,cP];exact fun b hb=>iX.aK bT (hs.names.bl b hb);rw[dG,cP];intro r' dj;rcases bS.1 dj with dj|dj;obtain⟨m,e,kk,hm,rfl⟩:=rf r' dj;have:=cJ m (dw.1 hm).1;simp only[Row.all,ao];exact⟨this,this,BE.aK bT sP⟩;exact Row.aK bT (hs.names.rows r' dj)
   . refine dM.put (st:={st.bK key n.aU.length with rows:=dB (kY G key 0 n.aU) st.rows}) (ke.nest.next (cW (p:=st.has)) rfl bT (cK w) (fun k hk=>by cases hk) rfl (fun b hb=>.inl ⟨b,hb,rfl⟩) (fun r' dj h1 b hb=>?_));rcases bS.1 dj with dj|dj;exact .inr (.inr (.inr ⟨(Y4 r' dj).2.1,(Y4 r' dj).2.2 b hb⟩));exact .inl ⟨r',dj,id,h1,hb⟩
theorem Oy{a:Act}{dst:Option Tmp}{key:Nat}{n:eO}{i:IE}{v:V1}
   (hs:Sat w0 ae ph st a w) (hG:G.af ae=false) (sP:G.all st.has=true) (bj:st.free key n.aU.length=true) (UL:i.all st.has=true) (Er:st.has n.lv=true) (Da:∀q:Nat->Bool,bG q (gl n.lv i key 0 n.aU)=true->v.all q=true)
   (hk:aW Γ (sj G [(BE.le (.c 0) i).mk,(BE.lt i (.len n.lv)).mk]++Gs n.lv i key n.aU 0 n.aU) k ae) :
   ∃aq,Step w0 ae aq ph ph st (nO st G key dst n v) (a.put dst undef) w w none/\k aq:=by
 rw[gb]at hk;obtain⟨hk,_⟩:=rG hk;obtain⟨aq,UM,hE1,_,_⟩:=C9 (a8:=ae) (q:=st.has) Er UL (fun x a b=>dr bj a b) (by omega) (fun _ _=>rfl) hk;have bQ:bH st.has ae aq ph ph:=⟨fun x hx=>(hE1 x hx).symm,fun _ _=>rfl,fun _ _=>rfl⟩;have ke:=hs.congr bQ;have Ia:G.af aq=false:=by rw[<- BE.av bQ.e sP];exact hG
 have bT:∀k,st.has k=true->(st.bK key n.aU.length).has k=true:=fun k hk=>ig hk;have cJ:∀m,m<n.aU.length->(st.bK key n.aU.length).has (key+m)=true:=fun m hm=>jy (by omega) (by omega);have rf:∀r'∈kY G key 0 n.aU,∃(m:Nat) (e:TypeId) (kk:CK),n.aU[m]?=some (.s e kk)/\r'=⟨key+m,e,[kk],key+m,false,G⟩:=fun r' dj=>by
   obtain⟨m,e,kk,a,b⟩:=C8 dj;exact⟨m,e,kk,a,by rw[b,fR]⟩
 have Ox:bG (st.bK key n.aU.length).has (gl n.lv i key 0 n.aU)=true:=y5 (bT _ Er) (IE.aK bT UL) cJ;have ho:∀r∈dB (kY G key 0 n.aU) st.rows,r.g.af aq=true->r∈st.rows:=fun r hr h1=>by
   rcases bS.1 hr with hr|hr;obtain⟨m,e,kk,_,rfl⟩:=rf r hr;rw[Ia]at h1;cases h1;exact hr
 refine⟨aq,⟨⟨?_,?_,hs.below,by rw[c8];exact hs.defers,?_,?_⟩,bQ,cK w,fun k hk=>by rw[nO,cP];exact bT k hk,fun b hb=>.inl ⟨b,by rw[nO,cf]at hb;exact hb,rfl⟩⟩,UM⟩;refine oA (st:={st.bK key n.aU.length with rows:=dB (kY G key 0 n.aU) st.rows}) ke.tmps ?_;simp only[bc.af,Ia];rfl;rw[nO,cf,dG];have hm:=ke.mem;exact⟨hm.oo,hm.bb,fun r hr h1=>hm.row r (ho r hr h1) h1,fun b hb r hr h1=>hm.br b hb r (ho r hr h1) h1,fun r hr r' dj da hw h1 h2=>hm.rr r (ho r hr h1) r' (ho r' dj h2) da hw h1 h2⟩;refine⟨?_,?_,?_⟩;refine ij (st:={st.bK key n.aU.length with rows:=dB (kY G key 0 n.aU) st.rows}) (fun t s ht=>bc.aK bT (hs.names.tmps t s ht)) ?_;simp only[bc.all,SV.all,ao];exact⟨BE.aK bT sP,Da _ Ox⟩;rw[nO,cf,cP];exact fun b hb=>iX.aK bT (hs.names.bl b hb);rw[nO,dG,cP];intro r' dj;rcases bS.1 dj with dj|dj;obtain⟨m,e,kk,hm,rfl⟩:=rf r' dj;have:=cJ m (dw.1 hm).1;simp only[Row.all,ao];exact⟨this,this,BE.aK bT sP⟩;exact Row.aK bT (hs.names.rows r' dj)
 . exact dM.put (st:={st.bK key n.aU.length with rows:=dB (kY G key 0 n.aU) st.rows}) (ke.nest.next (cW (p:=st.has)) rfl bT (cK w) (fun k hk=>by cases hk) rfl (fun b hb=>.inl ⟨b,hb,rfl⟩) (fun r' dj h1 b hb=>.inl ⟨r',ho r' dj h1,id,h1,hb⟩))
end
section
open Go.RowKit
variable {ae:aF}{ph:Ph}{P:Program}
variable{e:TypeId}{w:World}{t:TypeId}{B:Nat}{k:aF->Prop}{o:Oper}{ra:Row}{st:St}{w0:World}{x:Operand}{Γ:bZ}{n room sz:Nat}{y:Operand}
theorem Gz{ty:TypeId}{a0:Option Addr}{y:Value}{m:Nat}{xs news:List Value}(ht:P.underlying t=some (.slice e))(hr:ma P e=some room)(vK:P.cellsOf e=sz)
   (h0:a0=none->n=0) (qA:∀j u,xs[j]?=some u->∃a,a0=some a/\w.cell? (a.add j)=some u) (qw:xs.length=n*sz) (hy:Reads w y m news) (hl:news.length=m*sz) (h1:∀u∈news,u.oneCell'=true) (ur:0<m) (lT:n+m<=room) (hB:B<=w.heap.size) :
   ∃(sl:Option Addr×Nat×Nat) (w':World),(Builtin.append_ #[t,t] ty #[.slice a0 n n,y]).run P w = .ok (.slice sl.1 sl.2.1 sl.2.2) w'/\w'.ownsRow B e sz (.slice sl.1 sl.2.1 sl.2.2) (n+m) (xs++news)/\w.grownBy w' none/\
     ((Value.slice sl.1 sl.2.1 sl.2.2).ownBlock=none\/(Value.slice sl.1 sl.2.1 sl.2.2).ownBlock=some w.heap.size):=by
 cases a0 with
 | none=>
   have hn:=h0 rfl;subst hn;have:xs=[]:=D5 (by rw[qw,Nat.zero_mul]);subst this;obtain⟨sl,w',e1,e2,e3,e4⟩:=tg (ty:=ty) ht hr vK (World.ownsRow_nil w B e sz) hy hl h1 lT hB;exact⟨sl,w',e1,e2,e3,e4⟩
 | some b=>
   unfold ma at hr;cases hi:P.info? e with
   |none=>simp[hi]at hr
   | some i=>
     simp only[hi]at hr;cases hz:i.zero with
     |none=>simp[hz]at hr
     | some z=>
       simp only[hz]at hr;split at hr;rename_i hc;simp only[ao,aO]at hc;obtain⟨⟨mv,C7⟩,hzs⟩:=hc;simp only[ah]at hr;subst hr;have Y1:i.size=sz:=by rw[<- vK,rD hi]
       have hby:(n+m)*i.bytes<=140737488355328:=(Nat.le_div_iff_mul_le mv).1 lT;have J6:n+m<=maxLen:=by
         have:n+m<=(n+m)*i.bytes:=Nat.le_mul_of_pos_right _ mv;unfold maxLen;omega
       obtain⟨base,cap,rfl,hm,vI,jc⟩:=hy;cases base with
       |none=>have:=(vI rfl).1;omega
       | some a=>
         have agd:0<sz:=by omega
         have hlen:(xs++news).length=(n+m)*sz:=by rw[fE,qw,hl,lY]
         obtain⟨v',w',e1,e2,e3⟩:=run_append_arg_grows (P:=P) w t ty e i z sz i.bytes ht hi hz Y1 rfl (by rw[hzs,Y1]) agd b n n xs qw
           (fun j u hj=>by obtain⟨a',e,h⟩:=qA j u hj;simp only[ah]at e;subst e;exact h) a m cap news hl
           (fun j u hj=>by obtain⟨a',e,h⟩:=jc j u hj;simp only[ah]at e;subst e;exact h) (by omega) J6 hby
         obtain⟨sl,rfl⟩:=l9 e2;refine⟨sl,w',e1,⟨e2.1,?_⟩,e3,?_⟩;rcases e2.2 with hh|⟨g,qy,cur,f1,f2,f3⟩;exact .inl hh;exact .inr ⟨g,qy,cur,f1,by omega,f3⟩;rcases e2.2 with⟨hh,_⟩|⟨g,qy,cur,f1,f2,f3,f4⟩;left;rw[hh];rfl
         ·
           right;have hr:=run_append_grow (P:=P) w t ty e i z ht hi hz b n n xs (by rw[qw,Y1]) (fun j u hj=>by obtain⟨a',e,h⟩:=qA j u hj;simp only[ah]at e;subst e;exact h) a m cap news (by rw[hl,Y1])
             (fun j u hj=>by obtain⟨a',e,h⟩:=jc j u hj;simp only[ah]at e;subst e;exact h) (by omega) (by unfold maxLen at J6;omega) (growslice_fits (by omega) hby)
           rw[e1]at hr;simp only[Result.ok.injEq]at hr;rw[hr.1];rfl
       cases hr
theorem AI{bq:St}{a:Act}{key:Nat}{dJ:List Ev}{rb:Row}
   (hs:Sat w0 ae ph st a w) (ho:o.op = .call {callee:=.builtin .append,args:=#[x,y],argTypes:=#[t,t] }) (hu:P.underlying t=some (.slice e)) (hr:ma P e=some room)
   (hx:bJ st (.c true) x=some (.cs ra.id)) (hy:bJ st (.c true) y=some (.s rb.id)) (AJ:ra∈st.rows) (Cm:rb∈st.rows) (L7:ra.g = .c true) (Ep:rb.g = .c true) (ot:ra.ks=rb.ks) (pF:P.cellsOf e=ra.ks.length)
   (h:newRow st (.c true) key e ra.ks [.aH (BE.lt (.c 0) (.len rb.lv)).mk,.aH (BE.le (IE.add (.len ra.lv) (.len rb.lv)).mk (.c (room:Int))).mk] (.app ra.lv rb.lv) st.rows o.dst=some (dJ,bq)) (hk:aW Γ dJ k ae) :
   pg Γ P w0 ae ph st bq o a w k:=by
 unfold newRow at h;split at h;rename_i bj;simp only[ao]at bj;obtain⟨bj,sP⟩:=bj;simp only[ah,aD]at h;obtain⟨rfl,rfl⟩:=h;obtain⟨h0,hk⟩:=jK (es:=[.aH (BE.le (IE.add (.len ra.lv) (.len rb.lv)).mk (.c (room:Int))).mk,.b8 key (.app ra.lv rb.lv)]) hk;obtain⟨h1,hk⟩:=jK (es:=[.b8 key (.app ra.lv rb.lv)]) hk;have h0:=fJ h0;have h1:=ck h1;rw[IE.cL]at h1;simp only[IE.af]at h0 h1;have dH:k (ae.set key (.l ((ae ra.lv).list++(ae rb.lv).list))):=hk;have Ew:=hs.mem.row ra AJ (by rw[L7];rfl);have Y6:=hs.mem.row rb Cm (by rw[Ep];rfl);have ex:=aG hx cC hs.tmps;have ey:=aG hy cC hs.tmps;simp only[ak.af]at ex ey;obtain⟨base,cap,hv,hn,mv,jc⟩:=Ew.reads;have jV:ph.v ra.id=(base,(ae ra.lv).list.length,cap):=by
   simp only[Ph.val,Value.slice.injEq]at hv;exact Prod.ext hv.1 (Prod.ext hv.2.1 hv.2.2)
 rw[jV]at ex;have acE:=Y6.reads;rw[<- ot]at acE;obtain⟨sl,w',e1,e2,e3,e5⟩:=Gz (ty:=o.type) hu hr pF (fun e=>(mv e).1) jc (bV _ _) acE (bV _ _) (jw _ _) (by omega) (by omega) hs.below.size;rw[<- mU,<- fE]at e2;have fk:=l8 (dst:=o.dst) (sl:=sl) (row:=none) (rows:=st.rows) hs sP cC bj Ew.1 (fun _ h=>h) e3 (fun _ h=>by cases h) (fun _ _=>by simp) (fun _ _ _ _ _=>by simp) e2 (by
   rcases e5 with e5|e5;exact .inl e5;exact .inr (.inl e5))
 have hW:sC st ph o.op=none:=by simp[ho,sC,hx]
 refine⟨.value (.slice sl.1 sl.2.1 sl.2.2),w',_,_,_,?_,rfl,by rw[hW];exact fk,dH⟩;simp only[execOp,ho,resolve,invoke,builtin,ff,gk,fc,List.map_toArray,kQ,pj,ex,ey,e1];cases h
theorem Db{base:Option Addr}{cap:Nat}{xs:List Value}(bR:w.ownsRow B e sz (.slice base n cap) n xs)(vs:List Value)(hl:vs.length<=n*sz)(h1:∀v∈vs,v.oneCell'=true) :
   ∃w',(∀a,base=some a->(storeCells a vs).run P w = .ok () w')/\(base=none->w'=w)/\w'.ownsRow B e sz (.slice base n cap) n (vs++xs.drop vs.length)/\w.grownBy w' (Value.slice base n cap).ownBlock:=by
 obtain⟨qw,⟨e1,iO⟩|⟨g,qy,cur,e1,hg,hh,vC,Gp,jc,td⟩⟩:=bR;simp only[Value.slice.injEq]at e1;obtain⟨rfl,rfl,rfl⟩:=e1;have mH:vs=[]:=D5 (by simpa using hl);have qA:xs=[]:=D5 (by simpa using qw);subst mH qA;exact⟨w,(by intro a h;cases h),(by intro _;rfl),World.ownsRow_nil _ _ _ _,jx (cK w)⟩;simp only[Value.slice.injEq,true_and]at e1;obtain⟨rfl,rfl⟩:=e1;have pc:cur.toList.length=cap*sz:=by simpa using jc
 have hle:n*sz<=cap*sz:=x9 _ vC;obtain⟨w',hr,iM,NU⟩:=kX (P:=P) g e 0 vs 0 cur.toList w (by simpa using hh) (by rw[pc];omega) h1;have rC:=uw vs cur.toList 0 0 (by rw[pc];omega);rw[rC]at NU;simp only[fR,iy,List.take_zero,nM]at NU;refine⟨w',(by intro a ha;cases ha;exact hr),(by intro h;cases h),⟨?_,.inr ⟨g,cap,_,rfl,hg,NU,vC,Gp,?_,?_⟩⟩,iM⟩;simp only[fE,List.length_drop,qw];omega;simp only[List.size_toArray,fE,List.length_drop,pc];omega;simp only[D8];rw[List.take_append,qB (by omega),<- td];congr 1;rw[List.drop_take]
theorem Cq(ks:List CK):∀(xs:List (List Int)) (n:Nat),aJ ks (xs.drop n)=(aJ ks xs).drop (n*ks.length):=by
 intro xs;induction xs with
 |nil=>intro n;simp[aJ]
 | cons r rs ih=>
   intro n;cases n with
   |zero=>simp
   | succ n=>
     simp only[List.drop_succ_cons,aJ,ih];rw[show(n+1)*ks.length=ks.length+n*ks.length by rw[lY];omega,List.drop_append,cO,wN (l:=bU ks 0 r) (by rw[cO];omega),nM];congr 1;omega
theorem OE{r:Row}(h:gZ B ae ph r w):∃base cap,ph.val r.id = .slice base (ae r.lv).list.length cap/\(base=none->(ae r.lv).list.length=0/\cap=0):=by
 obtain⟨base,cap,hv,_,mv,_⟩:=h.reads;exact⟨base,cap,hv,mv⟩
theorem L9(h:(P.info? e).isSome=true):∃i,P.info? e=some i/\i.size=P.cellsOf e:=by
 obtain⟨i,hi⟩:=At.1 h;exact⟨i,hi,(rD hi).symm⟩
theorem Ma{a:Act}{key:Nat}{rb:Row}
   (hs:Sat w0 ae ph st a w) (ho:o.op = .call {callee:=.builtin .copy,args:=#[x,y],argTypes:=#[t,t] }) (hu:P.underlying t=some (.slice e))
   (hx:bJ st (.c true) x=some (.s ra.id)) (hy:bJ st (.c true) y=some (.s rb.id)) (AJ:ra∈st.rows) (Cm:rb∈st.rows) (bR:ra.own=true) (L7:ra.g = .c true) (Ep:rb.g = .c true) (ot:ra.ks=rb.ks) (pF:P.cellsOf e=ra.ks.length)
   (hi:(P.info? e).isSome=true) (bj:st.free key 1=true) (hk:aW Γ [.b8 key (.UR ra.lv rb.lv)] k ae) :
   pg Γ P w0 ae ph st ({st.bK key 1 with rows:=dN {ra with lv:=key} (st.rows.filter fun r=>decide (r.id≠ra.id)) }.put o.dst ⟨.c true,.v (.one (.i .i64 (.min (.len ra.lv) (.len rb.lv))))⟩) o a w k:=by
 have Ir:ra.g.af ae=true:=by rw[L7];rfl
 have Ew:=hs.mem.row ra AJ Ir;have Y6:=hs.mem.row rb Cm (by rw[Ep];rfl);have ex:=aG hx cC hs.tmps;have ey:=aG hy cC hs.tmps;simp only[ak.af]at ex ey;have dz:=Ew.2;rw[if_pos bR]at dz;obtain⟨ba,ca,jV,hba⟩:=OE Ew;obtain⟨bb,cb,hvb,hnb,hbb,hcb⟩:=Y6.reads;rw[jV]at dz;obtain⟨i,hii,his⟩:=L9 hi;obtain⟨m,hm⟩:∃m,m=Nat.min (ae rb.lv).list.length (ae ra.lv).list.length:=⟨_,rfl⟩;have wE:m<=(ae rb.lv).list.length:=by rw[hm];exact Nat.min_le_left _ _
 have H6:m<=(ae ra.lv).list.length:=by rw[hm];exact Nat.min_le_right _ _
 obtain⟨vs,mH⟩:∃vs,vs=aJ rb.ks ((ae rb.lv).list.take m):=⟨_,rfl⟩;have te:vs.length=m*ra.ks.length:=by rw[mH,bV,uV,ot];congr 1;omega
 have hlm:m*ra.ks.length<=(ae ra.lv).list.length*ra.ks.length:=x9 _ H6;obtain⟨w',eK,OF,jA,iM⟩:=Db (P:=P) dz vs (by omega) (by rw[mH];exact jw _ _);have yj:(ew.UR ra.lv rb.lv).af ae=(ae rb.lv).list.take m++(ae ra.lv).list.drop m:=by
   simp only[ew.af];rw[hm];rcases Nat.le_total (ae rb.lv).list.length (ae ra.lv).list.length with hle|hle;rw[show Nat.min (ae rb.lv).list.length (ae ra.lv).list.length=(ae rb.lv).list.length from Nat.min_eq_left hle];rw[qB hle,qB (ga _)];rw[show Nat.min (ae rb.lv).list.length (ae ra.lv).list.length=(ae ra.lv).list.length from Nat.min_eq_right hle];rw[wN hle,wN (ga _)]
 obtain⟨nA,Ej⟩:∃nA,nA=(ae rb.lv).list.take m++(ae ra.lv).list.drop m:=⟨_,rfl⟩;have dH:k (ae.set key (.l nA)):=by rw[Ej,<- yj];exact hk
 have qw:nA.length=(ae ra.lv).list.length:=by rw[Ej];simp only[fE,uV,List.length_drop];omega
 have hfr:aJ ra.ks nA=vs++(aJ ra.ks (ae ra.lv).list).drop vs.length:=by
   rw[Ej,mU,mH,<- ot,Cq,bV];congr 2;rw[uV];congr 1;omega
 have hW:sC st ph o.op=(ph.val ra.id).ownBlock:=by simp[ho,sC,hx]
 have vJ:st.has key=false:=dr bj (ga _) (by omega);have mX:=fun(q:Row) (hq:q∈st.rows)=>by
   have:=hs.names.rows q hq;simpa only[Row.all,ao]using this
 have da:∀k,st.has k=true->k≠key:=fun k hk e=>by rw[e,vJ]at hk;cases hk
 refine⟨.value (goInt m),w',_,ae.set key (.l nA),ph,?_,rfl,?_,dH⟩;have hfc:∀sl:Option Addr,bb=sl->(Builtin.firstCells ra.ks.length m (.slice sl (ae rb.lv).list.length cb)).run P w = .ok vs.toArray w:=by
   intro sl Gt;cases sl with
   | none=>
     have:=(hbb Gt).1;have ur:m=0:=by omega
     rw[mH,ur];simp[Builtin.firstCells,aJ]
   | some b=>
     have Ax:=run_firstCells_some (P:=P) w ra.ks.length m b (ae rb.lv).list.length cb vs te (fun j u hj=>by
       have:(aJ rb.ks (ae rb.lv).list)[j]?=some u:=by
         rw[mH,vo]at hj;rw[Ay]at hj;split at hj;exact hj;cases hj
       obtain⟨a',e,h⟩:=hcb j u this;rw[Gt,ah]at e;subst e;exact h)
     exact Ax
 have hfc:=hfc bb rfl;simp only[execOp,ho,resolve,invoke,builtin,ff,gk,fc,List.map_toArray,kQ,pj,ex,ey,jV,hvb];have cY:(Builtin.copy_ #[t,t] o.type #[.slice ba (ae ra.lv).list.length ca,.slice bb (ae rb.lv).list.length cb]).run P w = .ok (goInt m) w':=by
   simp only[Builtin.copy_,List.getElem?_toArray,kK,Am,ff,run_underlying hu,fc,Builtin.lenOf,gk,cA (P:=P) (t:=e) (by rw[pF];exact Ew.1),pF,<- hm,hfc];cases Mb:ba with
   |none=>simp[OF Mb]
   |some b=>simp[eK b Mb]
 rw[cY];rfl;rw[hW];refine s8 hs AJ bR Ir bj (by rw[jV,qw,hfr];exact jA) (by rw[jV];exact iM) ?_ ?_;simp only[bc.all,BE.all,SV.all,V1.all,ak.all,IE.all,Bool.true_and,ao];exact⟨ig (mX ra AJ).2.1,ig (mX rb Cm).2.1⟩;simp only[bc.af,BE.af,if_true,SV.af,V1.af,ak.af,IE.af,aF.set,da _ (mX ra AJ).2.1,da _ (mX rb Cm).2.1,if_false,goInt];congr 1;rw[hm];have:((Nat.min (ae rb.lv).list.length (ae ra.lv).list.length:Nat):Int)=min ((ae ra.lv).list.length:Int) ((ae rb.lv).list.length:Int):=by
   have:Nat.min (ae rb.lv).list.length (ae ra.lv).list.length=min (ae rb.lv).list.length (ae ra.lv).list.length:=rfl;rw[this];omega
 exact this
theorem Ix{a:Act}{key:Nat}{z:V1}
   (hs:Sat w0 ae ph st a w) (ho:o.op = .call {callee:=.builtin .clear,args:=#[x],argTypes:=#[t] }) (hu:P.underlying t=some (.slice e))
   (hx:bJ st (.c true) x=some (.s ra.id)) (AJ:ra∈st.rows) (bR:ra.own=true) (L7:ra.g = .c true) (pF:P.cellsOf e=ra.ks.length) (hz:qC P e=some z) (Ug:z.leaves=ra.ks.map zeroOf)
   (bj:st.free key 1=true) (hk:aW Γ [.b8 key (.rep (.len ra.lv) (List.replicate ra.ks.length 0))] k ae) :
   pg Γ P w0 ae ph st ({st.bK key 1 with rows:=dN {ra with lv:=key} (st.rows.filter fun r=>decide (r.id≠ra.id)) }.put o.dst ⟨.c true,.H5 []⟩) o a w k:=by
 have Ir:ra.g.af ae=true:=by rw[L7];rfl
 have Ew:=hs.mem.row ra AJ Ir;have ex:=aG hx cC hs.tmps;simp only[ak.af]at ex;have dz:=Ew.2;rw[if_pos bR]at dz;obtain⟨ba,ca,jV,hba⟩:=OE Ew;rw[jV]at dz;obtain⟨n,hn⟩:∃n,n=(ae ra.lv).list.length:=⟨_,rfl⟩;rw[<- hn]at dz jV hba;obtain⟨i,zv,hii,Y3,iz⟩:=ti (ae:=ae) (ph:=ph) hz;rw[Ug]at iz;have hzs:zv.cells.size=ra.ks.length:=by rw[iz];simp
 have acF:=yh iz n;have Uh:(Builtin.zeroCells zv.cells n).toList=aJ ra.ks (List.replicate n (List.replicate ra.ks.length 0)):=by
   rw[<- acF];simp only[Builtin.zeroCells,madeCells,hzs]
 obtain⟨vs,mH⟩:∃vs,vs=aJ ra.ks (List.replicate n (List.replicate ra.ks.length 0)):=⟨_,rfl⟩;rw[<- mH]at Uh;have te:vs.length=n*ra.ks.length:=by rw[mH,bV,List.length_replicate]
 obtain⟨w',eK,OF,jA,iM⟩:=Db (P:=P) dz vs (by omega) (by rw[mH];exact jw _ _);have hd:(aJ ra.ks (ae ra.lv).list).drop vs.length=[]:=wN (by rw[bV,te,hn];exact ga _);rw[hd,vM]at jA;obtain⟨nA,Ej⟩:∃nA,nA=List.replicate n (List.replicate ra.ks.length (0:Int)):=⟨_,rfl⟩;have dH:k (ae.set key (.l nA)):=by
   have:k (ae.set key (.l ((ew.rep (.len ra.lv) (List.replicate ra.ks.length 0)).af ae))):=hk;simp only[ew.af,IE.af,<- hn,pz,<- Ej]at this;exact this
 have hW:sC st ph o.op=(ph.val ra.id).ownBlock:=by simp[ho,sC,hx]
 refine⟨.value (.tuple #[]),w',_,ae.set key (.l nA),ph,?_,rfl,?_,dH⟩;simp only[execOp,ho,resolve,invoke,builtin,ff,gk,fc,List.map_toArray,kQ,pj,ex,jV];have cY:(Builtin.clear_ #[t] o.type #[.slice ba n ca]).run P w = .ok (.tuple #[]) w':=by
   simp only[Builtin.clear_,List.getElem?_toArray,kK,ff,run_underlying hu,fc];cases Mb:ba with
   | none=>
     have:=OF Mb;subst this;simp
   | some b=>
     cases pG:n with
     | zero=>
       have age:vs=[]:=D5 (by rw[te,pG,Nat.zero_mul]);have:=eK b Mb;rw[age]at this;simp only[storeCells,gk,Result.ok.injEq,true_and]at this;subst this;simp
     | succ n'=>
       rw[pG]at Uh;have hze:(zeroValue e).run P w = .ok zv w:=by simp[zeroValue,typeInfo,hii,Y3]
       simp[hze,Uh,eK b Mb]
 rw[cY];rfl;rw[hW];have wH:nA.length=n:=by rw[Ej];simp
 refine s8 hs AJ bR Ir bj (by rw[jV,wH,Ej,<- mH];exact jA) (by rw[jV];exact iM) rfl rfl
end
section
open Go.RowKit
variable {ae:aF}{ph:Ph}{P:Program}
variable{e:TypeId}{st:St}{w:World}{k:aF->Prop}{ls:List ak}{n:Nat}{o:Oper}{parts:Array (Nat×Operand)}{ps:List (Nat×V1)}{sz:Nat}{t:TypeId}{w0:World}{Γ:bZ}
theorem L3{a:Act}{src L4:TypeId}{x:Operand}{key:Nat}{bs:List UInt8}
   (hs:Sat w0 ae ph st a w) (ho:o.op = .convert src L4 x) (Y5:P.underlying src=some .string) (hd:P.underlying L4=some (.slice e)) (he:P.underlying e=some (.int .u8)) (hx:bJ st (.c true) x=some (.str bs)) (hlen:bs.length<=4096)
   (bj:st.free key 1=true) (hk:aW Γ [.b8 key (.lit (bs.map fun b=>[Sum.inl (IE.c (b.toNat:Int))]))] k ae) :
   pg Γ P w0 ae ph st ({st.bK key 1 with rows:=dN ⟨key,e,[.i .u8],key,false,.c true⟩ st.rows}.put o.dst ⟨.c true,.v (.one (.kb key bs))⟩) o a w k:=by
 have ex:=aG hx cC hs.tmps;simp only[ak.af]at ex;obtain⟨s,hsd⟩:∃s:ByteArray,s=⟨bs.toArray⟩:=⟨_,rfl⟩;rw[<- hsd]at ex;have hss:s.size=bs.length:=by rw[hsd];simp[ByteArray.size]
 have cY:=run_bytes_of_string (P:=P) w src L4 e s Y5 hd he;have my:=grownCap_ge w s.size 0 e;obtain⟨cap,Od⟩:∃cap,cap=grownCap w s.size 0 e:=⟨_,rfl⟩;rw[<- Od]at cY my;obtain⟨xs,qA⟩:∃xs:List (List Int),xs=bs.map fun b=>[(b.toNat:Int)]:=⟨_,rfl⟩;have dH:k (ae.set key (.l xs)):=by
   have:k (ae.set key (.l ((ew.lit (bs.map fun b=>[Sum.inl (IE.c (b.toNat:Int))])).af ae))):=hk;have e:(ew.lit (bs.map fun b=>[Sum.inl (IE.c (b.toNat:Int))])).af ae=xs:=by
     rw[qA];simp only[ew.af,List.map_map];apply zF;intro b _;rfl
   rw[e]at this;exact this
 have qw:xs.length=bs.length:=by rw[qA];simp
 have vJ:st.has key=false:=dr bj (ga _) (by omega);have da:∀k,st.has k=true->k≠key:=fun k hk e=>by rw[e,vJ]at hk;cases hk
 obtain⟨sl,Gt⟩:∃sl:Option Addr×Nat×Nat,sl=(some ⟨w.heap.size,0,none⟩,bs.length,cap):=⟨_,rfl⟩;have bQ:bH st.has ae (ae.set key (.l xs)) ph (ph.wL key sl):=⟨fun k hk=>by simp[aF.set,da k hk],fun _ _=>rfl,fun k hk=>by simp[Ph.wL,da k hk]⟩;have gI:(ph.wL key sl).val key = .slice (some ⟨w.heap.size,0,none⟩) bs.length cap:=by simp[Ph.val,Ph.wL,Gt]
 have yX:(st.bK key 1).has key=true:=jy (ga _) (by omega);have hW:sC st ph o.op=none:=by simp[ho,sC]
 obtain⟨W,hWd⟩:∃W,W=w.drew.alloc (.cells (bytesRow s cap) e ((bytesRow s cap).size,(bytesRow s cap).size+1)):=⟨_,rfl⟩;rw[<- hWd]at cY;have agc:w.grownBy W none:=by
   rw[hWd];exact⟨rfl,rfl,rfl,by simp,fun k hk _=>heap_alloc_old w.drew _ (show k<w.drew.heap.size from by simpa using hk)⟩
 refine⟨.value (.slice (some ⟨w.heap.size,0,none⟩) s.size cap),W,a.put o.dst (.slice (some ⟨w.heap.size,0,none⟩) s.size cap),ae.set key (.l xs),ph.wL key sl,?_,rfl,?_,dH⟩;simp only[execOp,ho,ex,ff,cY,fc,gk];rw[hW,hss];refine Eh (nr:=⟨key,e,[.i .u8],key,false,.c true⟩) hs rfl rfl rfl bj (fun _ h=>h) agc (fun _ h=>by cases h) bQ rfl yX (fun _ _=>by simp) (fun _ _ _ _ _=>by simp) ⟨by simp,?_⟩ (fun k hk=>?_) ?_ ?_;simp only[jU,if_false,gI,aF.set,if_true,DV.list,qw];refine⟨_,cap,rfl,⟨by unfold maxLen;omega,by omega⟩,fun h=>by simp at h,fun j u hj=>⟨_,rfl,?_⟩⟩;have H8:j<bs.length:=by
   have:=(dw.1 hj).1;rw[bV,qw]at this;simpa using this
 have hf:=nE [.i .u8] xs j 0 (by omega) (by simp);simp only[List.length_singleton,Nat.mul_one,iy]at hf;rw[hf]at hj;have L5:xs.getD j []=[((bs[j]'H8).toNat:Int)]:=by simp[qA,List.getD,H8]
 simp only[kK,s5,ah,L5]at hj;subst hj;rw[jM];have hh:W.heap[w.heap.size]?=some (.cells (bytesRow s cap) e ((bytesRow s cap).size,(bytesRow s cap).size+1)):=by rw[hWd];exact heap_alloc_new w.drew _
 simp only[World.cell?,hh,fR];rw[hsd];simp[bytesRow,Array.getElem?_append,H8,CK.val];simp only[Row.cc,Bool.false_or,gI,Value.ownBlock]at hk;split at hk;simp only[ah]at hk;exact .inr (by omega);cases hk;simp only[bc.all,BE.all,SV.all,V1.all,ak.all,Bool.true_and];exact yX;simp[bc.af,BE.af,SV.af,V1.af,ak.af,gI]
theorem L6(sz:Nat):∀(n i:Nat) (ps:List (Nat×V1)) (ls:List ak) (cells:List Value),kZ sz n i ps=some ls->cells.length=(i+n)*sz->
   Instr.fill (fun i=>some (i*sz,sz)) cells.toArray (ps.map fun p=>(p.1,p.2.af ae ph))=some (cells.take (i*sz)++ls.map (ak.af ae ph)).toArray/\ls.length=n*sz:=by
 intro n;induction n with
 | zero=>
   intro i ps ls cells h hl;cases ps with
   | nil=>
     simp only[kZ,ah]at h;subst h;refine⟨?_,by simp⟩;simp only[pj,Instr.fill,vM];rw[qB (by rw[hl,iy];exact ga _)]
   |cons p ps=>simp[kZ]at h
 | succ n ih=>
   intro i ps ls cells h hl;cases ps with
   |nil=>simp[kZ]at h
   | cons p ps=>
     obtain⟨j,v⟩:=p;simp only[kZ]at h;split at h;rename_i En;obtain⟨rfl,te⟩:=En;simp only[bN]at h;obtain⟨J1,UO,rfl⟩:=h;have zI:(v.leaves.map (ak.af ae ph)).length=sz:=by rw[qd,te]
     have yd:(i+(n+1))*sz=i*sz+sz+n*sz:=by rw[lY,lY,Nat.one_mul];omega
     simp only[kQ,Instr.fill,V1.fZ];rw[if_neg (by simp[te,hl,yd]<;>omega)];have rC:=uw (v.leaves.map (ak.af ae ph)) cells (i*sz) 0 (by rw[zI,hl,yd];omega);have LR:((v.leaves.map (ak.af ae ph)).toArray.zipIdx.foldl (fun cs (x:Value×Nat)=>cs.setIfInBounds (i*sz+x.2) x.1) cells.toArray)=(cells.take (i*sz)++v.leaves.map (ak.af ae ph)++cells.drop (i*sz+sz)).toArray:=by
       apply kS;rw[xV];simp only[D8];rw[rC,zI,iy]
     obtain⟨e1,e2⟩:=ih (i+1) ps J1 (cells.take (i*sz)++v.leaves.map (ak.af ae ph)++cells.drop (i*sz+sz)) UO (by
       simp only[fE,uV,List.length_drop,zI,hl,yd];rw[show i+1+n=i+(n+1)by omega,yd];omega)
     refine⟨?_,by simp[te,e2,lY];omega⟩;refine(congrArg (fun c=>Instr.fill (fun i=>some (i*sz,sz)) c (ps.map fun p=>(p.1,p.2.af ae ph))) LR).trans ?_;rw[e1];congr 2;rw[show(i+1)*sz=i*sz+sz by rw[lY,Nat.one_mul]];rw[Eo (by simp only[fE,uV,zI,hl,yd];omega),qB (by simp only[fE,uV,zI,hl,yd];omega)];simp;cases h
theorem Gy{a:Act}(hu:P.underlying t=some (.slice e))(ht:gB ae ph st.tmps a.tmps){G:BE}(hG:G.af ae=true)(F4:iN st G parts.toList=some ps)(h0:0<sz)(hz:((P.info? e).bind (·.zero)).isSome=true)
   (lT:n*sz<=16777216) (hc:P.cellsOf e=sz) (xH:kZ sz n 0 ps=some ls) :
   (Instr.buildSlice t n (parts.map fun(i,x)=>(i,a.eval x))).run P w = .ok (.slice (some ⟨w.heap.size,0,none⟩) n n) (w.alloc (.cells (ls.map (ak.af ae ph)).toArray e))/\ls.length=n*sz:=by
 have AE:=qe (a:=a) hG ht F4;obtain⟨i,hi,z,NV⟩:∃i,P.info? e=some i/\∃z,i.zero=some z:=by
   cases hi:P.info? e with
   |none=>simp[hi]at hz
   |some i=>simp[hi]at hz;exact⟨i,rfl,At.1 hz⟩
 have hzr:(zeroValue e).run P w = .ok z w:=by simp[zeroValue,typeInfo,hi,NV]
 obtain⟨z0,NW⟩:∃z0:Array Value,z0.size=(0+n)*sz/\(Instr.buildSlice t n (parts.map fun(i,x)=>(i,a.eval x))).run P w =
     (match Instr.fill (fun i=>some (i*sz,sz)) z0 (ps.map fun p=>(p.1,p.2.af ae ph))with
      |some cells=>.ok (.slice (some ⟨w.heap.size,0,none⟩) n n) (w.alloc (.cells cells e))
      |none=>.halt (.stuck "buildSlice: a part of the wrong size") w):=by
   by_cases hn:n*sz=0;refine⟨Array.map (fun x=>(#[]:Array Value)[x%(#[]:Array Value).size]!) (Array.range (n*sz)),by simp,?_⟩;simp only[Instr.buildSlice,ff,run_underlying hu,fc,cA (P:=P) (w:=w) (t:=e) (by omega),hc];rw[if_neg (by omega),if_pos hn];simp only[ff,gk,fc,Array.toList_map,AE];generalize Array.map _ (Array.range (n*sz))=zz;cases Instr.fill (fun i=>some (i*sz,sz)) zz (ps.map fun p=>(p.1,p.2.af ae ph))with
   |none=>rfl
   |some cells=>rfl
   refine⟨(Array.range (n*sz)).map (z.cells[· % z.cells.size]!),by simp,?_⟩;simp only[Instr.buildSlice,ff,run_underlying hu,fc,cA (P:=P) (w:=w) (t:=e) (by omega),hc];rw[if_neg (by omega),if_neg hn];simp only[ff,hzr,gk,fc,Array.toList_map,AE];generalize Array.map _ (Array.range (n*sz))=zz;cases Instr.fill (fun i=>some (i*sz,sz)) zz (ps.map fun p=>(p.1,p.2.af ae ph))with
   |none=>rfl
   |some cells=>rfl
 obtain⟨Y0,cY⟩:=NW;obtain⟨hf,hl⟩:=L6 (ae:=ae) (ph:=ph) sz n 0 ps ls z0.toList xH (by simpa using Y0);simp only[Nat.zero_mul,List.take_zero,nM,Array.toArray_toList]at hf;rw[hf]at cY;exact⟨cY,hl⟩
theorem UQ{a:Act}{key:Nat}
   (hs:Sat w0 ae ph st a w) (ho:o.op = .buildSlice t n parts) (hu:P.underlying t=some (.slice e)) (F4:iN st (.c true) parts.toList=some ps) (h0:0<sz) (hz:((P.info? e).bind (·.zero)).isSome=true)
   (lT:n*sz<=16777216) (hc:P.cellsOf e=sz) (xH:kZ sz n 0 ps=some ls) (bj:st.free key 1=true) (hla:bG st.has ls=true) (hk:k ae) :
   pg Γ P w0 ae ph st ({st.bK key 1 with bl:=mV ⟨key,e,ls⟩ st.bl}.put o.dst ⟨.c true,.v (.one (.bs key n sz))⟩) o a w k:=by
 obtain⟨cY,_⟩:=Gy (P:=P) (w:=w) (a:=a) hu hs.tmps cC F4 h0 hz lT hc xH;have hW:sC st ph o.op=none:=by simp[ho,sC]
 have eK:=Az (a:=a) (e:=e) (dst:=o.dst) (s:=⟨.c true,.v (.one (.bs key n sz))⟩) (v:=.slice (some ⟨w.heap.size,0,none⟩) n n) hs bj hla ?_ ?_;refine⟨.value (.slice (some ⟨w.heap.size,0,none⟩) n n),_,_,ae,_,?_,rfl,by rw[hW];exact eK,hk⟩;simp only[execOp,ho,ff,cY,fc,gk];simp only[bc.all,BE.all,SV.all,V1.all,ak.all,Bool.true_and];exact jy (ga _) (by omega);simp[bc.af,BE.af,SV.af,V1.af,ak.af,Ph.qi]
end
section
open Go.RowKit
variable {ae:aF}{ph:Ph}{P:Program}
variable{w:World}{aU:List NK}{cs:List Value}{st:St}{z:Nat->Prop}{e:TypeId}{w' w0:World}{B:Nat}{bq:St}{dJ:List Ev}{k:aF->Prop}{o:Oper}{t:TypeId}{Γ:bZ}{bp:List eO}{n:Nat}{x:Operand}
theorem iG{b x:eO}:∀ {l:List eO},b∈vO x l↔b=x\/b∈l:=by
 intro l;induction l with
 |nil=>simp[vO]
 | cons y l ih=>
   simp only[vO];split;simp;simp only[bC,ih];constructor;rintro(h|h|h)<;>simp[h];rintro(h|h|h)<;>simp[h]
theorem AH{a:Act}{key:Nat}{xs:List (List Int)}{rows:List Row}{dst:Option Tmp}{sl:Option Addr×Nat×Nat}{row:Option Nat}{N:Nat->Prop}
   (h:Sat w0 ae ph st a w) (bj:st.free key 1=true) (LV:0<aU.length) (fg:∀r∈rows,r∈st.rows) (y7:∀n∈bp,n∈st.bp) (hg:w.grownBy w' row)
   (bB:∀k,row=some k->w0.heap.size<=k/\¬ ph.z k/\∀n∈bp,n.own=true->(ph.val n.id).ownBlock≠some k)
   (lO:∀b∈st.bl,row≠some (ph.r b.id)) (iw:∀r∈rows,r.g.af ae=true->∀k,r.cc ae ph=some k->row≠some k)
   (hN:∀k,N k->k<w.heap.size/\(∀b∈st.bl,ph.r b.id≠k)/\(∀r∈rows,r.g.af ae=true->r.cc ae ph≠some k)/\(∀n∈bp,n.own=true->(ph.val n.id).ownBlock≠some k)/\row≠some k)
   (bR:D6 (fun k=>(ph.z k\/N k)/\w0.heap.size<=k) w' w0.heap.size e aU (.slice sl.1 sl.2.1 sl.2.2) xs)
   (jA:(Value.slice sl.1 sl.2.1 sl.2.2).ownBlock=row\/(Value.slice sl.1 sl.2.1 sl.2.2).ownBlock=some w.heap.size\/(Value.slice sl.1 sl.2.1 sl.2.2).ownBlock=none) :
   Step w0 ae (ae.set key (.l xs)) ph {ph.wL key sl with z:=fun k=>ph.z k\/N k} st ({st.bK key 1 with rows,bp:=vO ⟨key,e,aU,key,.c true,true⟩ bp}.put dst ⟨.c true,.v (.one (.s key))⟩)
     (a.put dst (.slice sl.1 sl.2.1 sl.2.2)) w w' row:=by
 obtain⟨aQ,Oz⟩:∃aQ:Ph,aQ = {ph.wL key sl with z:=fun k=>ph.z k\/N k}:=⟨_,rfl⟩;rw[<- Oz];have NV:∀k,aQ.z k↔(ph.z k\/N k):=fun k=>by rw[Oz]
 have vJ:st.has key=false:=dr bj (ga _) (by omega);have da:∀k,st.has k=true->k≠key:=fun k hk e=>by rw[e,vJ]at hk;cases hk
 have bQ:bH st.has ae (ae.set key (.l xs)) ph aQ:=⟨fun k hk=>by simp[aF.set,da k hk],fun _ _=>by rw[Oz];rfl,fun k hk=>by rw[Oz];simp[Ph.wL,da k hk]⟩;have gI:aQ.val key = .slice sl.1 sl.2.1 sl.2.2:=by rw[Oz];simp[Ph.val,Ph.wL]
 have yX:(st.bK key 1).has key=true:=jy (ga _) (by omega);have bT:∀k,st.has k=true->(st.bK key 1).has k=true:=fun k hk=>ig hk;have Gu:=h.mem.congr bQ h.names.bl h.names.rows;have mX:=fun(q:Row) (hq:q∈st.rows)=>by
   have:=h.names.rows q hq;simpa only[Row.all,ao]using this
 have ft:∀r∈st.rows,r.cc (ae.set key (.l xs)) aQ=r.cc ae ph:=fun r hr=>by
   unfold Row.cc;rw[<- bQ.e _ (mX r hr).2.1];simp only[Ph.val,bQ.v _ (mX r hr).1]
 have pB:∀r∈st.rows,r.g.af (ae.set key (.l xs))=r.g.af ae:=fun r hr=>(BE.av bQ.e (mX r hr).2.2).symm;have sB:∀b∈st.bl,aQ.r b.id=ph.r b.id:=fun b hb=>by
   have:=h.names.bl b hb;simp only[iX.all,ao]at this;exact(bQ.r _ this.1).symm
 have hnv:∀n∈st.bp,aQ.val n.id=ph.val n.id/\(ae.set key (.l xs)) n.lv=ae n.lv/\n.g.af (ae.set key (.l xs))=n.g.af ae:=fun n hn=>by
   have:=h.nest.nm n hn;simp only[eO.all,ao]at this;exact⟨by simp only[Ph.val,bQ.v _ this.1],(bQ.e _ this.2.1).symm,(BE.av bQ.e this.2.2).symm⟩
 have Gw:∀k,(Value.slice sl.1 sl.2.1 sl.2.2).ownBlock=some k->row=some k\/k=w.heap.size:=fun k hk=>by
   rcases jA with e|e|e;exact .inl (by rw[<- e,hk]);rw[hk]at e;simp only[ah]at e;exact .inr e;rw[hk]at e;cases e
 have acB:∀k,aQ.z k->k<w.heap.size:=fun k hk=>by
   rcases(NV k).1 hk with hk|hk;exact h.nest.lt k hk;exact(hN k hk).1
 have acC:∀k,row=some k->¬ aQ.z k:=fun k hk LN=>by
   rcases(NV k).1 LN with e|e;exact(bB k hk).2.1 e;exact(hN k e).2.2.2.2 hk
 refine⟨⟨?_,?_,h.below.grown hg h.below.size (fun k hk=>(bB k hk).1),by rw[c8];exact h.defers,?_,?_⟩,bQ,hg,fun k hk=>by rw[cP];exact bT k hk,fun b hb=>.inl ⟨b,by rw[cf]at hb;exact hb,rfl⟩⟩;refine oA (st:={st.bK key 1 with rows,bp:=vO ⟨key,e,aU,key,.c true,true⟩ bp}) ⟨h.tmps.1,fun t s ht=>?_⟩ ?_;rw[<- bc.av bQ (h.names.tmps t s ht)];exact h.tmps.2 t s ht;simp[bc.af,BE.af,SV.af,V1.af,ak.af,gI];rw[cf,dG];refine⟨fun b hb=>(Gu.oo b hb).grown hg (fun e=>lO b hb (by rw[<- e,sB b hb])),Gu.bb,fun r hr h1=>?_,fun b hb r hr h1=>Gu.br b hb r (fg r hr) h1,fun r hr r' dj l7 ho h1 h2=>Gu.rr r (fg r hr) r' (fg r' dj) l7 ho h1 h2⟩;have eQ:=fg r hr;exact(Gu.row r eQ h1).grown hg (fun k hk e=>by
   rw[ft r eQ]at hk;rw[pB r eQ]at h1;exact iw r hr h1 k hk e.symm)
 refine⟨?_,?_,?_⟩;refine ij (st:={st.bK key 1 with rows,bp:=vO ⟨key,e,aU,key,.c true,true⟩ bp}) (fun t s ht=>bc.aK bT (h.names.tmps t s ht)) ?_;simp only[bc.all,BE.all,SV.all,V1.all,ak.all,Bool.true_and];exact yX;rw[cf,cP];exact fun b hb=>iX.aK bT (h.names.bl b hb);rw[dG,cP];exact fun r hr=>Row.aK bT (h.names.rows r (fg r hr));refine dM.put (st:={st.bK key 1 with rows,bp:=vO ⟨key,e,aU,key,.c true,true⟩ bp}) ⟨fun k hk=>Eg (acB k hk) hg.size,fun b hb Oo=>?_,fun r hr ho h1 k hk LN=>?_,fun n hn h1=>?_,fun n hn=>?_,fun n hn ho=>?_⟩;rw[sB b hb]at Oo;rcases(NV _).1 Oo with e|e;exact h.nest.bz b hb e;exact(hN _ e).2.1 b hb rfl;have eQ:=fg r hr;rw[ft r eQ]at hk;rw[pB r eQ]at h1;rcases(NV _).1 LN with e|e;exact h.nest.rz r eQ ho h1 k hk e;exact(hN _ e).2.2.1 r hr h1 hk;rcases iG.1 hn with rfl|hn;refine⟨LV,?_⟩;unfold fS;rw[if_pos rfl];simp only[gI,aF.set,if_true,DV.list];refine bR.nG (fun _ _=>rfl) (fun k hk=>⟨(NV k).2 hk.1,hk.2⟩) (fun _ _=>rfl);have iO:=y7 n hn;obtain⟨e1,e2,e3⟩:=hnv n iO;obtain⟨h0,Ca⟩:=h.nest.rd n iO (by rw[<- e3];exact h1);refine⟨h0,?_⟩;unfold fS at *;rw[e1,e2];split;rename_i ho;rw[if_pos ho]at Ca;exact Ca.nG (fun k hk=>hg.block k (h.nest.lt k hk.1) (fun e=>(bB k e.symm).2.1 hk.1)) (fun k hk=>⟨(NV k).2 (.inl hk.1),hk.2⟩) (fun k hk=>hg.block k (h.nest.qc iO ho hk).2 (fun e=>(bB k e.symm).2.2 n hn ho hk));rename_i ho;rw[if_neg ho]at Ca;exact Ca.nG (fun k hk=>hg.block k (h.nest.lt k hk) (fun e=>(bB k e.symm).2.1 hk)) (fun k hk=>(NV k).2 (.inl hk));rcases iG.1 hn with rfl|hn;simp only[eO.all,BE.all,Bool.and_true];rw[show({st.bK key 1 with rows,bp:=vO ⟨key,e,aU,key,.c true,true⟩ bp}:St).has key=(st.bK key 1).has key from rfl,yX];rfl;exact eO.aK bT (h.nest.nm n (y7 n hn));rcases iG.1 hn with rfl|hn;refine⟨rfl,fun k hk=>?_⟩;simp only[gI]at hk;have hnz:∀k',k=k'->¬ aQ.z k':=fun k' ek LN=>by
   subst ek;rcases Gw k hk with e|e;exact acC k e LN;have:=acB k LN;omega
 refine⟨hnz k rfl,fun b hb he=>?_,fun r hr iM hf=>?_,fun n' pG re l7=>?_⟩;rw[sB b hb]at he;rcases Gw k hk with e|e;exact lO b hb (by rw[e,he]);have:=(h.mem.oo b hb).lt;omega;have eQ:=fg r hr;rw[ft r eQ]at hf;rw[pB r eQ]at iM;rcases Gw k hk with e|e;exact iw r hr iM k hf e;have:=(h.mem.row r eQ iM).uk hf;omega;rcases iG.1 pG with rfl|pG;exact absurd rfl l7;have iO:=y7 n' pG;rw[(hnv n' iO).1];intro hf;rcases Gw k hk with e|e;exact(bB k e).2.2 n' pG re hf;have:=(h.nest.qc iO re hf).2;omega;have iO:=y7 n hn;obtain⟨h1,h2⟩:=h.nest.oz n iO ho;refine⟨h1,fun k hk=>?_⟩;rw[(hnv n iO).1]at hk;obtain⟨g1,g2,g3,g4⟩:=h2 k hk;refine⟨fun LN=>?_,fun b hb he=>?_,fun r hr iM hf=>?_,fun n' pG re l7=>?_⟩;rcases(NV _).1 LN with e|e;exact g1 e;exact(hN _ e).2.2.2.1 n hn ho hk;rw[sB b hb]at he;exact g2 b hb he;have eQ:=fg r hr;rw[ft r eQ]at hf;rw[pB r eQ]at iM;exact g3 r eQ iM hf;rcases iG.1 pG with rfl|pG;simp only[gI];intro hf;rcases Gw k hf with e|e;exact(bB k e).2.2 n hn ho hk;have:=(h.nest.qc iO ho hk).2;omega;rw[(hnv n' (y7 n' pG)).1];exact g4 n' (y7 n' pG) re l7
def Gx(z:Nat->Prop)(w:World)(aU:List NK)(cs:List Value)(xs:List (List Int)):Prop:=
 ∀i r,xs[i]?=some r->∀j nk,aU[j]?=some nk->∃u,cs[i*aU.length+j]?=some u/\sf z w nk (r.getD j 0) (eU aU r j) u
theorem Gx.append{qG:List Value}{xs nA:List (List Int)}(hl:cs.length=xs.length*aU.length)(h:Gx z w aU cs xs)(h':Gx z w aU qG nA):Gx z w aU (cs++qG) (xs++nA):=by
 intro i r hi j nk hj;have H8:=(dw.1 hj).1;by_cases cM:i<xs.length;rw[p9 cM]at hi;obtain⟨u,hu,hc⟩:=h i r hi j nk hj;exact⟨u,by rw[p9 (dw.1 hu).1];exact hu,hc⟩;rw[qv (by omega)]at hi;obtain⟨u,hu,hc⟩:=h' _ r hi j nk hj;have e:i*aU.length=xs.length*aU.length+(i-xs.length)*aU.length:=by rw[<- lY];congr 1;omega
 refine⟨u,?_,hc⟩;rw[qv (by rw[hl,e];omega),hl,e,<- hu];congr 1;omega
theorem Gx.take{xs:List (List Int)}(h:Gx z w aU cs xs)(m:Nat):Gx z w aU (cs.take (m*aU.length)) (xs.take m):=by
 intro i r hi j nk hj;have H8:=(dw.1 hj).1;rw[Ay]at hi;split at hi;rename_i him;obtain⟨u,hu,hc⟩:=h i r hi j nk hj;refine⟨u,?_,hc⟩;have:(i+1)*aU.length<=m*aU.length:=x9 _ him;rw[lY]at this;rw[Ay,if_pos (by omega)];exact hu;cases hi
theorem Gx.UN{xs:List (List Int)}(hl:cs.length=xs.length*aU.length)(h:Gx z w aU cs xs):∀u∈cs,u.oneCell'=true:=by
 intro u hu;obtain⟨q,hq⟩:=List.getElem?_of_mem hu;have H9:=(dw.1 hq).1;rw[hl]at H9;have h0:0<aU.length:=by
   rcases Nat.eq_zero_or_pos aU.length with e|e;rw[e]at H9;omega;exact e
 have hd:q/aU.length<xs.length:=(Nat.div_lt_iff_lt_mul h0).2 H9;have hm:=Nat.mod_lt q h0;obtain⟨v,hv,hc⟩:=h (q/aU.length) _ (eN hd) (q%aU.length) _ (eN hm);rw[Nat.div_add_mod']at hv;rw[hq,ah]at hv;subst hv;cases LV:aU[q%aU.length]with
 | c k=>
   rw[LV]at hc;rw[show u=k.val _ from hc];exact CK.pq _ _
 | s e k=>
   rw[LV]at hc;obtain⟨_,⟨b,c,rfl,_⟩,_⟩:=hc;rfl
theorem Gx.nG{z':Nat->Prop}{xs:List (List Int)}(h:Gx z w aU cs xs)(hz:∀k,z k->w'.heap[k]?=w.heap[k]?)(JW:∀k,z k->z' k):Gx z' w' aU cs xs:=by
 intro i r hi j nk hj;obtain⟨u,hu,hc⟩:=h i r hi j nk hj;exact⟨u,hu,hc.nG hz JW⟩
theorem zN(k:CK):∀xs:List (List Int),aJ [k] ((xs.map fun r=>r.getD 0 0).map fun x=>[x])=aJ [k] xs:=by
 intro xs;induction xs with
 |nil=>rfl
 |cons r rs ih=>simp only[kQ,aJ,ih];rfl
theorem Iu(hm:kz B ae ph st.bl st.rows w)(hg:w.grownBy w' none):∀ {aU:List NK} {ls:List ak} {xs:List cN} {gone:List Nat},oJ st aU ls=some (xs,gone)->(∀r∈st.rows,r.id∈gone->r.own=true->r.g = .c true->∀k,(ph.val r.id).ownBlock=some k->z k)->
   ls.length=aU.length/\xs.length=aU.length/\∀j nk,aU[j]?=some nk->∃l,ls[j]?=some l/\sf z w' nk ((xs.map (cN.head ae)).getD j 0) (qj aU (xs.map (cN.head ae)) (xs.flatMap (cN.tail ae)) j) (l.af ae ph):=by
 intro aU;induction aU with
 | nil=>
   intro ls xs gone h _;cases ls with
   |nil=>simp only[oJ,ah,aD]at h;obtain⟨rfl,rfl⟩:=h;exact⟨rfl,rfl,fun j nk hj=>by simp at hj⟩
   |cons l ls=>simp[oJ]at h
 | cons nk aU ih=>
   intro ls xs gone h hz;cases ls with
   |nil=>cases nk<;>simp[oJ]at h
   | cons l ls=>
     cases nk with
     | c k=>
       simp only[oJ]at h;split at h;rename_i x nA gs hx qA;simp only[ah,aD]at h;obtain⟨rfl,rfl⟩:=h;obtain⟨e1,e2,e3⟩:=ih qA hz;refine⟨by simp[e1],by simp[e2],fun j nk hj=>?_⟩;cases j with
       | zero=>
         simp only[kK,ah]at hj;subst hj;refine⟨l,rfl,?_⟩;show l.af ae ph=k.val _;rw[rA (ae:=ae) (ph:=ph) hx];rfl
       | succ j=>
         obtain⟨l',h1,h2⟩:=e3 j nk (by simpa using hj);refine⟨l',by simpa using h1,?_⟩;simp only[kQ,List.getD_cons_succ,qj,List.tail_cons,List.flatMap_cons,cN.tail,nM];exact h2
       cases h
     | s e k=>
       have step:∀(c:cN) (nA:List cN) (gs:List Nat),oJ st aU ls=some (nA,gs)->(∀r∈gs,r∈gone)->xs=c::nA->c.head ae=((c.tail ae).length:Int)->sf z w' (.s e k) (c.head ae) (c.tail ae) (l.af ae ph)->
           (l::ls).length=(NK.s e k::aU).length/\xs.length=(NK.s e k::aU).length/\∀j nk,(NK.s e k::aU)[j]?=some nk->∃l',(l::ls)[j]?=some l'/\sf z w' nk ((xs.map (cN.head ae)).getD j 0) (qj (NK.s e k::aU) (xs.map (cN.head ae)) (xs.flatMap (cN.tail ae)) j) (l'.af ae ph):=by
         intro c nA gs qA hgs hx hh hc;subst hx;obtain⟨e1,e2,e3⟩:=ih qA (fun r hr LW=>hz r hr (hgs _ LW));refine⟨by simp[e1],by simp[e2],fun j nk hj=>?_⟩;cases j with
         | zero=>
           simp only[kK,ah]at hj;subst hj;refine⟨l,rfl,?_⟩;simp only[kQ,List.getD_cons_zero,qj,List.headD_cons,List.flatMap_cons,hh,pz,List.take_left];rw[<- hh];exact hc
         | succ j=>
           obtain⟨l',h1,h2⟩:=e3 j nk (by simpa using hj);refine⟨l',by simpa using h1,?_⟩;simp only[kQ,List.getD_cons_succ,qj,List.tail_cons,List.headD_cons,List.flatMap_cons,hh,pz,List.drop_left];exact h2
       unfold oJ at h;split at h;rename_i heq;cases heq;rename_i heq _;cases heq;rename_i e' k' acD r J1 OA OB;simp only[List.cons.injEq,NK.s.injEq]at OA OB;obtain⟨⟨rfl,rfl⟩,rfl⟩:=OA;obtain⟨rfl,rfl⟩:=OB;split at h;rename_i x nA gs hx qA;split at h;rename_i hc;simp only[ao,aO]at hc;obtain⟨⟨⟨bR,pn⟩,he⟩,ot⟩:=hc;simp only[ah,aD]at h;obtain⟨rfl,rfl⟩:=h;obtain⟨bD,rfl⟩:=bn hx;refine step (.s x.lv) nA gs qA (fun r hr=>bI _ hr) rfl (by simp[cN.head,cN.tail]) ?_;have Ca:=(hm.row x bD (by rw[pn];rfl)).reads;rw[ot]at Ca;refine⟨by simp[cN.head,cN.tail],?_,fun _ b hb=>hz x bD (aZ ..) bR pn b hb⟩;simp only[cN.tail,qd];rw[zN];exact Ca.grown hg (fun _ _ _=>by simp);cases h;cases h;rename_i e' k' acD J1 OA OB;simp only[List.cons.injEq,NK.s.injEq]at OA OB;obtain⟨⟨rfl,rfl⟩,rfl⟩:=OA;obtain⟨rfl,rfl⟩:=OB;split at h;rename_i nA gs qA;simp only[ah,aD]at h;obtain⟨rfl,rfl⟩:=h;refine step .nil nA gs qA (fun r hr=>hr) rfl (by simp[cN.head,cN.tail]) ⟨rfl,⟨none,0,rfl,⟨Nat.zero_le _,Nat.zero_le _⟩,fun _=>⟨rfl,rfl⟩,fun j u hj=>?_⟩,fun da=>absurd rfl da⟩;simp[cN.tail,aJ]at hj;cases h;cases h
theorem wP(hm:kz B ae ph st.bl st.rows w)(hg:w.grownBy w' none):∀ {n i:Nat} {ps:List (Nat×V1)} {rows:List (List cN)} {gone:List Nat},mG st aU n i ps=some (rows,gone)->(∀r∈st.rows,r.id∈gone->r.own=true->r.g = .c true->∀k,(ph.val r.id).ownBlock=some k->z k)->
   ∃ls,kZ aU.length n i ps=some ls/\rows.length=n/\Gx z w' aU (ls.map (ak.af ae ph)) (rows.map fun r=>r.map (cN.head ae)++r.flatMap (cN.tail ae)):=by
 intro n;induction n with
 | zero=>
   intro i ps rows gone h _;cases ps with
   | nil=>
     simp only[mG,ah,aD]at h;obtain⟨rfl,rfl⟩:=h;exact⟨[],rfl,rfl,fun i r hi=>by simp at hi⟩
   |cons p ps=>simp[mG]at h
 | succ n ih=>
   intro i ps rows gone h hz;cases ps with
   |nil=>simp[mG]at h
   | cons p ps=>
     obtain⟨j,v⟩:=p;simp only[mG]at h;split at h;rename_i En;subst En;split at h;rename_i r g rs gs hr vn;simp only[ah,aD]at h;obtain⟨rfl,rfl⟩:=h;obtain⟨e1,e2,e3⟩:=Iu (z:=z) hm hg hr (fun r hr LW=>hz r hr (zO _ LW));obtain⟨ls,f1,f2,f3⟩:=ih vn (fun r hr LW=>hz r hr (Es _ LW));refine⟨v.leaves++ls,by simp[kZ,e1,f1],by simp[f2],?_⟩;have h1:Gx z w' aU (v.leaves.map (ak.af ae ph)) [r.map (cN.head ae)++r.flatMap (cN.tail ae)]:=by
       intro i' r' Et j nk hj;cases i' with
       | zero=>
         simp only[kK,ah]at Et;subst Et;obtain⟨l,h1,h2⟩:=e3 j nk hj;have H8:=(dw.1 hj).1;refine⟨l.af ae ph,by simp[h1],?_⟩;have hl:(r.map (cN.head ae)).length=aU.length:=by simp[e2]
         have a1:(r.map (cN.head ae)++r.flatMap (cN.tail ae)).getD j 0=(r.map (cN.head ae)).getD j 0:=by
           simp only[cm];rw[p9 (by omega)]
         have a2:eU aU (r.map (cN.head ae)++r.flatMap (cN.tail ae)) j=qj aU (r.map (cN.head ae)) (r.flatMap (cN.tail ae)) j:=by
           unfold eU;rw[List.take_left' hl,List.drop_left' hl]
         rw[a1,a2];exact h2
       |succ i'=>simp at Et
     have:=h1.append (by simp[e1]) f3;simpa using this;cases h;cases h
theorem LX{a:Act}{parts:Array (Nat×Operand)}{ps:List (Nat×V1)}{rows:List (List cN)}{gone:List Nat}{key:Nat}
   (hs:Sat w0 ae ph st a w) (ho:o.op = .buildSlice t n parts) (hu:P.underlying t=some (.slice e)) (F4:iN st (.c true) parts.toList=some ps) (hz:((P.info? e).bind (·.zero)).isSome=true)
   (lT:n*aU.length<=16777216) (hc:P.cellsOf e=aU.length) (iw:mG st aU n 0 ps=some (rows,gone)) (h:Cp st key e aU [] (.Eu rows) (st.rows.filter fun r=>!gone.contains r.id) st.bp o.dst=some (dJ,bq)) (hk:aW Γ dJ k ae) :
   pg Γ P w0 ae ph st bq o a w k:=by
 unfold Cp at h;split at h;rename_i oG;simp only[ao,aO]at oG;obtain⟨bj,h0⟩:=oG;simp only[ah,aD]at h;obtain⟨rfl,rfl⟩:=h;obtain⟨N,hN⟩:∃N:Nat->Prop,N=fun k=>∃r∈st.rows,r.id∈gone/\r.own=true/\r.g = .c true/\(ph.val r.id).ownBlock=some k:=⟨_,rfl⟩;have hNz:∀k,N k->w0.heap.size<=k/\k<w.heap.size:=fun k hk=>by
   rw[hN]at hk;obtain⟨r,hr,_,J7,LY,hb⟩:=hk;have bB:=(hs.mem.row r hr (by rw[LY];rfl)).2;rw[if_pos J7]at bB;exact bB.lt k hb
 obtain⟨ls,xH,hrl,_⟩:=wP (z:=fun _=>True) (ae:=ae) (ph:=ph) hs.mem (cK w) iw (fun _ _ _ _ _ _ _=>trivial);obtain⟨cY,hll⟩:=Gy (P:=P) (w:=w) (a:=a) hu hs.tmps cC F4 h0 hz lT hc xH;have iM:w.grownBy (w.alloc (.cells (ls.map (ak.af ae ph)).toArray e)) none:=World.grownBy_alloc w _ none;obtain⟨J1,UO,_,jc⟩:=wP (z:=fun k=>(ph.z k\/N k)/\w0.heap.size<=k) (ae:=ae) (ph:=ph) hs.mem iM iw (fun r hr LW J7 LY k hb=>by
   have:N k:=by rw[hN];exact⟨r,hr,LW,J7,LY,hb⟩
   exact⟨.inr this,(hNz k this).1⟩)
 rw[xH,ah]at UO;subst UO;obtain⟨xs,qA⟩:∃xs,xs=rows.map fun r=>r.map (cN.head ae)++r.flatMap (cN.tail ae):=⟨_,rfl⟩;rw[<- qA]at jc;have qw:xs.length=n:=by rw[qA,qd,hrl]
 have dH:k (ae.set key (.l xs)):=by rw[qA];exact hk
 have iO:n<=maxLen:=by
   have:n<=n*aU.length:=Nat.le_mul_of_pos_right n h0;unfold maxLen;omega
 have bR:(w.alloc (.cells (ls.map (ak.af ae ph)).toArray e)).ownsRow w0.heap.size e aU.length (.slice (some ⟨w.heap.size,0,none⟩) n n) xs.length (ls.map (ak.af ae ph)):=by
   refine⟨by rw[qd,hll,qw],.inr ⟨w.heap.size,n,(ls.map (ak.af ae ph)).toArray,by rw[qw],hs.below.size,heap_alloc_new w _,by omega,iO,by simp[hll],?_⟩⟩;simp only[D8];exact qB (by rw[qd,hll,qw];exact ga _)
 have s9:∀q∈st.rows.filter (fun r=>!gone.contains r.id),q∈st.rows/\q.id∉gone:=fun q hq=>by
   have:=jB.1 hq;exact⟨this.1,by simpa using this.2⟩
 have fk:=AH (ae:=ae) (ph:=ph) (dst:=o.dst) (key:=key) (e:=e) (aU:=aU) (xs:=xs) (rows:=st.rows.filter fun r=>!gone.contains r.id) (bp:=st.bp) (sl:=(some ⟨w.heap.size,0,none⟩,n,n)) (row:=none) (N:=N) hs bj h0 (fun q hq=>(s9 q hq).1) (fun _ h=>h) iM (fun k hk=>by cases hk)
   (fun b _=>by simp) (fun r _ _ k _=>by simp) (fun k hk=>by
     have cM:=(hNz k hk).2;rw[hN]at hk;obtain⟨r,hr,LW,J7,LY,hb⟩:=hk;have mw:r.g.af ae=true:=by rw[LY];rfl
     obtain⟨⟨_,_,a1⟩,a2,a3⟩:=ou (B:=0) hs hr J7 mw hb;exact⟨cM,fun b nC e=>a2 b nC (by rw[e]),fun q hq Io hf=>a3 q (s9 q hq).1 (fun e=>(s9 q hq).2 (by rw[e];exact LW)) Io k hf rfl,a1,by simp⟩) ⟨_,bR,jc⟩ (.inr (.inl rfl))
 have hW:sC st ph o.op=none:=by simp[ho,sC]
 refine⟨.value (.slice (some ⟨w.heap.size,0,none⟩) n n),_,_,_,_,?_,rfl,by rw[hW];exact fk,dH⟩;simp only[execOp,ho,ff,cY,fc,gk];cases h
theorem wQ{a:Act}{y:Operand}{key room:Nat}{v:Value}{xs:List (List Int)}{rb:eO}{ne:BE}{op:ew}
   (hs:Sat w0 ae ph st a w) (ho:o.op = .call {callee:=.builtin .append,args:=#[x,y],argTypes:=#[t,t] }) (hu:P.underlying t=some (.slice e)) (hr:ma P e=some room)
   (hx:a.eval x=v) (hy:bJ st (.c true) y=some (.s rb.id)) (Cm:rb∈st.bp) (Ou:rb.own=true) (pF:P.cellsOf e=rb.aU.length)
   (hv:w.ownsRow w0.heap.size e rb.aU.length v xs.length cs) (jc:Gx (fun k=>ph.z k/\w0.heap.size<=k) w rb.aU cs xs) (hW:sC st ph o.op=v.ownBlock) (y7:∀n∈bp,n∈st.bp)
   (Y2:∀k,v.ownBlock=some k->¬ ph.z k/\(∀n∈bp,n.own=true->(ph.val n.id).ownBlock≠some k)/\(∀b∈st.bl,ph.r b.id≠k)/\∀r∈st.rows,r.g.af ae=true->r.cc ae ph≠some k)
   (nN:op.af ae=xs++(ae rb.lv).list) (da:ne.af ae=true->xs.length+(ae rb.lv).list.length<=room)
   (h:Cp st key e rb.aU [.aH ne] op st.rows bp o.dst=some (dJ,bq)) (hk:aW Γ dJ k ae) :
   pg Γ P w0 ae ph st bq o a w k:=by
 unfold Cp at h;split at h;rename_i oG;simp only[ao,aO]at oG;obtain⟨bj,h0⟩:=oG;simp only[ah,aD]at h;obtain⟨rfl,rfl⟩:=h;obtain⟨hn,hk⟩:=jK (es:=[.b8 key op]) hk;have dH:k (ae.set key (.l (xs++(ae rb.lv).list))):=by rw[<- nN];exact hk
 obtain⟨Ep,_,csb,Xx,UP⟩:=hs.nest.own Cm Ou;have ey:=aG hy cC hs.tmps;simp only[ak.af]at ey;have UP:Gx (fun k=>ph.z k/\w0.heap.size<=k) w rb.aU csb (ae rb.lv).list:=UP;have hlb:=Xx.1;obtain⟨sl,w',e1,e2,e3,e5⟩:=tg (ty:=o.type) hu hr pF hv (qa Xx) hlb (UP.UN hlb) (da hn) hs.below.size;rw[<- fE]at e2;have hzw:∀k,(ph.z k/\w0.heap.size<=k)->w'.heap[k]?=w.heap[k]? :=fun k hk=>e3.block k (hs.nest.lt k hk.1) (fun e=>(Y2 k e.symm).1 hk.1);have OC:=((jc.append hv.1 UP).nG (z':=fun k=>(ph.z k\/False)/\w0.heap.size<=k) hzw (fun k hk=>⟨.inl hk.1,hk.2⟩));have fk:=AH (ae:=ae) (ph:=ph) (dst:=o.dst) (key:=key) (e:=e) (aU:=rb.aU) (rows:=st.rows) (bp:=bp) (sl:=sl) (row:=v.ownBlock) (N:=fun _=>False) hs bj h0 (fun _ h=>h) y7 e3 (fun k hk=>⟨(hv.lt k hk).1,(Y2 k hk).1,(Y2 k hk).2.1⟩)
   (fun b hb e=>(Y2 _ e).2.2.1 b hb rfl) (fun r hr hr1 k hk e=>(Y2 _ e).2.2.2 r hr hr1 hk) (fun k hk=>hk.elim) ⟨_,e2,OC⟩ (by
     rcases e5 with e5|e5;exact .inl e5;exact .inr (.inl e5))
 refine⟨.value (.slice sl.1 sl.2.1 sl.2.2),w',_,_,_,?_,rfl,by rw[hW];exact fk,dH⟩;simp only[execOp,ho,resolve,invoke,builtin,ff,gk,fc,List.map_toArray,kQ,pj,hx,ey,e1];cases h
theorem LZ{sz:Nat}{base:Option Addr}{cap m:Nat}(h:w.ownsRow B e sz (.slice base n cap) n cs)(hm:m<=n) :
   w.ownsRow B e sz (.slice base m cap) m (cs.take (m*sz)):=by
 have hle:m*sz<=n*sz:=x9 _ hm;refine⟨by rw[uV,h.1];omega,?_⟩;rcases h.2 with⟨e1,e2⟩|⟨g,qy,cur,e1,hg,hh,vC,Gp,jc,td⟩;simp only[Value.slice.injEq]at e1;obtain⟨rfl,h0,rfl⟩:=e1;have:m=0:=by omega
 subst this;exact .inl ⟨rfl,rfl⟩;simp only[Value.slice.injEq,true_and]at e1;obtain⟨rfl,rfl⟩:=e1;refine .inr ⟨g,cap,cur,rfl,hg,hh,by omega,Gp,jc,?_⟩;rw[<- td,List.take_take];congr 1;omega
theorem Iw{a:Act}{h':Operand}{key:Nat}{ra:eO}{kd:IntKind}{n:IE}
   (hs:Sat w0 ae ph st a w) (ho:o.op = .slice t x none (some h') none) (hu:P.underlying t=some (.slice e)) (hx:bJ st (.c true) x=some (.s ra.id)) (hh:bJ st (.c true) h'=some (.i kd n))
   (bD:ra∈st.bp) (bR:ra.own=true) (he:ra.e=e) (pF:P.cellsOf e=ra.aU.length)
   (h:Cp st key e ra.aU [.aH (BE.le (.c 0) n).mk,.aH (BE.le n (.len ra.lv)).mk] (.take ra.lv n) st.rows (st.bp.filter fun r=>decide (r.id≠ra.id)) o.dst=some (dJ,bq)) (hk:aW Γ dJ k ae) :
   pg Γ P w0 ae ph st bq o a w k:=by
 unfold Cp at h;split at h;rename_i oG;simp only[ao,aO]at oG;obtain⟨bj,LV⟩:=oG;simp only[ah,aD]at h;obtain⟨rfl,rfl⟩:=h;obtain⟨h0,hk⟩:=jK (es:=[.aH (BE.le n (.len ra.lv)).mk,.b8 key (.take ra.lv n)]) hk;obtain⟨h1,hk⟩:=jK (es:=[.b8 key (.take ra.lv n)]) hk;have h0:=ck h0;have h1:=ck h1;simp only[IE.af]at h0 h1;have dH:k (ae.set key (.l ((ae ra.lv).list.take (n.af ae).toNat))):=hk;obtain⟨pn,_,cs,dz,jc⟩:=hs.nest.own bD bR;have jc:Gx (fun k=>ph.z k/\w0.heap.size<=k) w ra.aU cs (ae ra.lv).list:=jc;rw[he]at dz;have ex:=aG hx cC hs.tmps;have eh:=aG hh cC hs.tmps;simp only[ak.af]at ex eh;obtain⟨base,cap,hv,vC⟩:∃base cap,ph.val ra.id = .slice base (ae ra.lv).list.length cap/\(ae ra.lv).list.length<=cap:=by
   rcases dz.2 with⟨e1,e2⟩|⟨g,qy,cur,e1,_,_,vC,_⟩;exact⟨none,0,by rw[e1,e2],by omega⟩;exact⟨_,qy,e1,vC⟩
 rw[hv]at dz;have hm:(n.af ae).toNat<=(ae ra.lv).list.length:=by omega
 have htk:=LZ dz hm;have hl:((ae ra.lv).list.take (n.af ae).toNat).length=(n.af ae).toNat:=by rw[uV];omega
 have Ou:∀m m':Nat,(Value.slice base m cap).ownBlock=(Value.slice base m' cap).ownBlock:=fun _ _=>by cases base<;>rfl
 obtain⟨_,OD⟩:=hs.nest.oz ra bD bR;have s9:∀q∈st.bp.filter (fun r=>decide (r.id≠ra.id)),q∈st.bp/\q.id≠ra.id:=fun q hq=>by
   have:=jB.1 hq;exact⟨this.1,by simpa using this.2⟩
 have OC:=(jc.take (n.af ae).toNat).nG (z':=fun k=>(ph.z k\/False)/\w0.heap.size<=k) (fun _ _=>rfl) (fun k hk=>⟨.inl hk.1,hk.2⟩);have fk:=AH (ae:=ae) (ph:=ph) (dst:=o.dst) (key:=key) (e:=e) (aU:=ra.aU) (rows:=st.rows) (bp:=st.bp.filter fun r=>decide (r.id≠ra.id)) (sl:=(base,(n.af ae).toNat,cap)) (row:=(Value.slice base (ae ra.lv).list.length cap).ownBlock) (N:=fun _=>False) hs bj LV (fun _ h=>h) (fun q hq=>(s9 q hq).1) (jx (cK w))
   (fun k hk=>⟨(dz.lt k hk).1,(OD k (by rw[hv,hk])).1,fun q hq re=>(OD k (by rw[hv,hk])).2.2.2 q (s9 q hq).1 re (s9 q hq).2⟩)
   (fun b hb e=>(OD _ (by rw[hv,e])).2.1 b hb rfl) (fun r hr hr1 k hk e=>(OD _ (by rw[hv,e])).2.2.1 r hr hr1 hk) (fun k hk=>hk.elim) ⟨_,by rw[hl];exact htk,OC⟩ (.inl (Ou _ _))
 refine⟨.value (.slice base (n.af ae).toNat cap),w,_,_,_,?_,rfl,⟨fk.sat,fk.agree,?_,fk.mono,fk.fresh⟩,dH⟩;simp only[execOp,ho,Option.map_none,s5,ex,eh,hv,ff,run_sliceAt_slice (P:=P) (w:=w) t _ _ _ _ (by simp[Program.elem,hu]),th hu (by rw[pF];exact LV) h0 h1 vC,fc,gk];rw[ho];exact cK w;cases h
end
section
open Go.RowKit
variable {ae:aF}{ph:Ph}{P:Program}
theorem AK{α:Type}{a:Array α}{x:α}(h:a.toList=[x]):a = #[x]:=kS (by simpa using h)
theorem Mc{Γ:bZ}{w0 w:World}{st bq:St}{a:Act}{o:Oper}{key:Nat}{dJ:List Ev}{k:aF->Prop}(hs:Sat w0 ae ph st a w)(h:OG P st key o.dst o.op=some (dJ,bq))(hk:aW Γ dJ k ae) :
   pg Γ P w0 ae ph st bq o a w k:=by
 obtain⟨op,ho⟩:∃op,op=o.op:=⟨_,rfl⟩;rw[<- ho]at h;unfold OG at h;split at h;rename_i e;split at h;rename_i z hz;refine AF hs (by rw[<- ho];rfl) ?_ h hk;simp only[execOp,<- ho,Instr.alloc,ff,xW (ph:=ph) (ae:=ae) hz,newVar,Go.newRow,run_newObj_alloc,gk,fc,V1.fZ];cases h;rename_i e x;split at h;rename_i v hv;refine AF hs (by rw[<- ho];rfl) ?_ h hk;have ex:=cZ hv cC hs.tmps;simp only[execOp,<- ho,ex,Instr.box,ff,newVar,Go.newRow,run_newObj_alloc,gk,fc,V1.fZ];cases h;rename_i t x y;split at h;rename_i l v hl hv;split at h;rename_i hc;exact Iq hs ho.symm hl hv hc.1 hc.2 h hk;cases h;cases h;rename_i t n c;split at h;rename_i e kd x kd' y hu hn hc;split at h;rename_i room ks z hr Ua hz;split at h;rename_i oG;simp only[ao,aO]at oG;obtain⟨⟨h0,pF⟩,Ug⟩:=oG;split at h;rename_i hxy;subst hxy;exact LU hs ho.symm hu hn hc hr hz h0 pF Ug h hk;exact AG hs ho.symm hu hn hc hr hz h0 pF Ug h hk;cases h;cases h;cases h;rename_i t x h';split at h;rename_i e a1 kd n hu hx hh;split at h;rename_i ra AJ;obtain⟨bD,rfl⟩:=bn AJ;split at h;rename_i hc;simp only[ao,aO]at hc;obtain⟨⟨⟨bR,hg⟩,he⟩,pF⟩:=hc;exact LS hs ho.symm hu hx hh bD bR hg he pF h hk;cases h;split at h;rename_i ra AJ;obtain⟨bD,rfl⟩:=dF AJ;split at h;rename_i hc;simp only[ao,aO]at hc;obtain⟨⟨bR,he⟩,pF⟩:=hc;exact Iw hs ho.symm hu hx hh bD bR he pF h hk;cases h;cases h;cases h;rename_i args argTypes;split at h;rename_i x y t t' fF AL;have fF:=rF fF;have AL:=rF AL;split at h;rename_i htt;subst htt;subst fF AL;split at h;rename_i e hu;split at h;rename_i room b hr hx hy;split at h;rename_i rb Cm;obtain⟨bD,rfl⟩:=bn Cm;split at h;rename_i hc;simp only[ao,aO]at hc;obtain⟨⟨hg,he⟩,pF⟩:=hc;have ex:=aG hx cC hs.tmps;refine yZ (v:=.slice none 0 0) (xs:=[]) hs ho.symm hu hr ex hy bD hg pF (World.ownsRow_nil _ _ _ _) ?_ (fun _ h=>h) (fun k hk=>by simp[Value.ownBlock]at hk) (fun _ _=>by simp[Value.ownBlock]) (fun _ _ _ _ _=>by simp[Value.ownBlock]) ?_ ?_ h hk;rw[<- ho];simp[sC,hx,Value.ownBlock];simp[ew.af];intro hn;have:=ck hn;simp only[IE.af]at this;simp;omega;cases h;split at h;rename_i rb Cm;obtain⟨bD,rfl⟩:=dF Cm;split at h;rename_i hc;simp only[ao,aO]at hc;obtain⟨⟨Ou,he⟩,pF⟩:=hc;have ex:=aG hx cC hs.tmps;refine wQ (v:=.slice none 0 0) (xs:=[]) (cs:=[]) hs ho.symm hu hr ex hy bD Ou pF (World.ownsRow_nil _ _ _ _) (fun i r hi=>by simp at hi) ?_ (fun _ h=>h) (fun k hk=>by simp[Value.ownBlock]at hk) ?_ ?_ h hk;rw[<- ho];simp[sC,hx,Value.ownBlock];simp[ew.af];intro hn;have:=ck hn;simp only[IE.af]at this;simp;omega;cases h;cases h;rename_i room a1 b hr hx hy;split at h;rename_i ra rb AJ Cm;obtain⟨tj,rfl⟩:=bn AJ;obtain⟨bD,rfl⟩:=bn Cm;split at h;rename_i hc;simp only[ao,aO]at hc;obtain⟨⟨⟨⟨⟨L7,Ep⟩,hea⟩,heb⟩,ot⟩,pF⟩:=hc;exact AI hs ho.symm hu hr hx hy tj bD L7 Ep ot pF h hk;cases h;cases h;rename_i room a1 b hr hx hy;split at h;rename_i ra rb AJ Cm;obtain⟨tj,rfl⟩:=bn AJ;obtain⟨bD,rfl⟩:=bn Cm;split at h;rename_i hc;simp only[ao,aO]at hc;obtain⟨⟨⟨⟨⟨⟨⟨bR,L7⟩,Ep⟩,hea⟩,heb⟩,ot⟩,OH⟩,pF⟩:=hc;have ex:=aG hx cC hs.tmps;simp only[ak.af]at ex;have Ir:ra.g.af ae=true:=by rw[L7];rfl
 have bB:=hs.mem.row ra tj Ir;have dz:=bB.2;rw[if_pos bR,hea]at dz;have ft:ra.cc ae ph=(ph.val ra.id).ownBlock:=by simp[Row.cc,bR]
 rw[ot]at h dz pF;refine yZ (v:=ph.val ra.id) (xs:=(ae ra.lv).list) hs ho.symm hu hr ex hy bD Ep pF dz ?_ (fun r hr=>(jB.1 hr).1) (fun k hk=>(ou (B:=0) hs tj bR Ir hk).1.2) (fun b hb e=>hs.mem.br b hb ra tj Ir (by rw[ft,e])) (fun r hr h1 k hk e=>?_) ?_ ?_ h hk;rw[<- ho];simp[sC,hx];have hm:=jB.1 hr;exact hs.mem.rr ra tj r hm.1 (fun e=>by simp[e]at hm) bR Ir h1 k (by rw[ft,e]) hk;rfl;intro hn;have:=ck hn;rw[IE.cL]at this;simp only[IE.af]at this;omega;cases h;split at h;rename_i ra rb AJ Cm;obtain⟨tj,rfl⟩:=dF AJ;obtain⟨bD,rfl⟩:=dF Cm;split at h;rename_i hc;simp only[ao,aO]at hc;obtain⟨⟨⟨⟨⟨⟨hoa,Ou⟩,hea⟩,heb⟩,ot⟩,OH⟩,pF⟩:=hc;have ex:=aG hx cC hs.tmps;simp only[ak.af]at ex;obtain⟨_,_,cs,dz,jc⟩:=hs.nest.own tj hoa;obtain⟨_,OD⟩:=hs.nest.oz ra tj hoa;rw[hea,ot]at dz;rw[ot]at jc h pF;refine wQ (v:=ph.val ra.id) (xs:=(ae ra.lv).list) (cs:=cs) hs ho.symm hu hr ex hy bD Ou pF dz jc ?_ (fun r hr=>(jB.1 hr).1) (fun k hk=>⟨(OD k hk).1,fun n hn qH=>(OD k hk).2.2.2 n (jB.1 hn).1 qH (by simpa using(jB.1 hn).2),(OD k hk).2.1,(OD k hk).2.2.1⟩) ?_ ?_ h hk;rw[<- ho];simp[sC,hx];rfl;intro hn;have:=ck hn;rw[IE.cL]at this;simp only[IE.af]at this;omega;cases h;cases h;cases h;cases h;cases h;cases h;cases h;rename_i args argTypes;split at h;rename_i x y t t' fF AL;have fF:=rF fF;have AL:=rF AL;split at h;rename_i htt;subst htt;subst fF AL;split at h;rename_i e a1 b1 hu hx hy;split at h;rename_i ra rb AJ Cm;obtain⟨tj,rfl⟩:=bn AJ;obtain⟨bD,rfl⟩:=bn Cm;split at h;rename_i hc;simp only[ao,aO]at hc;obtain⟨⟨⟨⟨⟨⟨⟨bR,L7⟩,Ep⟩,ot⟩,OH⟩,pF⟩,hi⟩,bj⟩:=hc;simp only[ah,aD]at h;obtain⟨rfl,rfl⟩:=h;exact Ma hs ho.symm hu hx hy tj bD bR L7 Ep ot pF hi bj hk;cases h;cases h;cases h;cases h;cases h;rename_i args argTypes;split at h;rename_i x t fF AL;have fF:=AK fF;have AL:=AK AL;subst fF AL;split at h;rename_i e a1 hu hx;split at h;rename_i ra z AJ hz;obtain⟨bD,rfl⟩:=bn AJ;split at h;rename_i hc;simp only[ao,aO]at hc;obtain⟨⟨⟨⟨⟨bR,L7⟩,pF⟩,hi⟩,Ug⟩,bj⟩:=hc;simp only[ah,aD]at h;obtain⟨rfl,rfl⟩:=h;exact Ix hs ho.symm hu hx bD bR L7 pF hz Ug bj hk;cases h;cases h;cases h;cases h;rename_i src L4 x;split at h;rename_i e bs Y5 hd hx;split at h;rename_i he;split at h;rename_i hc;simp only[ao,aO]at hc;obtain⟨⟨⟨hi,pF⟩,hlen⟩,bj⟩:=hc;simp only[ah,aD]at h;obtain⟨rfl,rfl⟩:=h;exact L3 hs ho.symm Y5 hd he hx hlen bj hk;cases h;cases h;cases h;cases h
end
section
open Go.RowKit
variable {ae aq:aF}{ph aQ:Ph}{P:Program}
theorem aF.aT:∀ {ds:List DV} {ae:aF} {k j:Nat},j<k->ae.au k ds j=ae j:=by
 intro ds;induction ds with
 |nil=>intro ae k j _;rfl
 | cons d ds ih=>
   intro ae k j h;rw[aF.au,ih (by omega),aF.set,if_neg (by omega)]
theorem aF.eL:∀ {ds:List DV} {ae:aF} {k i:Nat} {d:DV},ds[i]?=some d->ae.au k ds (k+i)=d:=by
 intro ds;induction ds with
 |nil=>intro ae k i d h;simp at h
 | cons x ds ih=>
   intro ae k i d h;cases i with
   | zero=>
     simp only[kK,ah]at h;subst h;rw[aF.au,iy,aF.aT (by omega)];simp[aF.set]
   | succ i=>
     rw[Am]at h;have:=ih (ae:=ae.set k x) (k:=k+1) h;rw[aF.au,show k+(i+1)=k+1+i by omega];exact this
theorem aF.iZ:∀ {ds:List DV} {ae:aF} {k j:Nat},k+ds.length<=j->ae.au k ds j=ae j:=by
 intro ds;induction ds with
 |nil=>intro ae k j _;rfl
 | cons d ds ih=>
   intro ae k j h;simp only[pf]at h;rw[aF.au,ih (by omega),aF.set,if_neg (by omega)]
abbrev ik:=TypeId->List CK ⊕ List NK->Value->List (List Int)->Prop
variable{R:ik}
def lq(R:ik):CT->Value->DV->Prop
 |.c (.i k),v,.i n=>v = .int k n
 |.c .b,v,.b b=>v = .bool b
 |.c .f,v,.i n=>v = .float .f64 n.toNat
 |.s e ks,v,.l xs=>R e (.inl ks) v xs
 |.n e aU,v,.l xs=>R e (.inr aU) v xs
 |_,_,_=>False
def fitAll(R:ik):List CT->List Value->List DV->Prop
 | [],[],[]=>True
 |c::cs,v::vs,d::ds=>lq R c v d/\fitAll R cs vs ds
 |_,_,_=>False
def sm:Value->Value
 |.slice base _ _=>.pointer base
 |_=>undef
def cw:List VT->List Value->List Value
 | [],_=>[]
 |.one _::ts,cs=>cs.headD undef::cw ts cs.tail
 |.agg ks::ts,cs=>.agg (cs.take ks.length).toArray::cw ts (cs.drop ks.length)
 |.ptr _ _::ts,cs=>sm (cs.headD undef)::cw ts cs.tail
 |.fn g ks::ts,cs=>.func (.func g) #[] ((cs.take ks.length).map sm).toArray::cw ts (cs.drop ks.length)
def mZ(w:World):ik:=fun _ ks v xs=>match ks with
 |.inl ks=>0<ks.length/\Reads w v xs.length (aJ ks xs)
 |.inr aU=>0<aU.length/\sQ (fun k=>k<w.heap.size) w aU v xs
def mK(w:World)(B:Nat):ik:=fun e ks v xs=>match ks with
 |.inl ks=>0<ks.length/\w.ownsRow B e ks.length v xs.length (aJ ks xs)
 |.inr aU=>0<aU.length/\∃zi:Nat->Prop,(∀k,zi k->B<=k/\k<w.heap.size)/\(∀k,v.ownBlock=some k->¬ zi k)/\D6 zi w B e aU v xs
def iR(b9:List Value):Prop:=∀(i j:Nat) (u v:Value),i≠j->b9[i]?=some u->b9[j]?=some v->∀k,u.ownBlock=some k->v.ownBlock≠some k
def packed:List Value->Value
 | [v]=>v
 |vs=>.tuple vs.toArray
def EF(w:World)(args:List VT)(vs:List Value)(ds:List DV):Prop:=∃b9,vs=cw args b9/\fitAll (mZ w) (bP args) b9 ds
theorem Ct:∀ {cs qG:List CT} {vs N1:List Value} {ds xJ:List DV},fitAll R cs vs ds->fitAll R qG N1 xJ->fitAll R (cs++qG) (vs++N1) (ds++xJ):=by
 intro cs;induction cs with
 |nil=>intro qG vs N1 ds xJ h h';cases vs<;>cases ds<;>simp_all[fitAll]
 | cons c cs ih=>
   intro qG vs N1 ds xJ h h';cases vs with
   |nil=>simp[fitAll]at h
   | cons v vs=>cases ds with
     |nil=>simp[fitAll]at h
     |cons d ds=>exact⟨h.1,ih h.2 h'⟩
theorem oQ:∀ {cs:List CT} {vs:List Value} {ds:List DV},fitAll R cs vs ds->vs.length=cs.length/\ds.length=cs.length:=by
 intro cs;induction cs with
 |nil=>intro vs ds h;cases vs<;>cases ds<;>simp_all[fitAll]
 | cons c cs ih=>
   intro vs ds h;cases vs with
   |nil=>simp[fitAll]at h
   | cons v vs=>cases ds with
     |nil=>simp[fitAll]at h
     |cons d ds=>simp[ih h.2]
theorem kg:∀ {cs:List CT} {vs:List Value} {ds:List DV} {i:Nat} {c:CT},fitAll R cs vs ds->cs[i]?=some c->∃v d,vs[i]?=some v/\ds[i]?=some d/\lq R c v d:=by
 intro cs;induction cs with
 |nil=>intro vs ds i c _ h;simp at h
 | cons c cs ih=>
   intro vs ds i c' h hi;cases vs with
   |nil=>simp[fitAll]at h
   | cons v vs=>cases ds with
     |nil=>simp[fitAll]at h
     | cons d ds=>
       cases i with
       |zero=>simp at hi;subst hi;exact⟨v,d,rfl,rfl,h.1⟩
       |succ i=>simpa using ih h.2 (by simpa using hi)
theorem jC:∀ {cs:List CT} {vs:List Value} {ds:List DV},fitAll R cs vs ds->kinds cs ds=true:=by
 intro cs;induction cs with
 |nil=>intro vs ds h;cases vs<;>cases ds<;>simp_all[fitAll,kinds]
 | cons c cs ih=>
   intro vs ds h;cases vs with
   |nil=>simp[fitAll]at h
   | cons v vs=>cases ds with
     |nil=>simp[fitAll]at h
     | cons d ds=>
       simp only[kinds,ih h.2,Bool.and_true];have:=h.1;cases c with
       |c k=>cases k<;>cases d<;>simp_all[lq,DV.kind]
       |s e ks=>cases d<;>simp_all[lq,DV.kind]
       |n e aU=>cases d<;>simp_all[lq,DV.kind]
theorem oR(G:BE):∀(cs qG:List CT) (id:Nat),aP G id (cs++qG)=((aP G id cs).1++(aP G (id+cs.length) qG).1,(aP G id cs).2++(aP G (id+cs.length) qG).2):=by
 intro cs;induction cs with
 |nil=>intro qG id;simp[aP]
 | cons c cs ih=>
   intro qG id;simp only[sR,aP,ih,pf,OJ];rw[show id+1+cs.length=id+(cs.length+1)by omega]
theorem zT(G:BE):∀(cs:List CT) (id:Nat),(aP G id cs).1.length=cs.length:=by
 intro cs;induction cs with
 |nil=>intro id;rfl
 |cons c cs ih=>intro id;simp[aP,ih]
theorem AX(G:BE):∀(cs:List (TypeId×IntKind)) (id:Nat),(iQ G id cs).2=(aP G id (cs.map fun c=>CT.s c.1 [.i c.2])).2:=by
 intro cs;induction cs with
 |nil=>intro id;rfl
 |cons c cs ih=>intro id;simp[iQ,aP,dg,ih]
theorem Cu(G:BE):∀(cs:List (TypeId×IntKind)) (id:Nat),(iQ G id cs).1.map (mT ph)=((aP G id (cs.map fun c=>CT.s c.1 [.i c.2])).1.map (ak.af ae ph)).map sm:=by
 intro cs;induction cs with
 |nil=>intro id;rfl
 |cons c cs ih=>intro id;simp[iQ,aP,dg,ih (id+1),mT,ak.af,Ph.val,sm]
theorem Cv{q:Nat->Bool}(G:BE):∀(cs:List (TypeId×IntKind)) (id:Nat),(∀i,i<cs.length->q (id+i)=true)->((iQ G id cs).1.all fun c=>q c.2)=true:=by
 intro cs;induction cs with
 |nil=>intro id _;rfl
 | cons c cs ih=>
   intro id h;have h0:q id=true:=by have:=h 0 (by simp);simpa using this
   simp only[iQ,List.all_cons,h0,Bool.true_and];exact ih (id+1) fun i hi=>by rw[show id+1+i=id+(i+1)by omega];exact h (i+1) (by simpa using hi)
theorem fy(G:BE):∀(ts:List VT) (id:Nat),(cq G id ts).2=(aP G id (bP ts)).2:=by
 intro ts;induction ts with
 |nil=>intro id;rfl
 | cons t ts ih=>
   intro id;have e:bP (t::ts)=t.bP++bP ts:=by simp[bP]
   rw[e,oR];simp only[cq,ih];congr 1;cases t with
   |one c=>simp[j6,VT.bP,aP]
   |agg cs=>simp[j6,VT.bP]
   |ptr e k=>simp[j6,VT.bP,aP,dg]
   |fn g cs=>exact AX G cs id
theorem rM(G:BE):∀(ts:List VT) (id:Nat) (b9:List Value),(aP G id (bP ts)).1.map (ak.af ae ph)=b9->(cq G id ts).1.map (V1.af ae ph)=cw ts b9:=by
 intro ts;induction ts with
 |nil=>intro id b9 _;rfl
 | cons t ts ih=>
   intro id b9 h;have e:bP (t::ts)=t.bP++bP ts:=by simp[bP]
   rw[e,oR,qI]at h;subst h;have hl:(aP G id t.bP).1.length=t.bP.length:=zT G _ _;simp only[cq,kQ];rw[ih (id+t.bP.length) _ rfl];cases t with
   |one c=>simp[j6,VT.bP,aP,cw,V1.af]
   | ptr e k=>
     simp only[j6,VT.bP,aP,dg,cw,V1.af,kQ,pj,sR,nM,List.headD_cons,List.tail_cons,ak.af,Ph.val,sm,IE.af];congr 1;cases(ph.v id).1 with
     |none=>rfl
     |some a=>simp[Addr.add_zero']
   | fn g cs=>
     simp only[VT.bP,qd]at hl;simp only[j6,VT.bP,cw,V1.af,ak.af,Cu (ae:=ae) G cs id];rw[Eo (by simp[hl]),qB (by simp[hl]),Ip (by simp[hl]),wN (by simp[hl])];simp
   | agg cs=>
     simp only[VT.bP]at hl;simp only[j6,VT.bP,cw,V1.af];rw[Eo (by simp[hl]),qB (by simp[hl]),Ip (by simp[hl]),wN (by simp[hl])];simp
theorem vW(own:Bool)(G:BE):∀(cs:List CT) (id:Nat) (b9:List Value) (iq:List DV),fitAll R cs b9 iq->(∀(i:Nat) (d:DV),iq[i]?=some d->ae (id+i)=d)->
   (∀(i:Nat) (v:Value),b9[i]?=some v->∀e ks,(cs[i]?=some (.s e ks)\/∃aU,cs[i]?=some (.n e aU))->ph.val (id+i)=v)->
   (aP G id cs).1.map (ak.af ae ph)=b9/\(∀r∈(aP G id cs).2,∃i:Nat,i<cs.length/\r=⟨id+i,r.e,r.ks,id+i,true,G⟩/\b9[i]?=some (ph.val r.id)/\R r.e (.inl r.ks) (ph.val r.id) (ae r.lv).list)/\
     (∀n∈eR own G id cs,∃i:Nat,i<cs.length/\n=⟨id+i,n.e,n.aU,id+i,G,own⟩/\b9[i]?=some (ph.val n.id)/\R n.e (.inr n.aU) (ph.val n.id) (ae n.lv).list/\cs[i]?=some (.n n.e n.aU)):=by
 intro cs;induction cs with
 |nil=>intro id b9 iq h _ _;cases b9<;>cases iq<;>simp_all[fitAll,aP,eR]
 | cons c cs ih=>
   intro id b9 iq h he hp;cases b9 with
   |nil=>simp[fitAll]at h
   | cons v vs=>cases iq with
     |nil=>simp[fitAll]at h
     | cons d ds=>
       obtain⟨e1,e2,e4⟩:=ih (id+1) vs ds h.2 (fun i d hd=>by rw[show id+1+i=id+(i+1)by omega];exact he (i+1) d (by simpa using hd))
         (fun i v hv e ks hc=>by rw[show id+1+i=id+(i+1)by omega];exact hp (i+1) v (by simpa using hv) e ks (by simpa using hc))
       have Cc:ae id=d:=by have:=he 0 d rfl;simpa using this
       have hf:=h.1;have Ap:∀r∈(aP G (id+1) cs).2,∃i:Nat,i<(c::cs).length/\r=⟨id+i,r.e,r.ks,id+i,true,G⟩/\(v::vs)[i]?=some (ph.val r.id)/\R r.e (.inl r.ks) (ph.val r.id) (ae r.lv).list:=fun r hr=>by
         obtain⟨i,h1,h2,h3,h4⟩:=e2 r hr;refine⟨i+1,by simpa using h1,?_,by simpa using h3,h4⟩;rw[show id+(i+1)=id+1+i by omega];exact h2
       have ID:∀n∈eR own G (id+1) cs,∃i:Nat,i<(c::cs).length/\n=⟨id+i,n.e,n.aU,id+i,G,own⟩/\(v::vs)[i]?=some (ph.val n.id)/\R n.e (.inr n.aU) (ph.val n.id) (ae n.lv).list/\(c::cs)[i]?=some (.n n.e n.aU):=fun n hn=>by
         obtain⟨i,h1,h2,h3,h4,h5⟩:=e4 n hn;refine⟨i+1,by simpa using h1,?_,by simpa using h3,h4,by simpa using h5⟩;rw[show id+(i+1)=id+1+i by omega];exact h2
       cases c with
       | n e aU=>
         have hv:ph.val id=v:=by have:=hp 0 v rfl e [] (.inr ⟨aU,rfl⟩);simpa using this
         refine⟨?_,fun r hr=>Ap r (by simpa[aP,dg]using hr),fun n hn=>?_⟩;simp only[aP,kQ,e1,dg,ak.af,hv]
         . simp only[eR,bC]at hn;rcases hn with rfl|hn
           . refine⟨0,by simp,by simp,by simp[hv],?_,by simp⟩;simp only[hv,Cc];cases d<;>simp_all[lq,DV.list]
           exact ID n hn
       | c k=>
         refine⟨?_,?_,fun n hn=>ID n (by simpa[eR]using hn)⟩
         . simp only[aP,kQ,e1];congr 1;cases k<;>cases d<;>simp_all[lq,dg,ak.af,IE.af,BE.af,DV.int,DV.bool]
         intro r hr;have:r∈(aP G (id+1) cs).2:=by cases k<;>simpa[aP,dg]using hr
         exact Ap r this
       | s e ks=>
         have hv:ph.val id=v:=by have:=hp 0 v rfl e ks (.inl rfl);simpa using this
         refine⟨?_,?_,fun n hn=>ID n (by simpa[eR]using hn)⟩;simp only[aP,kQ,e1,dg,ak.af,hv]
         . intro r hr;simp only[aP,dg,sR,nM,bC]at hr;rcases hr with rfl|hr
           . refine⟨0,by simp,by simp,by simp[hv],?_⟩;simp only[hv,Cc];cases d<;>simp_all[lq,DV.list]
           exact Ap r hr
theorem iI{q:Nat->Bool}(G:BE)(hG:G.all q=true):∀(cs:List CT) (id:Nat),(∀i,i<cs.length->q (id+i)=true)->bG q (aP G id cs).1=true/\∀r∈(aP G id cs).2,r.all q=true:=by
 intro cs;induction cs with
 |nil=>intro id _;simp[aP,bG]
 | cons c cs ih=>
   intro id h;obtain⟨e1,e2⟩:=ih (id+1) (fun i hi=>by rw[show id+1+i=id+(i+1)by omega];exact h (i+1) (by simpa using hi));have h0:q id=true:=by have:=h 0 (by simp);simpa using this
   cases c with
   |c k=>cases k<;>simp_all[aP,dg,bG,ak.all,IE.all,BE.all]
   |n e aU=>simp_all[aP,dg,bG,ak.all]
   | s e ks=>
     refine⟨by simp_all[aP,dg,bG,ak.all],?_⟩;intro r hr;simp only[aP,dg,sR,nM,bC]at hr;rcases hr with rfl|hr;simp[Row.all,h0,hG];exact e2 r hr
theorem vX{q:Nat->Bool}(own:Bool)(G:BE)(hG:G.all q=true):∀(cs:List CT) (id:Nat),(∀i,i<cs.length->q (id+i)=true)->∀n∈eR own G id cs,n.all q=true:=by
 intro cs;induction cs with
 |nil=>intro id _ n hn;simp[eR]at hn
 | cons c cs ih=>
   intro id h n hn;have hr:=ih (id+1) (fun i hi=>by rw[show id+1+i=id+(i+1)by omega];exact h (i+1) (by simpa using hi)) n;have h0:q id=true:=by have:=h 0 (by simp);simpa using this
   cases c with
   |c k=>exact hr (by simpa[eR]using hn)
   |s e ks=>exact hr (by simpa[eR]using hn)
   | n e aU=>
     simp only[eR,bC]at hn;rcases hn with rfl|hn;simp[eO.all,h0,hG];exact hr hn
theorem nS{q:Nat->Bool}(G:BE)(hG:G.all q=true):∀(ts:List VT) (id:Nat),(∀i,i<(bP ts).length->q (id+i)=true)->ei q (cq G id ts).1=true:=by
 intro ts;induction ts with
 |nil=>intro id _;rfl
 | cons t ts ih=>
   intro id h;have e:bP (t::ts)=t.bP++bP ts:=by simp[bP]
   rw[e,fE]at h;have h1:=(iI G hG t.bP id (fun i hi=>h i (by omega))).1;have h2:=ih (id+t.bP.length) (fun i hi=>by rw[Nat.add_assoc];exact h _ (by omega));simp only[cq,ei,h2,Bool.and_true];cases t with
   |one c=>simpa[j6,VT.bP,aP,bG,V1.all]using h1
   |ptr e k=>simpa[j6,VT.bP,aP,dg,bG,V1.all,ak.all,IE.all]using h1
   | fn g cs=>
     simp only[j6,V1.all,ak.all];exact Cv G cs id fun i hi=>h i (by simp[VT.bP];omega)
   |agg cs=>simpa[j6,VT.bP,V1.all]using h1
end
section
open Go.RowKit
variable {ae aq:aF}{ph aQ:Ph}{P:Program}
variable{G:BE}{w:World}{b9:List Value}{dst:Option Tmp}{iq:List DV}{st:St}{vs:List V1}{w0:World}
def Ph.eC(ph:Ph)(key:Nat)(b9:List Value):Ph:=
 { ph with v:=fun k=>if key<=k then(match b9[k-key]? with
   |some (.slice a b c)=>(a,b,c)
   |_=>ph.v k)else ph.v k}
theorem uB{ph:Ph}{key i:Nat}{a:Option Addr}{b c:Nat}(h:b9[i]?=some (.slice a b c)):(ph.eC key b9).val (key+i) = .slice a b c:=by
 simp[Ph.val,Ph.eC,h]
theorem rN{B B':Nat}{e:TypeId}{sz:Nat}{v:Value}{n:Nat}{xs:List Value}(h:w.ownsRow B' e sz v n xs)(hb:B<=B'):w.ownsRow B e sz v n xs:=by
 obtain⟨h1,h2|⟨g,cap,cur,e1,e2,e3⟩⟩:=h;exact⟨h1,.inl h2⟩;exact⟨h1,.inr ⟨g,cap,cur,e1,lN hb e2,e3⟩⟩
theorem uC:(qK vs).af ae ph=packed (vs.map (V1.af ae ph)):=by
 match vs with
 | []=>rfl
 | [v]=>rfl
 |_::_::_=>rfl
theorem qN{q:Nat->Bool}(hG:G.all q=true)(h:ei q vs=true):(⟨G,qK vs⟩:bc).all q=true:=by
 match vs with
 | []=>simp[bc.all,hG,qK,SV.all,ei]
 | [v]=>simpa[bc.all,hG,qK,SV.all,ei]using h
 |_::_::_=>simpa[bc.all,hG,qK,SV.all]using h
def Ph.na(ph:Ph)(cs:List CT)(own:Bool)(b9:List Value)(lo hi:Nat):Ph:={ph with z:=fun k=>ph.z k\/(cs.any CT.xI=true/\lo<=k/\k<hi/\(own=true->∀v∈b9,v.ownBlock≠some k)) }
theorem jD{r:eO}:∀ {rs l:List eO},r∈sk rs l↔r∈rs\/r∈l:=by
 intro rs;induction rs with
 |nil=>intro l;simp[sk]
 | cons x rs ih=>
   intro l;show r∈vO x (sk rs l)↔_;rw[iG,ih,bC,or_assoc]
theorem Cw(G:BE):∀(cs:List CT) (id:Nat),∀r∈(aP G id cs).2,cs.any CT.isS=true:=by
 intro cs;induction cs with
 |nil=>intro id r hr;simp[aP]at hr
 | cons c cs ih=>
   intro id r hr;cases c with
   |s e ks=>simp[CT.isS]
   |c k=>simp only[List.any_cons,ih (id+1) r (by cases k<;>simpa[aP,dg]using hr),Bool.or_true]
   |n e aU=>simp only[List.any_cons,ih (id+1) r (by simpa[aP,dg]using hr),Bool.or_true]
theorem qO(own:Bool)(G:BE):∀(cs:List CT) (id:Nat),∀r∈eR own G id cs,r.g=G/\r.own=own:=by
 intro cs;induction cs with
 |nil=>intro id r hr;simp[eR]at hr
 | cons c cs ih=>
   intro id r hr;cases c with
   |c k=>exact ih _ r (by simpa[eR]using hr)
   |s e ks=>exact ih _ r (by simpa[eR]using hr)
   | n e aU=>
     simp only[eR,bC]at hr;rcases hr with rfl|hr;exact⟨rfl,rfl⟩;exact ih _ r hr
theorem OR:∀ {cs:List CT} {i j:Nat} {c d:CT},cs.countP CT.xI<=1->cs[i]?=some c->cs[j]?=some d->c.xI=true->d.xI=true->i=j:=by
 intro cs;induction cs with
 |nil=>intro i j c d _ h;simp at h
 | cons x cs ih=>
   intro i j c d hc hi hj h1 h2;have XC:∀ {j:Nat} {d:CT},x.xI=true->cs[j]?=some d->d.xI=true->False:=fun hx hj hd=>by
     have:0<cs.countP CT.xI:=List.countP_pos_iff.2 ⟨_,sF hj,hd⟩;rw[List.countP_cons_of_pos hx]at hc;omega
   cases i with
   | zero=>
     simp only[kK,ah]at hi;cases j with
     |zero=>rfl
     |succ j=>exact(XC (by rw[hi];exact h1) (by simpa using hj) h2).elim
   | succ i=>
     cases j with
     | zero=>
       simp only[kK,ah]at hj;exact(XC (by rw[hj];exact h2) (by simpa using hi) h1).elim
     | succ j=>
       have:=ih (i:=i) (j:=j) (lN (List.Sublist.countP_le (List.sublist_cons_self ..)) hc) (by simpa using hi) (by simpa using hj) h1 h2;omega
theorem GG{w':World}{a:Act}{key:Nat}{res:List VT}(h:Sat w0 ae ph st a w)(bj:st.free key (width res)=true)(EG:rH (bP res)=true)(hG:G.all st.has=true)
   (YX:G.af ae=true) (hb:Below w.heap.size w w') (hf:fitAll (mK w' w.heap.size) (bP res) b9 iq) (Uj:iR b9) :
   Step w0 ae (ae.au key iq) ph ((ph.eC key b9).na (bP res) (decide (G=BE.c true)) b9 w.heap.size w'.heap.size) st ({st.bK key (width res)with rows:=dB (cq G key res).2 st.rows,bp:=sk (eR (decide (G=BE.c true)) G key (bP res)) st.bp}.put dst ⟨G,qK (cq G key res).1⟩) (a.put dst (packed (cw res b9))) w w' none:=by
 obtain⟨C6,Ax⟩:=oQ hf;have hw:width res=(bP res).length:=rfl;have vY:∀k,st.has k=true->k<key\/key+(bP res).length<=k:=fun k hk=>by
   rcases oH k key with h1|h1;exact .inl h1;rcases oH k (key+(bP res).length)with h2|h2;rw[dr bj h1 h2]at hk;cases hk;exact .inr h2
 have bQ:bH st.has ae (ae.au key iq) ph ((ph.eC key b9).na (bP res) (decide (G=BE.c true)) b9 w.heap.size w'.heap.size):=by
   refine⟨fun k hk=>?_,fun _ _=>rfl,fun k hk=>?_⟩;rcases vY k hk with h1|h1;rw[aF.aT h1];rw[aF.iZ (by omega)];rcases vY k hk with h1|h1;simp only[Ph.na,Ph.eC];rw[if_neg (by omega)];simp only[Ph.na,Ph.eC];rw[if_pos (by omega),uU (by omega)]
 have agh:bH st.has ae (ae.au key iq) ph (ph.eC key b9):=⟨bQ.e,bQ.r,bQ.v⟩;have C7:=h.congr agh;have acJ:bH st.has (ae.au key iq) (ae.au key iq) (ph.eC key b9) ((ph.eC key b9).na (bP res) (decide (G=BE.c true)) b9 w.heap.size w'.heap.size):=⟨fun _ _=>rfl,fun _ _=>rfl,fun _ _=>rfl⟩;have Uh:∀k,((ph.eC key b9).na (bP res) (decide (G=BE.c true)) b9 w.heap.size w'.heap.size).z k->ph.z k\/(w.heap.size<=k/\k<w'.heap.size/\(bP res).any CT.xI=true/\((decide (G=BE.c true))=true->∀v∈b9,v.ownBlock≠some k)):=fun k hk=>hk.imp (fun h=>h) (fun h=>⟨h.2.1,h.2.2.1,h.1,h.2.2.2⟩);have ke:kz w0.heap.size (ae.au key iq) ((ph.eC key b9).na (bP res) (decide (G=BE.c true)) b9 w.heap.size w'.heap.size) st.bl st.rows w:=kz.congr acJ h.names.bl h.names.rows C7.mem;have ht':gB (ae.au key iq) ((ph.eC key b9).na (bP res) (decide (G=BE.c true)) b9 w.heap.size w'.heap.size) st.tmps a.tmps:=⟨C7.tmps.1,fun t s ht=>by rw[C7.tmps.2 t s ht,bc.av acJ (h.names.tmps t s ht)]⟩;have Ia:G.af (ae.au key iq)=true:=by rw[<- BE.av bQ.e hG];exact YX
 obtain⟨e1,e2,e2N⟩:=vW (ae:=ae.au key iq) (ph:=(ph.eC key b9).na (bP res) (decide (G=BE.c true)) b9 w.heap.size w'.heap.size) (decide (G=BE.c true)) G (bP res) key b9 iq hf (fun i d hd=>aF.eL hd) (fun i v hv e ks hc=>by
   have Zb:∃a b c,v = .slice a b c:=by
     rcases hc with hc|⟨aU,hc⟩;obtain⟨v',d,wC,hd,eD⟩:=kg hf hc;rw[hv]at wC;simp only[ah]at wC;subst wC;cases d with
     |i n=>simp[lq]at eD
     |b x=>simp[lq]at eD
     | l xs=>
       obtain⟨_,ho⟩:=eD;obtain⟨sl,rfl⟩:=l9 ho;exact⟨_,_,_,rfl⟩
     obtain⟨v',d,wC,hd,eD⟩:=kg hf hc;rw[hv]at wC;simp only[ah]at wC;subst wC;cases d with
     |i n=>simp[lq]at eD
     |b x=>simp[lq]at eD
     | l xs=>
       obtain⟨_,zi,_,_,cs,ho,_⟩:=eD;obtain⟨sl,rfl⟩:=l9 ho;exact⟨_,_,_,rfl⟩
   obtain⟨a0,b0,c0,rfl⟩:=Zb;exact uB (ph:=ph) hv)
 rw[<- fy]at e2;have yj:=rM (ae:=ae.au key iq) (ph:=(ph.eC key b9).na (bP res) (decide (G=BE.c true)) b9 w.heap.size w'.heap.size) G res key b9 e1;have bT:∀k,st.has k=true->(st.bK key (width res)).has k=true:=fun k hk=>ig hk;have jA:∀i,i<(bP res).length->(st.bK key (width res)).has (key+i)=true:=fun i hi=>jy (by omega) (by rw[hw];omega);have cJ:=iI (q:=(st.bK key (width res)).has) G (BE.aK bT hG) (bP res) key jA;have iM:w.grownBy w' none:=l6 hb;have hB:w0.heap.size<=w.heap.size:=h.below.size;have rf:∀r∈(cq G key res).2,∃i:Nat,i<(bP res).length/\r.id=key+i/\r.own=true/\b9[i]?=some (((ph.eC key b9).na (bP res) (decide (G=BE.c true)) b9 w.heap.size w'.heap.size).val r.id)/\gZ w0.heap.size (ae.au key iq) ((ph.eC key b9).na (bP res) (decide (G=BE.c true)) b9 w.heap.size w'.heap.size) r w'/\∀k,r.cc (ae.au key iq) ((ph.eC key b9).na (bP res) (decide (G=BE.c true)) b9 w.heap.size w'.heap.size)=some k->(((ph.eC key b9).na (bP res) (decide (G=BE.c true)) b9 w.heap.size w'.heap.size).val r.id).ownBlock=some k/\w.heap.size<=k:=by
   intro r hr;obtain⟨i,hi,OS,IF,hR⟩:=e2 r hr;obtain⟨h0,ho⟩:=hR;have bR:r.own=true:=by rw[OS]
   refine⟨i,hi,by rw[OS],bR,IF,⟨h0,?_⟩,fun k hk=>?_⟩;rw[if_pos bR];exact rN ho hB;have dH:(((ph.eC key b9).na (bP res) (decide (G=BE.c true)) b9 w.heap.size w'.heap.size).val r.id).ownBlock=some k:=by simpa[Row.cc,bR]using hk
   exact⟨dH,(ho.lt k dH).1⟩
 have hold:∀r∈st.rows,r.g.af (ae.au key iq)=true->∀k,r.cc (ae.au key iq) ((ph.eC key b9).na (bP res) (decide (G=BE.c true)) b9 w.heap.size w'.heap.size)=some k->k<w.heap.size:=fun r hr h1 k hk=>(ke.row r hr h1).uk hk;refine⟨⟨?_,?_,h.below.grown iM h.below.size (fun k hk=>by cases hk),by rw[c8];exact h.defers,?_,?_⟩,bQ,iM,fun k hk=>by rw[cP];exact bT k hk,fun b hb=>.inl ⟨b,by rw[cf]at hb;exact hb,rfl⟩⟩;refine oA (st:={st.bK key (width res)with rows:=dB (cq G key res).2 st.rows,bp:=sk (eR (decide (G=BE.c true)) G key (bP res)) st.bp}) ht' ?_;simp only[bc.af,Ia,if_true,uC,yj];rw[cf,dG];have hk:=ke.grown iM;refine⟨hk.oo,hk.bb,fun r hr h1=>?_,fun b hb r hr h1=>?_,fun r hr r' dj da ho h1 h2 k y9 vq=>?_⟩;rcases bS.1 hr with hr|hr;obtain⟨_,_,_,_,_,iA,_⟩:=rf r hr;exact iA;exact hk.row r hr h1;rcases bS.1 hr with hr|hr;obtain⟨_,_,_,_,_,_,z8⟩:=rf r hr;intro e;have:=(z8 _ e).2;have:=h.mem.D7 hb;have e3:((ph.eC key b9).na (bP res) (decide (G=BE.c true)) b9 w.heap.size w'.heap.size).r b.id=ph.r b.id:=rfl;omega;exact hk.br b hb r hr h1;rcases bS.1 hr with hr|hr<;>rcases bS.1 dj with dj|dj;obtain⟨i,_,l7,_,IF,_,z8⟩:=rf r hr;obtain⟨i',_,EH,_,Zc,_,Zd⟩:=rf r' dj;exact Uj i i' _ _ (fun e=>da (by rw[l7,EH,e])) IF Zc k (z8 k y9).1 (Zd k vq).1;obtain⟨_,_,_,_,_,_,z8⟩:=rf r hr;have:=(z8 k y9).2;have:=hold r' dj h2 k vq;omega;obtain⟨_,_,_,_,_,_,z8⟩:=rf r' dj;have:=(z8 k vq).2;have:=hold r hr h1 k y9;omega;exact hk.rr r hr r' dj da ho h1 h2 k y9 vq;refine⟨?_,?_,?_⟩;exact ij (st:={st.bK key (width res)with rows:=dB (cq G key res).2 st.rows,bp:=sk (eR (decide (G=BE.c true)) G key (bP res)) st.bp}) (fun t s ht=>bc.aK bT (h.names.tmps t s ht)) (qN (BE.aK bT hG) (nS G (BE.aK bT hG) res key jA));rw[cf,cP];exact fun b hb=>iX.aK bT (h.names.bl b hb);rw[dG,cP];intro r hr;rcases bS.1 hr with hr|hr;rw[fy]at hr;exact cJ.2 r hr;exact Row.aK bT (h.names.rows r hr);refine dM.put (st:={st.bK key (width res)with rows:=dB (cq G key res).2 st.rows,bp:=sk (eR (decide (G=BE.c true)) G key (bP res)) st.bp}) ?_;have hn:=C7.nest;obtain⟨zz,JW⟩:∃zz:Nat->Prop,zz=((ph.eC key b9).na (bP res) (decide (G=BE.c true)) b9 w.heap.size w'.heap.size).z:=⟨_,rfl⟩;have hS:∀r∈(cq G key res).2,(bP res).any CT.xI=true->False:=fun r hr hN=>by
   have hS:(bP res).any CT.isS=true:=by
     rw[fy]at hr;exact Cw G _ _ r hr
   unfold rH at EG;rw[hN,hS]at EG;cases EG
 have EI:(bP res).any CT.xI=true->(bP res).countP CT.xI<=1:=fun hN=>by
   unfold rH at EG;rw[hN]at EG;simp only[Bool.not_true,Bool.false_or,ao,aO]at EG;exact EG.2
 have EJ:(bP res).any CT.xI=true->(bP res).any CT.isS=false:=fun hN=>by
   unfold rH at EG;rw[hN]at EG;simp only[Bool.not_true,Bool.false_or,ao,nJ]at EG;exact EG.1
 have agi:∀(i j:Nat) (v u:Value) (e:TypeId) (aU:List NK) (k:Nat),(bP res)[i]?=some (.n e aU)->b9[i]?=some v->b9[j]?=some u->u.ownBlock=some k->v=u:=fun i j v u e aU k hi hv hu hk=>by
   have hN:(bP res).any CT.xI=true:=la.2 ⟨_,sF hi,rfl⟩;have hj:∃c,(bP res)[j]?=some c:=by
     have:=(dw.1 hu).1;exact⟨_,eN (by omega)⟩
   obtain⟨c,hc⟩:=hj;obtain⟨u',d,NT,_,eD⟩:=kg hf hc;rw[hu,ah]at NT;subst NT;cases c with
   |c kk=>cases kk<;>cases d<;>simp only[lq]at eD<;>subst eD<;>simp[Value.ownBlock]at hk
   | s e' ks=>
     have:=EJ hN;rw[List.any_eq_false]at this;exact absurd rfl (this _ (sF hc))
   | n e' acD=>
     have:=OR (EI hN) hi hc rfl rfl;subst this;rw[hv,ah]at hu;exact hu
 have hnN:∀n∈eR (decide (G=BE.c true)) G key (bP res),∃i:Nat,n.id=key+i/\(bP res)[i]?=some (.n n.e n.aU)/\b9[i]?=some (((ph.eC key b9).na (bP res) (decide (G=BE.c true)) b9 w.heap.size w'.heap.size).val n.id)/\0<n.aU.length/\fS w0.heap.size (ae.au key iq) ((ph.eC key b9).na (bP res) (decide (G=BE.c true)) b9 w.heap.size w'.heap.size) n w'/\
     ∀k,(((ph.eC key b9).na (bP res) (decide (G=BE.c true)) b9 w.heap.size w'.heap.size).val n.id).ownBlock=some k->w.heap.size<=k/\k<w'.heap.size:=fun n gn=>by
   obtain⟨i,hi,acx,IF,⟨h2,zi,h3,h3',Ze⟩,h4⟩:=e2N n gn;have hN:(bP res).any CT.xI=true:=la.2 ⟨_,sF h4,rfl⟩;have cM:∀k,(((ph.eC key b9).na (bP res) (decide (G=BE.c true)) b9 w.heap.size w'.heap.size).val n.id).ownBlock=some k->w.heap.size<=k/\k<w'.heap.size:=fun k hk=>by
     obtain⟨cs,ho,_⟩:=Ze;exact ho.lt k hk
   refine⟨i,by rw[acx],h4,IF,h2,?_,cM⟩;have bR:=(qO _ G _ _ n gn).2;have acK:∀k,zi k->((ph.eC key b9).na (bP res) (decide (G=BE.c true)) b9 w.heap.size w'.heap.size).z k:=fun k hk=>.inr ⟨hN,(h3 k hk).1,(h3 k hk).2,fun _ v hv e=>by
     obtain⟨j,hj⟩:=List.getElem?_of_mem hv;have:=agi i j _ v _ _ k h4 IF hj e;subst this;exact h3' k e hk⟩
   unfold fS;split;obtain⟨cs,ho,jc⟩:=Ze.nG (z':=fun k=>((ph.eC key b9).na (bP res) (decide (G=BE.c true)) b9 w.heap.size w'.heap.size).z k/\w0.heap.size<=k) (fun _ _=>rfl) (fun k hk=>⟨acK k hk,lN hB (h3 k hk).1⟩) (fun _ _=>rfl);exact⟨cs,rN ho hB,jc⟩;rename_i qH;exact Ze.reads h2 acK (fun k hk=>.inr ⟨hN,(cM k hk).1,(cM k hk).2,fun ht=>by rw[bR]at qH;exact absurd ht qH⟩)
 have C2:∀b∈st.bl,((ph.eC key b9).na (bP res) (decide (G=BE.c true)) b9 w.heap.size w'.heap.size).r b.id<w.heap.size:=fun b hb=>h.mem.D7 hb;refine⟨fun k hk=>?_,fun b hb hz=>?_,fun r hr ho h1 k hk hz=>?_,fun n gn h1=>?_,fun n gn=>?_,fun n gn ho=>?_⟩;rcases Uh k hk with h2|h2;exact Eg (hn.lt k h2) iM.size;exact h2.2.1;rcases Uh _ hz with h2|h2;exact hn.bz b hb h2;have:=C2 b hb;omega;rcases bS.1 hr with hr|hr;obtain⟨i,hi,_,_,_,_,z8⟩:=rf r hr;have h3:=(z8 k hk).2;rcases Uh _ hz with h2|h2;have:=hn.lt k h2;omega;exact hS r hr h2.2.2.1;rcases Uh _ hz with h2|h2;exact hn.rz r hr ho h1 k hk h2;have:=hold r hr h1 k hk;omega;rcases jD.1 gn with gn|gn;obtain⟨i,_,_,_,h2,h3,_⟩:=hnN n gn;exact⟨h2,h3⟩;obtain⟨h2,h3⟩:=hn.rd n gn h1;refine⟨h2,?_⟩;unfold fS at *;split;rename_i ho;rw[if_pos ho]at h3;exact h3.nG (fun k hk=>iM.block k (hn.lt k hk.1) (by simp)) (fun k hk=>⟨.inl hk.1,hk.2⟩) (fun k hk=>iM.block k (hn.qc gn ho hk).2 (by simp));rename_i ho;rw[if_neg ho]at h3;exact h3.nG (fun k hk=>iM.block k (hn.lt k hk) (by simp)) fun k hk=>.inl hk;rcases jD.1 gn with gn|gn;exact vX _ G (BE.aK bT hG) (bP res) key jA n gn;exact eO.aK bT (h.nest.nm n gn);rcases jD.1 gn with gn|gn;obtain⟨LY,J7⟩:=qO _ G _ _ n gn;obtain⟨i,l7,h4,IF,_,_,cM⟩:=hnN n gn;have hGc:G = .c true:=by rw[J7]at ho;simpa using ho
 have hN:(bP res).any CT.xI=true:=la.2 ⟨_,sF h4,rfl⟩;refine⟨by rw[LY,hGc],fun k hk=>?_⟩;obtain⟨y9,vq⟩:=cM k hk;refine⟨fun hz=>?_,fun b hb e=>?_,fun r hr IG B9=>?_,fun n' pG re EH=>?_⟩;rcases Uh _ hz with h2|h2;have:=hn.lt k h2;omega;exact h2.2.2.2 (by simpa using hGc) _ (sF IF) hk;have:=C2 b hb;omega;rcases bS.1 hr with hr|hr;exact hS r hr hN;have:=hold r hr IG k B9;omega;intro B9;rcases jD.1 pG with pG|pG;obtain⟨i',agj,h4',_⟩:=hnN n' pG;have:=OR (EI hN) h4 h4' rfl rfl;subst this;exact EH (by rw[l7,agj]);have:=(hn.qc pG re (k:=k) B9).2;omega;obtain⟨g1,g2⟩:=hn.oz n gn ho;refine⟨g1,fun k hk=>?_⟩;obtain⟨f1,f2,f3,f4⟩:=g2 k hk;have cM:=(hn.qc gn ho hk).2;refine⟨fun hz=>?_,f2,fun r hr IG B9=>?_,fun n' pG re EH=>?_⟩;rcases Uh _ hz with h2|h2;exact f1 h2;omega;rcases bS.1 hr with hr|hr;obtain⟨_,_,_,_,_,_,z8⟩:=rf r hr;have:=(z8 k B9).2;omega;exact f3 r hr IG B9;intro B9;rcases jD.1 pG with pG|pG;obtain⟨_,_,_,_,_,_,Mj⟩:=hnN n' pG;have:=(Mj k B9).1;omega;exact f4 n' pG re EH B9
theorem IH{a:Act}{key:Nat}{res:List VT}(h:Sat w0 ae ph st a w)(bj:st.free key (width res)=true)(hG:G.all st.has=true)
   (hGf:G.af ae=false) (hl:iq.length=(bP res).length) :
   Step w0 ae (ae.au key iq) ph ph st ({st.bK key (width res)with rows:=dB (cq G key res).2 st.rows,bp:=sk (eR (decide (G=BE.c true)) G key (bP res)) st.bp}.put dst ⟨G,qK (cq G key res).1⟩) (a.put dst undef) w w none:=by
 have hw:width res=(bP res).length:=rfl;have bQ:bH st.has ae (ae.au key iq) ph ph:=by
   refine⟨fun k hk=>?_,fun _ _=>rfl,fun k hk=>rfl⟩;rcases oH k key with h1|h1;rw[aF.aT h1];rcases oH k (key+(bP res).length)with h2|h2;rw[dr bj h1 h2]at hk;cases hk;rw[aF.iZ (by omega)]
 have ke:=h.congr bQ;have Ia:G.af (ae.au key iq)=false:=by rw[<- BE.av bQ.e hG];exact hGf
 have bT:∀k,st.has k=true->(st.bK key (width res)).has k=true:=fun k hk=>ig hk;have jA:∀i,i<(bP res).length->(st.bK key (width res)).has (key+i)=true:=fun i hi=>jy (by omega) (by rw[hw];omega);have cJ:=iI (q:=(st.bK key (width res)).has) G (BE.aK bT hG) (bP res) key jA;have hng:∀r∈(cq G key res).2,r.g=G:=by
   have:∀(cs:List CT) (id:Nat),∀r∈(aP G id cs).2,r.g=G:=by
     intro cs;induction cs with
     |nil=>intro id r hr;simp[aP]at hr
     | cons c cs ih=>
       intro id r hr;simp only[aP,jS]at hr;rcases hr with hr|hr;cases c with
       |c k=>cases k<;>simp[dg]at hr
       |s e ks=>simp[dg]at hr;rw[hr]
       |n e aU=>simp[dg]at hr
       exact ih _ r hr
   rw[fy];exact this _ _
 refine⟨⟨?_,?_,h.below,by rw[c8];exact h.defers,?_,?_⟩,bQ,cK w,fun k hk=>by rw[cP];exact bT k hk,fun b hb=>.inl ⟨b,by rw[cf]at hb;exact hb,rfl⟩⟩;refine oA (st:={st.bK key (width res)with rows:=dB (cq G key res).2 st.rows,bp:=sk (eR (decide (G=BE.c true)) G key (bP res)) st.bp}) ke.tmps ?_;simp only[bc.af,Ia];rfl;rw[cf,dG];have hk:=ke.mem;have ho:∀r∈dB (cq G key res).2 st.rows,r.g.af (ae.au key iq)=true->r∈st.rows:=fun r hr h1=>by
   rcases bS.1 hr with hr|hr;rw[hng r hr,Ia]at h1;cases h1;exact hr
 exact⟨hk.oo,hk.bb,fun r hr h1=>hk.row r (ho r hr h1) h1,fun b hb r hr h1=>hk.br b hb r (ho r hr h1) h1,fun r hr r' dj da hw h1 h2=>hk.rr r (ho r hr h1) r' (ho r' dj h2) da hw h1 h2⟩;refine⟨?_,?_,?_⟩;exact ij (st:={st.bK key (width res)with rows:=dB (cq G key res).2 st.rows,bp:=sk (eR (decide (G=BE.c true)) G key (bP res)) st.bp}) (fun t s ht=>bc.aK bT (h.names.tmps t s ht)) (qN (BE.aK bT hG) (nS G (BE.aK bT hG) res key jA));rw[cf,cP];exact fun b hb=>iX.aK bT (h.names.bl b hb);rw[dG,cP];intro r hr;rcases bS.1 hr with hr|hr;rw[fy]at hr;exact cJ.2 r hr;exact Row.aK bT (h.names.rows r hr);refine dM.put (st:={st.bK key (width res)with rows:=dB (cq G key res).2 st.rows,bp:=sk (eR (decide (G=BE.c true)) G key (bP res)) st.bp}) ?_;have hn:=ke.nest;have XD:∀n∈eR (decide (G=BE.c true)) G key (bP res),n.own=true->False:=fun n gn ho=>by
   obtain⟨_,J7⟩:=qO _ G _ _ n gn;rw[J7]at ho;have hGc:G = .c true:=by simpa using ho
   rw[hGc]at hGf;cases hGf
 refine⟨hn.lt,hn.bz,fun r hr ho h1 k hk=>?_,fun n gn h1=>?_,fun n gn=>?_,fun n gn ho=>?_⟩;rcases bS.1 hr with hr|hr;rw[hng r hr,Ia]at h1;cases h1;exact hn.rz r hr ho h1 k hk;rcases jD.1 gn with gn|gn;rw[(qO _ G _ _ n gn).1,Ia]at h1;cases h1;exact hn.rd n gn h1;rcases jD.1 gn with gn|gn;exact vX _ G (BE.aK bT hG) (bP res) key jA n gn;exact eO.aK bT (h.nest.nm n gn);rcases jD.1 gn with gn|gn;exact(XD n gn ho).elim;obtain⟨g1,g2⟩:=hn.oz n gn ho;refine⟨g1,fun k hk=>?_⟩;obtain⟨f1,f2,f3,f4⟩:=g2 k hk;refine⟨f1,f2,fun r hr IG B9=>?_,fun n' pG re EH=>?_⟩;rcases bS.1 hr with hr|hr;rw[hng r hr,Ia]at IG;cases IG;exact f3 r hr IG B9;rcases jD.1 pG with pG|pG;exact(XD n' pG re).elim;exact f4 n' pG re EH
end
end Go.Sx

/- The symbolic executor: memory and own rows. -/
import Derived.Test.YtohebioanhliiaaGreatDoorGA1
import Derived.Maps.AppendAt
set_option linter.unusedVariables false
set_option linter.unusedSimpArgs false
namespace Go.Sx
section
open Go.RowKit
variable {ae:aH}{ph:Ph}{P:Program}
variable{st:St}{w:World}{dst:Option Tmp}{s:aV}{B:Nat}{w':World}{n:Nat}{v:Value}{k:Nat}{a8:St}
theorem Reads.grown{cells:List Value}{row:Option Nat}(h:Reads w v n cells)(hg:w.grownBy w' row)(cV:cells≠[]->∀k,v.ownBlock=some k->some k≠row):Reads w' v n cells:=by
 obtain⟨base,cap,rfl,hn,h0,hc⟩:=h;refine⟨base,cap,rfl,hn,h0,fun j u hj=>?_⟩;obtain⟨a,rfl,ha⟩:=hc j u hj;refine⟨a,rfl,?_⟩;have lF:(a.add j).block=a.block:=by unfold Addr.add;split<;>rfl
 exact hg.cell ha (by rw[lF];exact cV (by intro e;rw[e]at hj;simp at hj) _ (by simp[Value.ownBlock]))
theorem vF{e:TypeId}{sz:Nat}{xs:List Value}{row:Option Nat}(h:w.ownsRow B e sz v n xs)(hg:w.grownBy w' row)(cV:∀k,v.ownBlock=some k->some k≠row):w'.ownsRow B e sz v n xs:=
 h.kept hg (by
   cases hv:v.ownBlock with
   |none=>exact .inl rfl
   |some k=>exact .inr (cV k hv))
theorem gH.grown{r:Row}{row:Option Nat}(h:gH B ae ph r w)(hg:w.grownBy w' row)(cV:∀k,r.b9 ae ph=some k->some k≠row):gH B ae ph r w':=by
 obtain⟨h0,h⟩:=h;refine⟨h0,?_⟩;split at h;rename_i ho;rw[if_pos ho];exact vF h hg (fun k hk=>cV k (by simp[Row.b9,ho,hk]));rename_i ho;rw[if_neg ho];exact h.grown hg (fun hc k hk=>cV k (by
   have:(ae r.lv).list.length≠0:=fun e=>hc (C1 (by rw[bT,e,Nat.zero_mul]));simp[Row.b9,this,hk]))
theorem vA.lt{b:iQ}(h:vA B ae ph b w):ph.r b.id<w.heap.size:=(sQ.1 h.2).1
theorem vA.grown{b:iQ}{row:Option Nat}(h:vA B ae ph b w)(hg:w.grownBy w' row)(cV:some (ph.r b.id)≠row):vA B ae ph b w':=
 ⟨h.1,by rw[hg.block _ h.lt cV];exact h.2⟩
theorem kn.grown{aY:List iQ}{rows:List Row}(h:kn B ae ph aY rows w)(hg:w.grownBy w' none):kn B ae ph aY rows w':=
 ⟨fun b hb=>(h.nJ b hb).grown hg (by simp),h.bb,fun r hr h1=>(h.row r hr h1).grown hg (by simp),h.br,h.rr⟩
theorem cw(w:World):w.grownBy w none:=⟨rfl,rfl,rfl,fz _,fun _ _ _=>rfl⟩
theorem lU(h:Below w.heap.size w w'):w.grownBy w' none:=⟨h.os,h.tape,h.output,h.size,fun k hk _=>h.block k hk⟩
theorem qc{a b c:World}{row:Option Nat}(h:a.grownBy b row)(k:b.grownBy c row):a.grownBy c row:=
 ⟨k.os.trans h.os,k.tape.trans h.tape,k.output.trans h.output,kI h.size k.size,fun i hi cV=>(k.block i (C6 hi h.size) cV).trans (h.block i hi cV)⟩
theorem jm{a b:World}{row:Option Nat}(h:a.grownBy b none):a.grownBy b row:=⟨h.os,h.tape,h.output,h.size,fun i hi _=>h.block i hi (by simp)⟩
theorem Ji{q:Nat×Nat->Bool}{d:Nat×Nat}:∀ {l:List (Nat×Nat)},(yG d l).any q=(q d||l.any q):=by
 intro l;induction l with
 |nil=>simp[yG]
 | cons x l ih=>
   simp only[yG];split;simp;simp only[List.any_cons,ih];cases q x<;>cases q d<;>simp
theorem yH{a:Nat}:(st.bC a n).has k=(st.has k||(decide (a<=k)&&decide (k<a+n))):=by
 show(decide (k<st.next)||(yG (a,a+n) st.qd).any _)=_;rw[Ji];show(decide (k<st.next)||(_||_))=((decide (k<st.next)||_)||_);rw[Bool.or_assoc,Bool.or_comm (decide (a<=k)&&decide (k<a+n))]
theorem gP{a:Nat}(h:st.has k=true):(st.bC a n).has k=true:=by rw[yH,h];rfl
theorem jn{a:Nat}(h1:a<=k)(h2:k<a+n):(st.bC a n).has k=true:=by rw[yH];simp[h1,h2]
theorem df{a:Nat}(h:st.free a n=true)(h1:a<=k)(h2:k<a+n):st.has k=false:=by
 simp only[St.free,ao,aM,kG,ig]at h;simp only[St.has,G0,Le,List.any_eq_false,ao,aM,not_and];refine⟨by omega,fun d hd h3=>?_⟩;have:=h.2 d hd;omega
theorem IE.aG{p q:Nat->Bool}(h:∀k,p k=true->q k=true):∀ {e:IE},e.all p=true->e.all q=true:=by
 intro e;induction e with
 |v k=>simp only[IE.all];exact h k
 |c n=>simp[IE.all]
 |len k=>simp only[IE.all];exact h k
 |get k i j ih=>simp only[IE.all,ao];exact fun ha=>⟨h k ha.1,ih ha.2⟩
 |jZ i n a b vp vq ZG=>simp only[IE.all,ao];exact fun ha=>⟨vp ha.1,vq ha.2.1,ZG ha.2.2⟩
 |ediv a n ih=>simp only[IE.all];exact ih
 |emod a n ih=>simp only[IE.all];exact ih
 |wrap k a ih=>simp only[IE.all];exact ih
 |bits op k a b vp vq=>simp only[IE.all,ao];exact fun ha=>⟨vp ha.1,vq ha.2⟩
 |_ a b vp vq=>simp only[IE.all,ao];exact fun ha=>⟨vp ha.1,vq ha.2⟩
theorem BE.aG{p q:Nat->Bool}(h:∀k,p k=true->q k=true):∀ {e:BE},e.all p=true->e.all q=true:=by
 intro e;induction e with
 |v k=>simp only[BE.all];exact h k
 |c n=>simp[BE.all]
 |not a ih=>simp only[BE.all];exact ih
 |sP a=>simp only[BE.all];exact IE.aG h
 |and a b vp vq=>simp only[BE.all,ao];exact fun ha=>⟨vp ha.1,vq ha.2⟩
 |or a b vp vq=>simp only[BE.all,ao];exact fun ha=>⟨vp ha.1,vq ha.2⟩
 |iff a b vp vq=>simp only[BE.all,ao];exact fun ha=>⟨vp ha.1,vq ha.2⟩
 |_ a b=>simp only[BE.all,ao];exact fun ha=>⟨IE.aG h ha.1,IE.aG h ha.2⟩
theorem dx.aG{p q:Nat->Bool}(h:∀k,p k=true->q k=true){l:dx}(ha:l.all p=true):l.all q=true:=by
 cases l with
 |i k e=>exact IE.aG h ha
 |b e=>exact BE.aG h ha
 |s r=>exact h _ ha
 |lD=>rfl
theorem ai.aG{p q:Nat->Bool}(h:∀k,p k=true->q k=true){l:ai}(ha:l.all p=true):l.all q=true:=by
 cases l with
 |i k e=>exact IE.aG h ha
 |b e=>exact BE.aG h ha
 |p b o=>exact h _ ha
 |ep r s i j=>simp only[ai.all,ao]at ha ⊢;exact⟨h _ ha.1,IE.aG h ha.2⟩
 |pi b o s n x=>simp only[ai.all,ao]at ha ⊢;exact⟨h _ ha.1,IE.aG h ha.2⟩
 |s r=>exact h _ ha
 |fn g dF=>simp only[ai.all,kG]at ha ⊢;exact fun c hc=>h _ (ha c hc)
 |fl e=>exact IE.aG h ha
 |bf g a ls=>simp only[ai.all,kG]at ha ⊢;exact fun c hc=>dx.aG h (ha c hc)
 |vw r s lo n=>simp only[ai.all,ao]at ha ⊢;exact⟨h _ ha.1,IE.aG h ha.2.1,IE.aG h ha.2.2⟩
 |cs r=>exact h _ ha
 |bs b n s=>exact h _ ha
 |kb r bs=>exact h _ ha
 |ab r i b=>exact h _ ha
 |_=>rfl
theorem nT{p q:Nat->Bool}(h:∀k,p k=true->q k=true):∀ {ls:List ai},bt p ls=true->bt q ls=true:=by
 intro ls;induction ls with
 |nil=>intro _;rfl
 |cons l ls ih=>simp only[bt,ao];exact fun ha=>⟨ai.aG h ha.1,ih ha.2⟩
theorem V1.aG{p q:Nat->Bool}(h:∀k,p k=true->q k=true){v:V1}(ha:v.all p=true):v.all q=true:=by
 cases v with
 |one l=>exact ai.aG h ha
 |agg ls=>exact nT h ha
theorem zE{p q:Nat->Bool}(h:∀k,p k=true->q k=true):∀ {ls:List V1},dH p ls=true->dH q ls=true:=by
 intro ls;induction ls with
 |nil=>intro _;rfl
 |cons l ls ih=>simp only[dH,ao];exact fun ha=>⟨V1.aG h ha.1,ih ha.2⟩
theorem aV.aG{p q:Nat->Bool}(h:∀k,p k=true->q k=true)(ha:s.all p=true):s.all q=true:=by
 simp only[aV.all,ao]at ha ⊢;refine⟨BE.aG h ha.1,?_⟩;cases hs:s.sv with
 |v x=>rw[hs]at ha;exact V1.aG h ha.2
 |IY xs=>rw[hs]at ha;exact zE h ha.2
theorem iQ.aG{p q:Nat->Bool}(h:∀k,p k=true->q k=true){b:iQ}(ha:b.all p=true):b.all q=true:=by
 simp only[iQ.all,ao]at ha ⊢;exact⟨h _ ha.1,nT h ha.2⟩
theorem Row.aG{p q:Nat->Bool}(h:∀k,p k=true->q k=true){r:Row}(ha:r.all p=true):r.all q=true:=by
 simp only[Row.all,ao]at ha ⊢;exact⟨h _ ha.1,h _ ha.2.1,BE.aG h ha.2.2⟩
theorem cL:(st.put dst s).has=st.has:=by
 cases dst<;>rfl
theorem cc:(st.put dst s).aY=st.aY:=by cases dst<;>rfl
theorem dq:(st.put dst s).rows=st.rows:=by cases dst<;>rfl
theorem gg.put{ts:List (Option aV)}{tmps:Array Value}(h:gg ae ph ts tmps)(d:Nat)(s:aV):gg ae ph (ts.set d (some s)) (tmps.setIfInBounds d (s.af ae ph)):=by
 refine⟨by simpa using h.1,fun t s' ht=>?_⟩;rw[List.getElem?_set]at ht;rw[Array.getElem?_setIfInBounds];by_cases hd:d=t;subst hd;simp only[if_true]at ht ⊢;split at ht;rename_i cu;simp only[ah]at ht;subst ht;rw[if_pos (by rw[<- h.1];exact cu)];cases ht;simp only[hd,if_false]at ht ⊢;exact h.2 t s' ht
theorem nU{a:Act}(h:gg ae ph st.tmps a.tmps)(hv:v=s.af ae ph):gg ae ph (st.put dst s).tmps (a.put dst v).tmps:=by
 subst hv;cases dst with
 |none=>exact h
 |some d=>exact h.put d s
theorem gQ(h:∀(t:Nat) (s:aV),st.tmps[t]?=some (some s)->s.all st.has=true)(hs:s.all st.has=true) :
   ∀(t:Nat) (s':aV),(st.put dst s).tmps[t]?=some (some s')->s'.all (st.put dst s).has=true:=by
 intro t s' ht;rw[cL];cases dst with
 |none=>exact h t s' ht
 | some d=>
   simp only[St.put]at ht;rw[List.getElem?_set]at ht;split at ht;split at ht;simp only[ah]at ht;subst ht;exact hs;cases ht;exact h t s' ht
theorem cS{a:Act}:(a.put dst v).defers=a.defers:=by cases dst<;>rfl
theorem M1:(st.put dst s).a7=st.a7:=by cases dst<;>rfl
theorem ej.aG{p q:Nat->Bool}(h:∀k,p k=true->q k=true){r:ej}(ha:r.all p=true):r.all q=true:=by
 simp only[ej.all,ao]at ha ⊢;exact⟨h _ ha.1,h _ ha.2.1,BE.aG h ha.2.2⟩
theorem dy.next{row:Option Nat}(h:dy B ae ph st w){ak:aH}{aQ:Ph}(bM:bA st.has ae ak ph aQ)(hz:aQ.z=ph.z)(hm:∀k,st.has k=true->a8.has k=true)(hg:w.grownBy w' row)(bl:∀k,row=some k->¬ ph.z k/\∀n∈st.a7,n.own=true->(ph.val n.id).ownBlock≠some k)(hn:a8.a7=st.a7)
   (hb:∀b∈a8.aY,(∃b0∈st.aY,aQ.r b.id=ph.r b0.id)\/w.heap.size<=aQ.r b.id)
   (hr:∀r∈a8.rows,r.g.af ak=true->∀k,r.b9 ak aQ=some k->(∃r0∈st.rows,(r.own=true->r0.own=true)/\r0.g.af ae=true/\r0.b9 ae ph=some k)\/w.heap.size<=k\/row=some k\/(r.own=false/\ph.z k)):dy B ak aQ a8 w':=by
 have hv:∀n∈st.a7,aQ.val n.id=ph.val n.id/\ak n.lv=ae n.lv/\n.g.af ak=n.g.af ae:=fun n hn=>by
   have:=h.nm n hn;simp only[ej.all,ao]at this;exact⟨by simp only[Ph.val,bM.v _ this.1],(bM.e _ this.2.1).symm,(BE.aq bM.e this.2.2).symm⟩
 refine⟨fun k hk=>C6 (h.lt k (by rw[<- hz];exact hk)) hg.size,fun b DN PI=>?_,fun r VM ho h1 k hk M3=>?_,fun n jT h1=>?_,fun n jT=>ej.aG hm (h.nm n (by rw[<- hn];exact jT)),fun n jT ho=>?_⟩;rw[hz]at PI;rcases hb b DN with⟨b0,h0,e⟩|e;rw[e]at PI;exact h.bz b0 h0 PI;have:=h.lt _ PI;omega;rw[hz]at M3;rcases hr r VM h1 k hk with⟨r0,h0,h2,h3,h4⟩|e|e|⟨e,_⟩;exact h.rz r0 h0 (h2 ho) h3 k h4 M3;have:=h.lt _ M3;omega;exact(bl k e).1 M3;rw[e]at ho;cases ho;rw[hn]at jT;obtain⟨e1,e2,e3⟩:=hv n jT;obtain⟨h0,CS⟩:=h.rd n jT (by rw[<- e3];exact h1);refine⟨h0,?_⟩;unfold fG at *;rw[hz,e1,e2];split;rename_i ho;rw[if_pos ho]at CS;refine CS.mY (fun k hk=>hg.block k (h.lt k hk.1) (fun e=>(bl k e.symm).1 hk.1)) (fun _ h=>h) (fun k hk=>hg.block k (h.pZ jT ho hk).2 (fun e=>(bl k e.symm).2 n jT ho hk));rename_i ho;rw[if_neg ho]at CS;exact CS.mY (fun k hk=>hg.block k (h.lt k hk) (fun e=>(bl k e.symm).1 hk)) (fun _ h=>h);rw[hn]at jT;obtain⟨e1,e2,e3⟩:=hv n jT;obtain⟨h1,h2⟩:=h.oz n jT ho;refine⟨h1,fun k hk=>?_⟩;rw[e1]at hk;obtain⟨g1,g2,g3,g4⟩:=h2 k hk;have cu:=(h.pZ jT ho hk).2;refine⟨by rw[hz];exact g1,fun b DN he=>?_,fun r VM iG hf=>?_,fun n' lK p9 cV=>?_⟩;rcases hb b DN with⟨b0,h0,e⟩|e;exact g2 b0 h0 (by rw[<- e];exact he);omega;rcases hr r VM iG k hf with⟨r0,h0,_,h3,h4⟩|e|e|⟨_,e⟩;exact g3 r0 h0 h3 h4;omega;exact(bl k e).2 n jT ho hk;exact g1 e;rw[hn]at lK;rw[(hv n' lK).1];exact g4 n' lK p9 cV
theorem dy.same(h:dy B ae ph st w)(hm:∀k,st.has k=true->a8.has k=true)(h1:a8.aY=st.aY)(h2:a8.rows=st.rows)(h3:a8.a7=st.a7):dy B ae ph a8 w:=
 ⟨h.lt,by rw[h1];exact h.bz,by rw[h2];exact h.rz,by rw[h3];exact h.rd,by rw[h3];exact fun n hn=>ej.aG hm (h.nm n hn),by rw[h1,h2,h3];exact h.oz⟩
theorem dy.put(h:dy B ae ph st w):dy B ae ph (st.put dst s) w:=
 h.same (fun k hk=>by rw[cL];exact hk) cc dq M1
theorem Sat.put{w0:World}{a:Act}(h:Sat w0 ae ph st a w)(hs:s.all st.has=true)(hv:v=s.af ae ph):Sat w0 ae ph (st.put dst s) (a.put dst v) w:=
 ⟨nU h.tmps hv,by rw[cc,dq];exact h.mem,h.below,by rw[cS];exact h.defers,
   ⟨gQ h.names.tmps hs,by rw[cc,cL];exact h.names.aY,by rw[dq,cL];exact h.names.rows⟩,h.nest.put⟩
theorem nV:kN.af ae ph=undef:=rfl
theorem nW{p:Nat->Bool}:kN.all p=true:=rfl
end
section
open Go.RowKit
variable {ae:aH}{ph:Ph}{P:Program}
variable{w:World}{dst:Option Tmp}{e:TypeId}{ls:List ai}{st:St}{w0:World}
theorem kO(g:Nat)(ty:TypeId)(off:Nat):∀(vs:List Value) (i:Nat) (cur:List Value) (w:World),w.heap[g]?=some (.cells cur.toArray ty (0,0))->off+i+vs.length<=cur.length->(∀v∈vs,v.oneCell'=true)->
   ∃w',(storeCells ⟨g,off,none⟩ vs i).run P w = .ok () w'/\w.grownBy w' (some g)/\w'.heap[g]?=some (.cells ((vs.zipIdx i).foldl (fun cs (x:Value×Nat)=>cs.set (off+x.2) x.1) cur).toArray ty (0,0)):=by
 intro vs;induction vs with
 |nil=>intro i cur w hg _ _;exact⟨w,rfl,jm (cw w),hg⟩
 | cons v vs ih=>
   intro i cur w hg hl h1;simp only[qe]at hl;have cu:off+i<cur.length:=by omega
   have mS:w.cell? ⟨g,off+i,none⟩=some cur[off+i]:=by
     rw[cell_of_row w g _ _ _ _ hg];simp[cu]
   have hfz:=frozen_of_row w g (off+i) cur.toArray ty hg;have fc:(store ((⟨g,off,none⟩:Addr).add i) v).run P w = .ok () (w.setCell ⟨g,off+i,none⟩ v):=by
     rw[jH,run_store P w _ v _ (h1 v (aU ..))];simp[stored,mS,hfz]
   have DW:(w.setCell ⟨g,off+i,none⟩ v).heap[g]?=some (.cells (cur.set (off+i) v).toArray ty (0,0)):=by
     have:=heap_setCell_same w g (off+i) cur.toArray ty v hg;rw[this];simp
   obtain⟨w',hr,iG,hh⟩:=ih (i+1) (cur.set (off+i) v) (w.setCell ⟨g,off+i,none⟩ v) DW (by simp;omega) (fun u hu=>h1 u (bn _ hu));refine⟨w',?_,?_,?_⟩;simp only[storeCells,eU,fc,eP,hr];have K5:w.grownBy (w.setCell ⟨g,off+i,none⟩ v) (some g):=⟨rfl,rfl,rfl,by simp,fun k _ hk=>heap_setCell_other w ⟨g,off+i,none⟩ k v (fun e=>hk (by rw[e]))⟩;exact qc K5 iG;simpa[List.zipIdx_cons]using hh
theorem zF{t:TypeId}{g off:Nat}{ty:TypeId}{v:V1}{cs:List ai}(hs:v.leaves.length=P.cellsOf t)(kJ:0<P.cellsOf t)(hg:w.heap[g]?=some (.cells (cs.map (ai.af ae ph)).toArray ty (0,0)))
   (hl:off+v.leaves.length<=cs.length) :
   ∃w',(Instr.storeAt t (.pointer (some ⟨g,off,none⟩)) (v.af ae ph)).run P w = .ok () w'/\w.grownBy w' (some g)/\w'.heap[g]?=some (.cells ((iY cs off v.leaves).map (ai.af ae ph)).toArray ty (0,0)):=by
 obtain⟨w',hr,iG,hh⟩:=kO (P:=P) g ty off (v.leaves.map (ai.af ae ph)) 0 (cs.map (ai.af ae ph)) w hg (by simpa using hl) (fun u hu=>by
   obtain⟨l,_,rfl⟩:=jO.1 hu;exact ai.zC l)
 refine⟨w',?_,iG,by rw[hh,na]⟩;simp only[Instr.storeAt,Instr.sureAddr,eU,fX,eP,storeVar,cm kJ,V1.fR];rw[if_neg (by simp[hs])];simpa using hr
theorem gC{b x:iQ}:∀ {l:List iQ},b∈mI x l↔b=x\/b∈l:=by
 intro l;induction l with
 |nil=>simp[mI]
 | cons y l ih=>
   simp only[mI];split;simp;simp only[bF,ih];constructor;rintro(h|h|h)<;>simp[h];rintro(h|h|h)<;>simp[h]
theorem dI{b x:Row}:∀ {l:List Row},b∈dz x l↔b=x\/b∈l:=by
 intro l;induction l with
 |nil=>simp[dz]
 | cons y l ih=>
   simp only[dz];split;simp;simp only[bF,ih];constructor;rintro(h|h|h)<;>simp[h];rintro(h|h|h)<;>simp[h]
structure Step(w0:World)(ae ak:aH)(ph aQ:Ph)(st a8:St)(a':Act)(w w':World)(row:Option Nat):Prop where
 sat:Sat w0 ak aQ a8 a' w'
 agree:bA st.has ae ak ph aQ
 grown:w.grownBy w' row
 mono:∀k,st.has k=true->a8.has k=true
 fresh:∀b∈a8.aY,(∃b0∈st.aY,b0.id=b.id)\/w.heap.size<=aQ.r b.id
theorem cQ{p:Nat->Bool}:bA p ae ae ph ph:=⟨fun _ _=>rfl,fun _ _=>rfl,fun _ _=>rfl⟩
theorem A'{a:Act}{key:Nat}{s:aV}{v:Value}(h:Sat w0 ae ph st a w)(aX:st.free key 1=true)(AJ:bt st.has ls=true)
   (hsa:s.all (st.bC key 1).has=true) (hv:v=s.af ae (ph.qf key w.heap.size)) :
   Step w0 ae ae ph (ph.qf key w.heap.size) st ({st.bC key 1 with aY:=mI ⟨key,e,ls⟩ st.aY}.put dst s) (a.put dst v) w (w.alloc (.cells (ls.map (ai.af ae ph)).toArray e)) none:=by
   have wb:st.has key=false:=df aX (fz _) (by omega);have bM:bA st.has ae ae ph (ph.qf key w.heap.size):=⟨fun _ _=>rfl,fun k hk=>by
     have:k≠key:=fun e=>by rw[e,wb]at hk;cases hk
     simp[Ph.qf,this],fun _ _=>rfl⟩
   have j4:=h.congr bM;have iG:w.grownBy (w.alloc (.cells (ls.map (ai.af ae ph)).toArray e)) none:=World.grownBy_alloc w _ none;have bQ:∀k,st.has k=true->(st.bC key 1).has k=true:=fun k hk=>gP hk;have hB:w0.heap.size<=w.heap.size:=h.below.size;refine⟨⟨?_,?_,h.below.alloc hB _,by rw[cS];exact h.defers,?_,?_⟩,bM,iG,fun k hk=>by rw[cL];exact bQ k hk,fun b hb=>?_⟩
   rotate_right
   rw[cc]at hb;rcases gC.1 hb with rfl|hb;exact .inr (by simp[Ph.qf]);exact .inl ⟨b,hb,rfl⟩;refine nU (st:={st.bC key 1 with aY:=mI ⟨key,e,ls⟩ st.aY}) j4.tmps ?_;exact hv;rw[cc,dq];have hm:=j4.mem.grown iG;have amR:∀b∈st.aY,b.id≠key:=fun b hb e=>by
     have:=h.names.aY b hb;simp only[iQ.all,ao]at this;rw[e,wb]at this;simp at this
   refine⟨fun b hb=>?_,fun b hb b' nX cV=>?_,hm.row,fun b hb r hr h1=>?_,hm.rr⟩;rcases gC.1 hb with rfl|hb;refine⟨by simp[Ph.qf];exact hB,?_⟩;simp only[Ph.qf,if_true,heap_alloc_new];have:=kH bM AJ;rw[this];rfl;exact hm.nJ b hb;have cu:∀b∈st.aY,(ph.qf key w.heap.size).r b.id<w.heap.size:=fun b hb=>(j4.mem.nJ b hb).lt;rcases gC.1 hb with rfl|hb<;>rcases gC.1 nX with rfl|nX;exact absurd rfl cV;have:=cu b' nX;simp only[Ph.qf,if_true]at this ⊢;omega;have:=cu b hb;simp only[Ph.qf,if_true]at this ⊢;omega;exact hm.bb b hb b' nX cV;rcases gC.1 hb with rfl|hb;intro adb;simp only[Ph.qf,if_true]at adb;have:=(j4.mem.row r hr h1).uK adb;omega;exact hm.br b hb r hr h1;refine⟨?_,?_,?_⟩;refine gQ (st:={st.bC key 1 with aY:=mI ⟨key,e,ls⟩ st.aY}) (fun t s ht=>aV.aG bQ (h.names.tmps t s ht)) hsa;rw[cc,cL];intro b hb;rcases gC.1 hb with rfl|hb;simp only[iQ.all,ao];exact⟨jn (st:=st) (a:=key) (n:=1) (fz _) (by omega),nT bQ AJ⟩;exact iQ.aG bQ (h.names.aY b hb);rw[dq,cL];exact fun r hr=>Row.aG bQ (h.names.rows r hr)
   . refine dy.put (st:={st.bC key 1 with aY:=mI ⟨key,e,ls⟩ st.aY}) (h.nest.next bM rfl bQ iG (fun k hk=>by cases hk) rfl (fun b hb=>?_) (fun r hr h1 k hk=>?_));rcases gC.1 hb with rfl|hb;exact .inr (by simp[Ph.qf]);have:=h.names.aY b hb;simp only[iQ.all,ao]at this;exact .inl ⟨b,hb,(bM.r _ this.1).symm⟩;have cY:r∈st.rows:=hr;have:=h.names.rows r cY;simp only[Row.all,ao]at this;refine .inl ⟨r,cY,id,h1,?_⟩;unfold Row.b9 at hk ⊢;simp only[Ph.val,bM.v _ this.1];exact hk
theorem DX{a:Act}{key:Nat}{du:List Ev}{a8:St}(h:Sat w0 ae ph st a w)(ha:qF st key e ls dst=some (du,a8)) :
   du=[]/\Step w0 ae ae ph (ph.qf key w.heap.size) st a8 (a.put dst (.pointer (some ⟨w.heap.size,0,none⟩))) w (w.alloc (.cells (ls.map (ai.af ae ph)).toArray e)) none:=by
 unfold qF at ha;split at ha;rename_i hc;simp only[ao]at hc;obtain⟨aX,AJ⟩:=hc;simp only[ah,aA]at ha;obtain⟨rfl,rfl⟩:=ha;refine⟨rfl,A' h aX AJ ?_ ?_⟩;simp only[aV.all,BE.all,SV.all,V1.all,ai.all,Bool.true_and];exact jn (fz _) (by omega);simp[aV.af,BE.af,SV.af,V1.af,ai.af,Ph.qf];cases ha
end
section
open Go.RowKit
variable {ae:aH}{ph:Ph}{P:Program}
variable{dst:Option Tmp}{st:St}{w w0 w':World}{G:BE}{e:TypeId}{ks:List CK}
theorem xo{a8:St}{a:Act}{b:iQ}{cs:List ai}{du:List Ev}(h:Sat w0 ae ph st a w)(hs:setCells st b cs dst=some (du,a8))(hb:b∈st.aY)
   (hg:w.grownBy w' (some (ph.r b.id))) (hw:w'.heap[ph.r b.id]?=some (.cells (cs.map (ai.af ae ph)).toArray b.ty (0,0))) :
   du=[]/\Step w0 ae ae ph ph st a8 (a.put dst undef) w w' (some (ph.r b.id)):=by
 unfold setCells at hs;split at hs
 . rename_i iW;simp only[ah,aA]at hs;obtain⟨rfl,rfl⟩:=hs;have hB:=(h.mem.nJ b hb).1;have mem_set:∀y∈(yI st {b with cells:=cs}).aY,(y = {b with cells:=cs})\/(y∈st.aY/\y.id≠b.id):=by
     intro y hy;simp only[yI,jO]at hy;obtain⟨x,hx,rfl⟩:=hy;split;exact .inl rfl;rename_i cV;exact .inr ⟨hx,cV⟩
   refine⟨rfl,⟨?_,?_,h.below.grown hg h.below.size (fun k hk=>by cases hk;exact hB),by rw[cS];exact h.defers,?_,?_⟩,cQ,hg,fun k hk=>by rw[cL];exact hk,fun y hy=>?_⟩
   rotate_right
   rw[cc]at hy;rcases mem_set y hy with rfl|⟨hy,_⟩;exact .inl ⟨b,hb,rfl⟩;exact .inl ⟨y,hy,rfl⟩;exact nU (st:=yI st {b with cells:=cs}) h.tmps nV.symm;rw[cc,dq];refine⟨fun y hy=>?_,fun y hy y' Vq cV=>?_,fun r hr h1=>?_,fun y hy r hr h1=>?_,h.mem.rr⟩;rcases mem_set y hy with rfl|⟨hy,cV⟩;exact⟨hB,hw⟩;exact(h.mem.nJ y hy).grown hg (fun e=>by
     simp only[ah]at e;exact h.mem.bb y hy b hb cV e)
   rcases mem_set y hy with rfl|⟨hy,ade⟩<;>rcases mem_set y' Vq with rfl|⟨Vq,PJ⟩;exact absurd rfl cV;exact h.mem.bb b hb y' Vq cV;exact h.mem.bb y hy b hb cV;exact h.mem.bb y hy y' Vq cV;exact(h.mem.row r hr h1).grown hg (fun k hk e=>by
     simp only[ah]at e;subst e;exact h.mem.br b hb r hr h1 hk)
   rcases mem_set y hy with rfl|⟨hy,_⟩;exact h.mem.br b hb r hr h1;exact h.mem.br y hy r hr h1;refine⟨gQ (st:=yI st {b with cells:=cs}) h.names.tmps nW,?_,?_⟩;rw[cc,cL];intro y hy;rcases mem_set y hy with rfl|⟨hy,_⟩;have:=h.names.aY b hb;simp only[iQ.all,ao]at this ⊢;exact⟨this.1,iW⟩;exact h.names.aY y hy;rw[dq,cL];exact h.names.rows
   . refine dy.put (st:=yI st {b with cells:=cs}) (h.nest.next cQ rfl (fun _ h=>h) hg (fun k hk=>?_) rfl (fun y hy=>?_) (fun r hr h1 k hk=>.inl ⟨r,hr,id,h1,hk⟩));simp only[ah]at hk;subst hk;exact⟨h.nest.bz b hb,fun n hn ho e=>((h.nest.oz n hn ho).2 _ e).2.1 b hb rfl⟩;rcases mem_set y hy with rfl|⟨hy,_⟩;exact .inl ⟨b,hb,rfl⟩;exact .inl ⟨y,hy,rfl⟩
 cases hs
theorem tt(r:List Int)(j j':Nat)(x:Int):(lV r j x).getD j' 0=if j'=j then x else r.getD j' 0:=by
 unfold lV;split;rename_i h;by_cases e:j'=j;subst e;simp[List.getD,h];have e':j≠j':=fun h=>e h.symm;simp[List.getD,List.getElem?_set,e,e'];rename_i h;by_cases e:j'=j;subst e;simp only[if_true,List.getD];rw[s8 (by omega),s8 (by simp)];simp;simp only[e,if_false,List.getD];by_cases h1:j'<r.length;rw[qw h1];rw[s8 (by omega)];by_cases h2:j'<j;rw[qw (by simp;omega)];simp[Ha,th (Nat.le_of_not_lt h1)];split<;>rfl;rw[s8 (by simp;omega)];rw[th (by simp;omega),th (Nat.le_of_not_lt h1)]
theorem Ak(ks:List CK):∀(j0 j:Nat) (r:List Int) (x:Int) (k:CK),ks[j]?=some k->bS ks j0 (lV r (j0+j) x)=(bS ks j0 r).set j (k.val x):=by
 intro j0 j r x k hk;apply List.ext_getElem?;intro j';rw[jk,List.getElem?_set,cJ];have hj:j<ks.length:=(dh.1 hk).1;by_cases e:j=j';subst e;rw[hk];simp only[tn,tt,if_true,hj];simp only[e,if_false];rw[jk];cases h:ks[j']? with
 |none=>rfl
 | some k'=>
   simp only[tn,tt];rw[if_neg (by omega)]
theorem tu(ks:List CK):∀(xs:List (List Int)) (i j:Nat) (x:Int) (k:CK),i<xs.length->ks[j]?=some k->
   aF ks (setAt xs (i:Int) j x)=(aF ks xs).set (i*ks.length+j) (k.val x):=by
 intro xs;induction xs with
 |nil=>intro i j x k hi;simp at hi
 | cons r rs ih=>
   intro i j x k hi hk;have hj:j<ks.length:=(dh.1 hk).1;cases i with
   | zero=>
     simp only[setAt,xm,List.modify_zero_cons,aF,Nat.zero_mul,gK];have:=Ak ks 0 j r x k hk;rw[gK]at this;rw[this,List.set_append_left _ _ (by rw[cJ];exact hj)]
   | succ i=>
     have Yq:=ih i j x k (by simpa using hi) hk;simp only[setAt,xm]at Yq ⊢;simp only[List.modify_succ_cons,aF,Yq];have e:(i+1)*ks.length+j=(bS ks 0 r).length+(i*ks.length+j):=by rw[cJ,lR];omega
     rw[e,List.set_append_right _ _ (by omega)];simp
theorem xp(xs:List (List Int))(i:Int)(j:Nat)(x:Int):(setAt xs i j x).length=xs.length:=by simp[setAt]
theorem E3{a:Act}{key:Nat}{nr:Row}{xs:List (List Int)}{rows:List Row}{row:Option Nat}{aQ:Ph}{s:aV}{v:Value}
   (h:Sat w0 ae ph st a w) (Al:nr.lv=key) (s6:nr.g.all st.has=true) (ZO:nr.g.af ae=true) (aX:st.free key 1=true) (fv:∀r∈rows,r∈st.rows) (hg:w.grownBy w' row)
   (bl:∀k,row=some k->w0.heap.size<=k/\¬ ph.z k/\∀n∈st.a7,n.own=true->(ph.val n.id).ownBlock≠some k)
   (bM:bA st.has ae (ae.set key (.l xs)) ph aQ) (hz:aQ.z=ph.z) (agh:(st.bC key 1).has nr.id=true)
   (lF:∀b∈st.aY,row≠some (ph.r b.id)) (hO:∀r∈rows,r.g.af ae=true->∀k,r.b9 ae ph=some k->row≠some k)
   (jU:gH w0.heap.size (ae.set key (.l xs)) aQ nr w') (jo:∀k,nr.b9 (ae.set key (.l xs)) aQ=some k->row=some k\/w.heap.size<=k)
   (hsa:s.all (st.bC key 1).has=true) (hv:v=s.af (ae.set key (.l xs)) aQ) :
   Step w0 ae (ae.set key (.l xs)) ph aQ st ({st.bC key 1 with rows:=dz nr rows}.put dst s) (a.put dst v) w w' row:=by
 have wb:st.has key=false:=df aX (fz _) (by omega);have j4:=h.congr bM hz;have bQ:∀k,st.has k=true->(st.bC key 1).has k=true:=fun k hk=>gP hk;have mJ:=fun(q:Row) (hq:q∈st.rows)=>by
   have:=h.names.rows q hq;simpa only[Row.all,ao]using this
 have fg:∀r∈st.rows,r.b9 (ae.set key (.l xs)) aQ=r.b9 ae ph:=fun r hr=>by
   unfold Row.b9;rw[<- bM.e _ (mJ r hr).2.1];simp only[Ph.val,bM.v _ (mJ r hr).1]
 have pg:∀r∈st.rows,r.g.af (ae.set key (.l xs))=r.g.af ae:=fun r hr=>(BE.aq bM.e (mJ r hr).2.2).symm;have sS:∀b∈st.aY,aQ.r b.id=ph.r b.id:=fun b hb=>by
   have:=h.names.aY b hb;simp only[iQ.all,ao]at this;exact(bM.r _ this.1).symm
 have Ba:∀k,nr.b9 (ae.set key (.l xs)) aQ=some k->(∀b∈st.aY,ph.r b.id≠k)/\(∀r∈rows,r.g.af ae=true->r.b9 ae ph≠some k):=by
   intro k hk;rcases jo k hk with e|e;exact⟨fun b hb he=>lF b hb (by rw[e,he]),fun r hr h1 hf=>hO r hr h1 k hf e⟩;refine⟨fun b hb he=>?_,fun r hr h1 hf=>?_⟩;have:=(h.mem.nJ b hb).lt;omega;have:=(h.mem.row r (fv r hr) h1).uK hf;omega
 refine⟨⟨?_,?_,h.below.grown hg h.below.size (fun k hk=>(bl k hk).1),by rw[cS];exact h.defers,?_,?_⟩,bM,hg,fun k hk=>by rw[cL];exact bQ k hk,fun b hb=>?_⟩;exact nU (st:={st.bC key 1 with rows:=dz nr rows}) j4.tmps hv;rw[cc,dq];refine⟨fun b hb=>(j4.mem.nJ b hb).grown hg (fun e=>lF b hb (by rw[<- e,sS b hb])),j4.mem.bb,fun r hr h1=>?_,fun b hb r hr h1=>?_,fun r hr r' cY lW ho h1 h2=>?_⟩;rcases dI.1 hr with rfl|hr;exact jU;have eo:=fv r hr;rw[pg r eo]at h1;exact(j4.mem.row r eo (by rw[pg r eo];exact h1)).grown hg (fun k hk e=>by
   rw[fg r eo]at hk;exact hO r hr h1 k hk e.symm)
 rcases dI.1 hr with rfl|hr;intro hk;rw[sS b hb]at hk;exact(Ba _ hk).1 b hb rfl;exact j4.mem.br b hb r (fv r hr) h1;rcases dI.1 hr with e1|q<;>rcases dI.1 cY with e2|q';exact absurd (by rw[e1,e2]) lW;intro k hk dr;rw[e1]at hk;rw[fg r' (fv r' q')]at dr;rw[pg r' (fv r' q')]at h2;exact(Ba k hk).2 r' q' h2 dr;intro k hk dr;rw[e2]at dr;rw[fg r (fv r q)]at hk;rw[pg r (fv r q)]at h1;exact(Ba k dr).2 r q h1 hk;exact j4.mem.rr r (fv r q) r' (fv r' q') lW ho h1 h2;refine⟨?_,?_,?_⟩;exact gQ (st:={st.bC key 1 with rows:=dz nr rows}) (fun t s ht=>aV.aG bQ (h.names.tmps t s ht)) hsa;rw[cc,cL];exact fun b hb=>iQ.aG bQ (h.names.aY b hb);rw[dq,cL];intro r hr;rcases dI.1 hr with rfl|hr;simp only[Row.all,ao];have:(st.bC key 1).has key=true:=jn (fz _) (by omega);exact⟨agh,by rw[Al];exact this,BE.aG bQ s6⟩;exact Row.aG bQ (h.names.rows r (fv r hr))
 . refine dy.put (st:={st.bC key 1 with rows:=dz nr rows}) (h.nest.next bM hz bQ hg (fun k hk=>(bl k hk).2) rfl (fun b hb=>.inl ⟨b,hb,sS b hb⟩) (fun r hr h1 k hk=>?_));rcases dI.1 hr with rfl|hr;rcases jo k hk with e|e;exact .inr (.inr (.inl e));exact .inr (.inl e);have eo:=fv r hr;exact .inl ⟨r,eo,id,by rw[<- pg r eo];exact h1,by rw[<- fg r eo];exact hk⟩
 rw[cc]at hb;exact .inl ⟨b,hb,rfl⟩
theorem lX{a:Act}{key:Nat}{xs:List (List Int)}{rows:List Row}{sl:Option Addr×Nat×Nat}{row:Option Nat}
   (h:Sat w0 ae ph st a w) (s6:G.all st.has=true) (ZO:G.af ae=true) (aX:st.free key 1=true) (nL:0<ks.length) (fv:∀r∈rows,r∈st.rows) (hg:w.grownBy w' row)
   (bl:∀k,row=some k->w0.heap.size<=k/\¬ ph.z k/\∀n∈st.a7,n.own=true->(ph.val n.id).ownBlock≠some k)
   (lF:∀b∈st.aY,row≠some (ph.r b.id)) (hO:∀r∈rows,r.g.af ae=true->∀k,r.b9 ae ph=some k->row≠some k)
   (bN:w'.ownsRow w0.heap.size e ks.length (.slice sl.1 sl.2.1 sl.2.2) xs.length (aF ks xs)) (jo:(Value.slice sl.1 sl.2.1 sl.2.2).ownBlock=row\/(Value.slice sl.1 sl.2.1 sl.2.2).ownBlock=some w.heap.size\/(Value.slice sl.1 sl.2.1 sl.2.2).ownBlock=none) :
   Step w0 ae (ae.set key (.l xs)) ph (ph.xq key sl) st ({st.bC key 1 with rows:=dz ⟨key,e,ks,key,true,G⟩ rows}.put dst ⟨G,.v (.one (.s key))⟩)
     (a.put dst (.slice sl.1 sl.2.1 sl.2.2)) w w' row:=by
 have wb:st.has key=false:=df aX (fz _) (by omega);have cV:∀k,st.has k=true->k≠key:=fun k hk e=>by rw[e,wb]at hk;cases hk
 have bM:bA st.has ae (ae.set key (.l xs)) ph (ph.xq key sl):=⟨fun k hk=>by simp[aH.set,cV k hk],fun _ _=>rfl,fun k hk=>by simp[Ph.xq,cV k hk]⟩;have gm:(ph.xq key sl).val key = .slice sl.1 sl.2.1 sl.2.2:=by simp[Ph.val,Ph.xq]
 have zG:(st.bC key 1).has key=true:=jn (fz _) (by omega);refine E3 (nr:=⟨key,e,ks,key,true,G⟩) h rfl s6 ZO aX fv hg bl bM rfl zG lF hO ⟨nL,?_⟩ (fun k hk=>?_) ?_ ?_;simp only[if_true,gm,aH.set,DV.list];exact bN;simp only[Row.b9,Bool.true_or,if_true,gm]at hk;rcases jo with e|e|e;exact .inl (by rw[<- e,hk]);rw[hk]at e;simp only[ah]at e;exact .inr (by omega);rw[hk]at e;cases e;simp only[aV.all,SV.all,V1.all,ai.all,ao];exact⟨BE.aG (fun k hk=>gP hk) s6,zG⟩;have agi:G.af (ae.set key (.l xs))=true:=by rw[<- BE.aq bM.e s6];exact ZO
 simp[aV.af,agi,SV.af,V1.af,ai.af,gm]
theorem M4{a:Act}{key:Nat}{xs:List (List Int)}
   (h:Sat w0 ae ph st a w) (s6:G.all st.has=true) (hGf:G.af ae=false) (aX:st.free key 1=true) :
   Step w0 ae (ae.set key (.l xs)) ph ph st ({st.bC key 1 with rows:=dz ⟨key,e,ks,key,true,G⟩ st.rows}.put dst ⟨G,.v (.one (.s key))⟩) (a.put dst undef) w w none:=by
 have wb:st.has key=false:=df aX (fz _) (by omega);have cV:∀k,st.has k=true->k≠key:=fun k hk e=>by rw[e,wb]at hk;cases hk
 have bM:bA st.has ae (ae.set key (.l xs)) ph ph:=⟨fun k hk=>by simp[aH.set,cV k hk],fun _ _=>rfl,fun k hk=>rfl⟩;have j4:=h.congr bM;have bQ:∀k,st.has k=true->(st.bC key 1).has k=true:=fun k hk=>gP hk;have I1:G.af (ae.set key (.l xs))=false:=by rw[<- BE.aq bM.e s6];exact hGf
 have jo:(st.bC key 1).has key=true:=jn (fz _) (by omega);refine⟨⟨?_,?_,h.below,by rw[cS];exact h.defers,?_,?_⟩,bM,cw w,fun k hk=>by rw[cL];exact bQ k hk,fun b hb=>.inl ⟨b,by rw[cc]at hb;exact hb,rfl⟩⟩;refine nU (st:={st.bC key 1 with rows:=dz ⟨key,e,ks,key,true,G⟩ st.rows}) j4.tmps ?_;simp only[aV.af,I1];rfl;rw[cc,dq];have hk:=j4.mem;have ho:∀r∈dz ⟨key,e,ks,key,true,G⟩ st.rows,r.g.af (ae.set key (.l xs))=true->r∈st.rows:=fun r hr h1=>by
   rcases dI.1 hr with rfl|hr;rw[I1]at h1;cases h1;exact hr
 exact⟨hk.nJ,hk.bb,fun r hr h1=>hk.row r (ho r hr h1) h1,fun b hb r hr h1=>hk.br b hb r (ho r hr h1) h1,fun r hr r' cY cV hw h1 h2=>hk.rr r (ho r hr h1) r' (ho r' cY h2) cV hw h1 h2⟩;refine⟨?_,?_,?_⟩;refine gQ (st:={st.bC key 1 with rows:=dz ⟨key,e,ks,key,true,G⟩ st.rows}) (fun t s ht=>aV.aG bQ (h.names.tmps t s ht)) ?_;simp only[aV.all,SV.all,V1.all,ai.all,ao];exact⟨BE.aG bQ s6,jo⟩;rw[cc,cL];exact fun b hb=>iQ.aG bQ (h.names.aY b hb);rw[dq,cL];intro r hr;rcases dI.1 hr with rfl|hr;simp only[Row.all,ao];exact⟨jo,jo,BE.aG bQ s6⟩;exact Row.aG bQ (h.names.rows r hr)
 . refine dy.put (st:={st.bC key 1 with rows:=dz ⟨key,e,ks,key,true,G⟩ st.rows}) (j4.nest.next (cQ (p:=st.has)) rfl bQ (cw w) (fun k hk=>by cases hk) rfl (fun b hb=>.inl ⟨b,hb,rfl⟩) (fun r hr h1 k hk=>?_));rcases dI.1 hr with rfl|hr;rw[I1]at h1;cases h1;exact .inl ⟨r,hr,id,h1,hk⟩
end
section
open Go.RowKit
variable {ae:aH}{ph:Ph}{P:Program}
variable{k:aH->Prop}{st:St}{w w0:World}{l:ai}{o:Oper}{sz:Nat}{t:TypeId}{v:V1}{x y:Operand}{j:Nat}{z:IE}{n:Nat}{a8:St}{du:List Ev}{es:List (Sum IE BE)}{ks:List CK}{mR:List (List Int)}{w':World}
def DV.kind:CT->DV->Bool
 |.c (.i _),.i _=>true
 |.c .b,.b _=>true
 |.c .f,.i _=>true
 |.s _ _,.l _=>true
 |.n _ _,.l _=>true
 |_,_=>false
def kinds:List CT->List DV->Bool
 | [],[]=>true
 |c::cs,d::ds=>d.kind c&&kinds cs ds
 |_,_=>false
structure dJ where
 sig:bW
 pre:List DV->Prop
 rel:List DV->List DV->Prop
 ne:∀ds,pre ds->∃rs,kinds (bL sig.res) rs=true/\rel ds rs
structure bX where
 get:FuncId->Option dJ
 fl:Int->Prop
variable{Γ:bX}
instance :CoeFun bX (fun _=>FuncId->Option dJ):=⟨bX.get⟩
def bX.at(Γ:bX)(fl:Int->Prop):bX:=⟨Γ.get,fl⟩
def defs:List CT->List DV
 | []=>[]
 |.c (.i _)::cs=>.i 0::defs cs
 |.c .b::cs=>.b false::defs cs
 |.c .f::cs=>.i 0::defs cs
 |.s _ _::cs=>.l []::defs cs
 |.n _ _::cs=>.l []::defs cs
theorem iZ:∀cs:List CT,kinds cs (defs cs)=true/\(defs cs).length=cs.length:=by
 intro cs;induction cs with
 |nil=>exact⟨rfl,rfl⟩
 | cons c cs ih=>
   cases c with
   |c k=>cases k<;>simp[defs,kinds,DV.kind,ih]
   |s e ks=>simp[defs,kinds,DV.kind,ih]
   |n e aO=>simp[defs,kinds,DV.kind,ih]
def Ev.holds(Γ:bX)(e:Ev)(k:aH->Prop)(ae:aH):Prop:=
 match e with
 |.aL p=>p.af ae=true/\k ae
 |.call f g args res base=>(g.af ae=true->∃c,Γ f=some c/\c.pre (args.map (DE.af ae))/\
     ∀rs,kinds (bL res) rs=true->c.rel (args.map (DE.af ae)) rs->k (ae.aB base rs))/\(g.af ae=false->k (ae.aB base (defs (bL res))))
 |.cH id op=>k (ae.set id (.l (op.af ae)))
 |.dB p e=>(p.af ae=true->k ae)/\(p.af ae=false->Γ.fl (e.af ae))
theorem Ev.j6{e:Ev}{k':aH->Prop}{ae:aH}(hk:∀ae,k ae->k' ae)(h:e.holds Γ k ae):e.holds Γ k' ae:=by
 cases e with
 |aL p=>exact⟨h.1,hk _ h.2⟩
 | call f g args res base=>
   refine⟨fun hg=>?_,fun hg=>hk _ (h.2 hg)⟩;obtain⟨c,h1,h2,h3⟩:=h.1 hg;exact⟨c,h1,h2,fun rs a b=>hk _ (h3 rs a b)⟩
 |cH id op=>exact hk _ h
 |dB p e=>exact⟨fun hp=>hk _ (h.1 hp),h.2⟩
def aT(Γ:bX):List Ev->(aH->Prop)->aH->Prop
 | [],k,ae=>k ae
 |e::es,k,ae=>e.holds Γ (aT Γ es k) ae
theorem fS:∀ {es Vr:List Ev} {ae:aH},aT Γ (es++Vr) k ae=aT Γ es (aT Γ Vr k) ae:=by
 intro es;induction es with
 |nil=>intro Vr ae;rfl
 | cons e es ih=>
   intro Vr ae;have:aT Γ (es++Vr) k=aT Γ es (aT Γ Vr k):=funext fun _=>ih;simp only[ta,aT,this]
def vG(ph:Ph):ai->Option Nat
 |.p id _=>some (ph.r id)
 |.pi id _ _ _ _=>some (ph.r id)
 |.ep row _ _ _=>(ph.val row).ownBlock
 |_=>none
def sT(st:St)(ph:Ph):Op->Option Nat
 |.store _ a _=>(bB st (.c true) a).bind (vG ph)
 | .call {callee:=.builtin .append,args,..}=>match args.toList with
   | x::_=>match bB st (.c true) x with
     |some (.s row)=>(ph.val row).ownBlock
     |_=>none
   | []=>none
 | .call {callee:=.builtin .copy,args,..}=>match args.toList with
   | x::_=>match bB st (.c true) x with
     |some (.s row)=>(ph.val row).ownBlock
     |_=>none
   | []=>none
 | .call {callee:=.builtin .clear,args,..}=>match args.toList with
   | x::_=>match bB st (.c true) x with
     |some (.s row)=>(ph.val row).ownBlock
     |_=>none
   | []=>none
 |_=>none
def qG(o:Oper)(a a':Act):Next->Prop
 |.value v=>a'=a.put o.dst v
 |.skip=>a'=a.put o.dst undef
 |_=>False
def oT(Γ:bX)(P:Program)(w0:World)(ae:aH)(ph:Ph)(st a8:St)(o:Oper)(a:Act)(w:World)(k:aH->Prop):Prop:=
 ∃nx w' a' ak aQ,(execOp a.eval o).run P w = .ok nx w'/\qG o a a' nx/\Step w0 ae ak ph aQ st a8 a' w w' (sT st ph o.op)/\k ak
theorem Hb{cells:List ai}{o:Nat}{m:ai}(hc:cells[o]?=some l)(h:m.af ae ph=l.af ae ph):(cells.set o m).map (ai.af ae ph)=cells.map (ai.af ae ph):=by
 rw[List.map_set,h];apply List.ext_getElem?;intro q;rw[List.getElem?_set];split;rename_i hm;subst hm;obtain⟨Jb,I2⟩:=dh.1 hc;simp[Jb,I2];rfl
theorem zH{x:IE}{o:Nat}{cells r:List ai}(h:rK x l sz cells o j (n+1)=some r):∃c m,cells[o]?=some c/\rK x l sz (cells.set o m) (o+sz) (j+1) n=some r/\
   (x.af ae=(j:Int)->m.af ae ph=l.af ae ph)/\(x.af ae≠(j:Int)->m.af ae ph=c.af ae ph):=by
 simp only[rK]at h;split at h;rename_i k a k' b hc;split at h;rename_i hk;subst hk;exact⟨_,_,hc,h,fun e=>by simp[ai.af,IE.af,e],fun e=>by simp[ai.af,IE.af,e]⟩;cases h;rename_i p q hc;exact⟨_,_,hc,h,fun e=>by simp[ai.af,BE.af,IE.af,e],fun e=>by simp[ai.af,BE.af,IE.af,e]⟩;cases h
theorem Hc{x:IE}:∀ {n j:Nat} {cells r:List ai} {o:Nat},rK x l sz cells o j n=some r->x.af ae<(j:Int)->r.length=cells.length/\r.map (ai.af ae ph)=cells.map (ai.af ae ph):=by
 intro n;induction n with
 |zero=>intro j cells r o h _;simp only[rK,ah]at h;subst h;exact⟨rfl,rfl⟩
 | succ n ih=>
   intro j cells r o h cu;obtain⟨c,m,hc,h',_,h2⟩:=zH (ae:=ae) (ph:=ph) h;obtain⟨e1,e2⟩:=ih h' (by omega);exact⟨by simpa using e1,by rw[e2,Hb hc (h2 (by omega))]⟩
theorem Hd{x:IE}:∀ {n j:Nat} {cells r:List ai} {o:Nat},rK x l sz cells o j n=some r->∀i:Nat,x.af ae=((j+i:Nat):Int)->i<n->
   r.length=cells.length/\o+i*sz<cells.length/\r.map (ai.af ae ph)=(cells.map (ai.af ae ph)).set (o+i*sz) (l.af ae ph):=by
 intro n;induction n with
 |zero=>intro j cells r o _ i _ hi;omega
 | succ n ih=>
   intro j cells r o h i hx hi;obtain⟨c,m,hc,h',h1,h2⟩:=zH (ae:=ae) (ph:=ph) h;have cu:o<cells.length:=(dh.1 hc).1;cases i with
   | zero=>
     simp only[iM]at hx;obtain⟨e1,e2⟩:=Hc (ae:=ae) (ph:=ph) h' (by omega);refine⟨by simpa using e1,by simpa using cu,?_⟩;rw[e2,List.map_set,h1 hx];simp
   | succ i=>
     obtain⟨e1,e2,e3⟩:=ih h' i (by rw[hx];congr 1;omega) (by omega);have hs:o+(i+1)*sz=o+sz+i*sz:=by rw[lR];omega
     refine⟨by simpa using e1,by simpa[hs]using e2,?_⟩;rw[e3,hs,Hb hc (h2 (by omega))]
theorem C7{cells PK:List ai}(h:cells.map (ai.af ae ph)=PK.map (ai.af ae ph))(off:Nat)(ls:List ai):(iY cells off ls).map (ai.af ae ph)=(iY PK off ls).map (ai.af ae ph):=by
 rw[na,na,h]
theorem E4{x:IE}{i:Nat}(hx:x.af ae=(i:Int))(hi:i<n):∀ {ls cells r:List ai} {off:Nat},xr x sz n cells off ls=some r->
   r.length=cells.length/\(0<ls.length->off+i*sz+ls.length<=cells.length)/\r.map (ai.af ae ph)=(iY cells (off+i*sz) ls).map (ai.af ae ph):=by
 intro ls;induction ls with
 |nil=>intro cells r off h;simp only[xr,ah]at h;subst h;exact⟨rfl,fun h=>by simp at h,rfl⟩
 | cons l ls ih=>
   intro cells r off h;simp only[xr]at h;split at h;rename_i cs iW;obtain⟨e1,e2,e3⟩:=Hd (ae:=ae) (ph:=ph) iW i (by rw[hx];simp) hi;obtain⟨f1,f2,f3⟩:=ih h;refine⟨by rw[f1,e1],fun _=>?_,?_⟩;rcases Nat.eq_zero_or_pos ls.length with h0|h0;simp only[qe,h0];omega;have:=f2 h0;simp only[qe];omega;rw[f3];simp only[iY];rw[show off+1+i*sz=off+i*sz+1 by omega];exact C7 (by rw[e3,List.map_set]) _ _;cases h
theorem jE{p:BE}{es:List Ev}(h:aT Γ (.aL p::es) k ae):p.af ae=true/\aT Γ es k ae:=h
theorem cn:(BE.c true).af ae=true:=rfl
theorem nM{B:Nat}{a:Act}(hs:Sat w0 ae ph st a w){r:Row}(bq:r∈st.rows)(bN:r.own=true)(mb:r.g.af ae=true){k:Nat}(hk:(ph.val r.id).ownBlock=some k) :
   (w0.heap.size<=k/\¬ ph.z k/\∀n∈st.a7,n.own=true->(ph.val n.id).ownBlock≠some k)/\(∀b∈st.aY,some k≠some (ph.r b.id))/\∀q∈st.rows,q.id≠r.id->q.g.af ae=true->∀k',q.b9 ae ph=some k'->some k≠some k':=by
 have fg:r.b9 ae ph=some k:=by simp[Row.b9,bN,hk]
 have bl:=hs.mem.row r bq mb;have dj:=bl.2;rw[if_pos bN]at dj;refine⟨⟨(dj.lt k hk).1,hs.nest.rz r bq bN mb k fg,fun n hn ho e=>((hs.nest.oz n hn ho).2 _ e).2.2.1 r bq mb fg⟩,fun b hb e=>?_,fun q hq cV PL k' dr e=>?_⟩;simp only[ah]at e;exact hs.mem.br b hb r bq mb (by rw[fg,e]);simp only[ah]at e;subst e;exact hs.mem.rr r bq q hq (fun e=>cV e.symm) bN mb PL k fg dr
theorem tv{a:Act}{dst:Option Tmp}{key:Nat}{r:Row}{s:aV}{v:Value}(hs:Sat w0 ae ph st a w)(bq:r∈st.rows)(bN:r.own=true)(mb:r.g.af ae=true)
   (aX:st.free key 1=true) (jo:w'.ownsRow w0.heap.size r.e r.ks.length (ph.val r.id) mR.length (aF r.ks mR)) (iG:w.grownBy w' (ph.val r.id).ownBlock)
   (hsa:s.all (st.bC key 1).has=true) (hv:v=s.af (ae.set key (.l mR)) ph) :
   Step w0 ae (ae.set key (.l mR)) ph ph st ({st.bC key 1 with rows:=dz {r with lv:=key} (st.rows.filter fun z=>decide (z.id≠r.id)) }.put dst s) (a.put dst v) w w' (ph.val r.id).ownBlock:=by
 have wb:st.has key=false:=df aX (fz _) (by omega);have cV:∀k,st.has k=true->k≠key:=fun k hk e=>by rw[e,wb]at hk;cases hk
 have bM:bA st.has ae (ae.set key (.l mR)) ph ph:=⟨fun k hk=>by simp[aH.set,cV k hk],fun _ _=>rfl,fun _ _=>rfl⟩;have hn:=hs.names.rows r bq;simp only[Row.all,ao]at hn;have tw:∀q∈st.rows.filter (fun z=>decide (z.id≠r.id)),q∈st.rows/\q.id≠r.id:=fun q hq=>by
   have:=jq.1 hq;exact⟨this.1,by simpa using this.2⟩
 refine E3 (nr:={r with lv:=key}) hs rfl hn.2.2 mb aX (fun q hq=>(tw q hq).1) iG (fun k hk=>(nM (B:=0) hs bq bN mb hk).1) bM rfl (gP hn.1)
   (fun b hb e=>(nM (B:=0) hs bq bN mb e).2.1 b hb rfl) (fun q hq PL k hk e=>(nM (B:=0) hs bq bN mb e).2.2 q (tw q hq).1 (tw q hq).2 PL k hk rfl)
   ⟨(hs.mem.row r bq mb).1,?_⟩ (fun k hk=>.inl ?_) hsa hv
 rw[if_pos bN];simp only[aH.set,if_true,DV.list];exact jo;simpa[Row.b9,bN]using hk
theorem tz{a:Act}{key:Nat}{r:Row}{g cap:Nat}{op:dw}(hs:Sat w0 ae ph st a w)(ho:o.op = .store t x y)
   (hl:bB st (.c true) x=some (.ep r.id sz z j)) (bq:r∈st.rows) (bN:r.own=true) (mb:r.g.af ae=true)
   (aX:st.free key 1=true) (bl:gH w0.heap.size ae ph r w) (gm:ph.val r.id = .slice (some ⟨g,0,none⟩) (ae r.lv).list.length cap) (hBg:w0.heap.size<=g) (E5:op.af ae=mR) (qz:mR.length=(ae r.lv).list.length)
   (fc:(Instr.storeAt t ((ai.ep r.id sz z j).af ae ph) (v.af ae ph)).run P w = .ok () w') (jo:w'.ownsRow w0.heap.size r.e r.ks.length (.slice (some ⟨g,0,none⟩) (ae r.lv).list.length cap) (ae r.lv).list.length (aF r.ks mR)) (iG:w.grownBy w' (some g))
   (cP:∀w',(Instr.storeAt t ((ai.ep r.id sz z j).af ae ph) (v.af ae ph)).run P w = .ok () w'->(execOp a.eval o).run P w = .ok .skip w') (hk:aT Γ [.cH key op] k ae) :
   oT Γ P w0 ae ph st ({st.bC key 1 with rows:=dz {r with lv:=key} (st.rows.filter fun z=>decide (z.id≠r.id)) }.put o.dst kN) o a w k:=by
 have dr:k (ae.set key (.l mR)):=by rw[<- E5];exact hk
 have PM:(ph.val r.id).ownBlock=some g:=by rw[gm];rfl
 have hW:sT st ph o.op=(ph.val r.id).ownBlock:=by simp[ho,sT,hl,vG]
 refine⟨.skip,_,_,ae.set key (.l mR),ph,cP _ fc,rfl,?_,dr⟩;rw[hW];exact tv hs bq bN mb aX (by rw[gm,qz];exact jo) (by rw[PM];exact iG) nW nV.symm
theorem DY(x:Bool):Value.bool x=CK.b.val (if x=true then 1 else 0):=by cases x<;>rfl
theorem tA:∀ {ks:List CK} {ls:List ai} {xs:List (Sum IE BE)},eV ks ls=some xs->∀(pre:List Int) (j:Nat),pre.length=j->ls.map (ai.af ae ph)=bS ks j (pre++xs.map (b7 ae)):=by
 intro ks;induction ks with
 | nil=>intro ls xs h pre j hj;cases ls with
   |nil=>rfl
   |cons l ls=>simp[eV]at h
 | cons k ks ih=>intro ls xs h pre j hj;cases ls with
   |nil=>simp[eV]at h
   | cons l ls=>
     simp only[eV]at h;split at h;rename_i x mR hx sR;simp only[ah]at h;subst h;have h1:=ih sR (pre++[b7 ae x]) (j+1) (by simp[hj]);simp only[kD,bS];have e1:pre++b7 ae x::mR.map (b7 ae)=(pre++[b7 ae x])++mR.map (b7 ae):=by simp
     rw[e1,<- h1];congr 1;have e2:((pre++[b7 ae x])++mR.map (b7 ae)).getD j 0=b7 ae x:=by
       subst hj;simp[cT]
     rw[e2];unfold nY at hx;split at hx;split at hx;rename_i hk;subst hk;simp only[ah]at hx;subst hx;rfl;cases hx;simp only[ah]at hx;subst hx;rename_i b;exact DY _;cases hx;cases h
theorem pj:∀ {ks:List CK} {ls:List ai} {xs:List (Sum IE BE)},eV ks ls=some xs->ls.length=ks.length/\xs.length=ks.length:=by
 intro ks;induction ks with
 | nil=>intro ls xs h;cases ls with
   |nil=>simp only[eV,ah]at h;subst h;exact⟨rfl,rfl⟩
   |cons l ls=>simp[eV]at h
 | cons k ks ih=>intro ls xs h;cases ls with
   |nil=>simp[eV]at h
   | cons l ls=>
     simp only[eV]at h;split at h;rename_i x mR hx sR;simp only[ah]at h;subst h;obtain⟨h1,h2⟩:=ih sR;exact⟨by simp[h1],by simp[h2]⟩;cases h
theorem rL{kd:CK}{x:Sum IE BE}(h:nY kd l=some x):l.af ae ph=kd.val (b7 ae x):=by
 unfold nY at h;split at h;split at h;rename_i hk;subst hk;simp only[ah]at h;subst h;rfl;cases h;simp only[ah]at h;subst h;exact DY _;cases h
theorem He{a:Act}{key:Nat}{r:Row}{e:Sum IE BE}{kd:CK}{lf:ai}(hs:Sat w0 ae ph st a w)(ho:o.op = .store t x y)
   (hl:bB st (.c true) x=some (.ep r.id sz z j)) (hv:lL st (.c true) y=some v) (I3:v.leaves=[lf]) (hlc:nY kd lf=some e) (hlen:v.leaves.length=P.cellsOf t) (bq:r∈st.rows) (bN:r.own=true) (mb:r.g.af ae=true)
   (wg:r.ks.length=sz) (hkj:r.ks[j]?=some kd) (aX:st.free key 1=true) (h0:0<=z.af ae) (h1:z.af ae<((ae r.lv).list.length:Int))
   (cP:∀w',(Instr.storeAt t ((ai.ep r.id sz z j).af ae ph) (v.af ae ph)).run P w = .ok () w'->(execOp a.eval o).run P w = .ok .skip w') (hk:aT Γ [.cH key (.set r.lv z j e)] k ae) :
   oT Γ P w0 ae ph st ({st.bC key 1 with rows:=dz {r with lv:=key} (st.rows.filter fun z=>decide (z.id≠r.id)) }.put o.dst kN) o a w k:=by
 subst wg;have bl:=hs.mem.row r bq mb;have dj:=bl.2;rw[if_pos bN]at dj;obtain⟨ad,cap,jN,_⟩:=jI bl h0 h1;have gm:ph.val r.id = .slice (some ad) (ae r.lv).list.length cap:=by simp[Ph.val,jN]
 rw[gm]at dj;have had:∃g,ad=⟨g,0,none⟩/\w0.heap.size<=g:=by
   rcases dj.2 with⟨e1,_⟩|⟨g,qB,cur,e1,hg,_⟩;simp at e1;simp only[Value.slice.injEq,ah]at e1;exact⟨g,e1.1,hg⟩
 obtain⟨g,rfl,hBg⟩:=had;have hj:j<r.ks.length:=(dh.1 hkj).1;obtain⟨i,hi⟩:∃i:Nat,z.af ae=(i:Int):=⟨(z.af ae).toNat,by omega⟩;have PN:i<(ae r.lv).list.length:=by omega
 have Ja:i*r.ks.length+j<(ae r.lv).list.length*r.ks.length:=by
   have:(i+1)*r.ks.length<=(ae r.lv).list.length*r.ks.length:=yJ _ (by omega);rw[lR]at this;omega
 have mS:=dj.cellAt (i*r.ks.length+j) Ja;have hfz:=dj.frozenAt (i*r.ks.length+j);obtain⟨jo,iG⟩:=dj.stored (i*r.ks.length+j) (kd.val (b7 ae e));have iW:∃u,w.cell? ⟨g,i*r.ks.length+j,none⟩=some u:=by
   rw[mS];have:i*r.ks.length+j<(aF r.ks (ae r.lv).list).length:=by rw[bT];exact Ja
   exact⟨_,eT this⟩
 obtain⟨u,hu⟩:=iW;have fc:(Instr.storeAt t ((ai.ep r.id r.ks.length z j).af ae ph) (v.af ae ph)).run P w = .ok () (w.setCell ⟨g,i*r.ks.length+j,none⟩ (kd.val (b7 ae e))):=by
   have uP:0<P.cellsOf t:=by rw[<- hlen,I3];simp
   have mE:P.cellsOf t=1:=by rw[<- hlen,I3];rfl
   simp only[Instr.storeAt,ai.af,jN,Instr.sureAddr,eU,fX,eP,storeVar,cm uP,V1.fR,I3];rw[if_neg (by simp[mE])];simp only[kD,rM,rL (ae:=ae) (ph:=ph) hlc,storeCells,eU,hi,xm,iz,iM,jH,gK];rw[run_store P w _ _ _ (CK.pc _ _)];simp[stored,hu,hfz]
 refine tz hs ho hl bq bN mb aX bl gm hBg (mR:=setAt (ae r.lv).list (z.af ae) j (b7 ae e)) rfl (xp ..) fc ?_ iG cP hk;rw[hi,tu r.ks _ i j _ _ PN hkj];exact jo
theorem Bb{ls:List ai}{r:List (Sum IE BE)}(h:eV ks ls=some r):bS ks 0 (r.map (b7 ae))=ls.map (ai.af ae ph):=by
 have:=tA (ae:=ae) (ph:=ph) h [] 0 rfl;simpa using this.symm
theorem uQ:∀(vs cells:List Value) (off k:Nat),off+k+vs.length<=cells.length->
   (vs.zipIdx k).foldl (fun cs (x:Value×Nat)=>cs.set (off+x.2) x.1) cells=cells.take (off+k)++vs++cells.drop (off+k+vs.length):=by
 intro vs;induction vs with
 |nil=>intro cells off k h;simp
 | cons v vs ih=>
   intro cells off k h;simp only[qe]at h;simp only[List.zipIdx_cons,vY];rw[ih _ off (k+1) (by simp;omega)];have e1:(cells.set (off+k) v).take (off+(k+1))=cells.take (off+k)++[v]:=by
     rw[show off+(k+1)=(off+k)+1 by omega,List.take_succ_eq_append_getElem (by simp;omega)];simp[List.take_set_of_le]
   have e2:(cells.set (off+k) v).drop (off+(k+1)+vs.length)=cells.drop (off+k+(vs.length+1)):=by
     rw[List.drop_set_of_lt (by omega)];congr 1;omega
   rw[e1,e2];simp
theorem Am(ks:List CK)(row:List Int):∀(xs:List (List Int)) (i:Nat),i<xs.length->aF ks (xs.modify i (fun _=>row))=(aF ks xs).take (i*ks.length)++(bS ks 0 row++(aF ks xs).drop (i*ks.length+ks.length)):=by
 intro xs;induction xs with
 |nil=>intro i hi;simp at hi
 | cons r rs ih=>
   intro i hi;have hl:=cJ ks 0 r;cases i with
   | zero=>
     simp only[List.modify_zero_cons,aF,Nat.zero_mul,List.take_zero,nc,gK];rw[Jj (by omega),xt (by omega),nc]
   | succ i=>
     simp only[List.modify_succ_cons,aF];rw[ih i (by simpa using hi)];have e:(i+1)*ks.length=ks.length+i*ks.length:=by rw[lR];omega
     rw[e,List.take_append,List.drop_append,hl,show ks.length+i*ks.length-ks.length=i*ks.length by omega,show ks.length+i*ks.length+ks.length-ks.length=i*ks.length+ks.length by omega];rw[oS (l:=bS ks 0 r) (by omega),xt (l:=bS ks 0 r) (by omega)];simp
theorem yK(ks:List CK):∀(j:Nat) (r:List Int),∀u∈bS ks j r,u.oneCell'=true:=by
 induction ks with
 |nil=>intro j r u hu;simp[bS]at hu
 | cons k ks ih=>
   intro j r u hu;simp only[bS,bF]at hu;rcases hu with rfl|hu;exact CK.pc _ _;exact ih _ _ u hu
theorem E6{a:Act}{key:Nat}{r:Row}(hs:Sat w0 ae ph st a w)(ho:o.op = .store t x y)
   (hl:bB st (.c true) x=some (.ep r.id r.ks.length z 0)) (hv:lL st (.c true) y=some v) (I4:v.leaves.map (ai.af ae ph)=bS r.ks 0 (es.map (b7 ae))) (hlen:v.leaves.length=P.cellsOf t) (bq:r∈st.rows) (bN:r.own=true) (mb:r.g.af ae=true)
   (aX:st.free key 1=true) (h0:0<=z.af ae) (h1:z.af ae<((ae r.lv).list.length:Int))
   (cP:∀w',(Instr.storeAt t ((ai.ep r.id r.ks.length z 0).af ae ph) (v.af ae ph)).run P w = .ok () w'->(execOp a.eval o).run P w = .ok .skip w') (hk:aT Γ [.cH key (.C8 r.lv z es)] k ae) :
   oT Γ P w0 ae ph st ({st.bC key 1 with rows:=dz {r with lv:=key} (st.rows.filter fun z=>decide (z.id≠r.id)) }.put o.dst kN) o a w k:=by
 have bl:=hs.mem.row r bq mb;have dj:=bl.2;rw[if_pos bN]at dj;obtain⟨ad,cap,jN,_⟩:=jI bl h0 h1;have gm:ph.val r.id = .slice (some ad) (ae r.lv).list.length cap:=by simp[Ph.val,jN]
 rw[gm]at dj;obtain⟨qz,⟨e1,_⟩|⟨g,qB,cur,e1,hg,hh,vV,M5,iW,tB⟩⟩:=dj;simp at e1;simp only[Value.slice.injEq,ah,true_and]at e1;obtain⟨rfl,rfl⟩:=e1;obtain⟨i,hi⟩:∃i:Nat,z.af ae=(i:Int):=⟨(z.af ae).toNat,by omega⟩;have PN:i<(ae r.lv).list.length:=by omega
 have tC:(bS r.ks 0 (es.map (b7 ae))).length=r.ks.length:=cJ _ _ _;have yL:i*r.ks.length+r.ks.length<=(ae r.lv).list.length*r.ks.length:=by
   have:(i+1)*r.ks.length<=(ae r.lv).list.length*r.ks.length:=yJ _ (by omega);rw[lR]at this;omega
 have wh:(ae r.lv).list.length*r.ks.length<=cap*r.ks.length:=yJ _ vV;have oR:cur.toList.length=cap*r.ks.length:=by simpa using iW
 obtain⟨w',hr,iG,Pb⟩:=kO (P:=P) g r.e (i*r.ks.length) (bS r.ks 0 (es.map (b7 ae))) 0 cur.toList w (by simpa using hh) (by rw[tC,oR];omega) (yK _ _ _);have rN:=uQ (bS r.ks 0 (es.map (b7 ae))) cur.toList (i*r.ks.length) 0 (by rw[tC,oR];omega);simp only[iM]at rN;rw[rN]at Pb;have fc:(Instr.storeAt t ((ai.ep r.id r.ks.length z 0).af ae ph) (v.af ae ph)).run P w = .ok () w':=by
   have hlk:P.cellsOf t=r.ks.length:=by
     have:=congrArg List.length I4;rw[lS,tC]at this;omega
   have uP:0<P.cellsOf t:=by rw[hlk];exact bl.1
   simp only[Instr.storeAt,ai.af,jN,Instr.sureAddr,eU,fX,eP,storeVar,cm uP,V1.fR];rw[if_neg (by simp[hlen]),I4];simp only[hi,xm,iM,jH,gK];exact hr
 refine tz hs ho hl bq bN mb aX bl gm hg (mR:=(ae r.lv).list.modify i (fun _=>es.map (b7 ae))) (by simp only[dw.af,hi,xm]) (by simp) fc ?_ iG cP hk;refine⟨by rw[bT];simp,.inr ⟨g,cap,_,rfl,hg,Pb,vV,M5,?_,?_⟩⟩;simp only[List.size_toArray,ff,vr,List.length_drop,tC,oR];omega;rw[Am r.ks _ _ i PN,<- tB];apply List.ext_getElem?;intro m;simp only[A9,List.getElem?_append,vr,ff,tC,oR,List.getElem?_drop];grind
theorem yM(ks:List CK)(i:Nat):∀(cs:List (Sum IE BE)) (ls:List ai) (xs:List (List Int)) (j:Nat),i<xs.length->j+ls.length<=ks.length->eV ((ks.drop j).take ls.length) ls=some cs->
   aF ks (xs.modify i (fun r=>iR r j (cs.map (b7 ae))))=((ls.map (ai.af ae ph)).zipIdx 0).foldl (fun cur (x:Value×Nat)=>cur.set (i*ks.length+j+x.2) x.1) (aF ks xs):=by
 have gen:∀(cs:List (Sum IE BE)) (ls:List ai) (xs:List (List Int)) (j m:Nat),i<xs.length->j+m+ls.length<=ks.length->eV ((ks.drop (j+m)).take ls.length) ls=some cs->
     aF ks (xs.modify i (fun r=>iR r (j+m) (cs.map (b7 ae))))=((ls.map (ai.af ae ph)).zipIdx m).foldl (fun cur (x:Value×Nat)=>cur.set (i*ks.length+j+x.2) x.1) (aF ks xs):=by
   intro cs;induction cs with
   | nil=>
     intro ls xs j m hi hl h;have:=(pj h).2;have hll:=(pj h).1;have:ls=[]:=C1 (by simp at this;omega);subst this;simp only[rM,iR,List.zipIdx_nil,List.foldl_nil];congr 1;exact List.modify_id ..
   | cons c cs ih=>
     intro ls xs j m hi hl h;cases ls with
     |nil=>simp[eV]at h
     | cons l ls=>
       simp only[qe]at hl h;have hjm:j+m<ks.length:=by omega
       rw[List.drop_eq_getElem_cons hjm,List.take_succ_cons]at h;simp only[eV]at h;split at h;rename_i y ys hy hys;simp only[ah,List.cons.injEq]at h;obtain⟨rfl,rfl⟩:=h;simp only[kD,iR,List.zipIdx_cons,vY];have e:xs.modify i (fun r=>iR (lV r (j+m) (b7 ae y)) (j+m+1) (ys.map (b7 ae)))=(setAt xs (i:Int) (j+m) (b7 ae y)).modify i (fun r=>iR r (j+(m+1)) (ys.map (b7 ae))):=by
         simp only[setAt,xm,List.modify_modify_eq];rfl
       rw[e,ih ls _ j (m+1) (by rw[xp];exact hi) (by omega) hys,tu ks xs i (j+m) _ _ hi (eT hjm),rL (ae:=ae) (ph:=ph) hy,Nat.add_assoc];cases h
 intro cs ls xs j hi hl h;exact gen cs ls xs j 0 hi (by simpa using hl) (by simpa using h)
theorem Bc(f:Nat->Nat)(n:Nat):∀(vs:List (Value×Nat)) (cur:List Value),(vs.foldl (fun cur x=>cur.set (f x.2) x.1) cur).take n=vs.foldl (fun cur x=>cur.set (f x.2) x.1) (cur.take n):=by
 intro vs;induction vs with
 |nil=>intro cur;rfl
 |cons v vs ih=>intro cur;simp only[vY];rw[ih,List.take_set]
theorem C9(f:Nat->Nat):∀(vs:List (Value×Nat)) (cur:List Value),(vs.foldl (fun cur x=>cur.set (f x.2) x.1) cur).length=cur.length:=by
 intro vs;induction vs with
 |nil=>intro cur;rfl
 |cons v vs ih=>intro cur;simp only[vY];rw[ih,List.length_set]
theorem E7{a:Act}{key:Nat}{r:Row}(hs:Sat w0 ae ph st a w)(ho:o.op = .store t x y)
   (hl:bB st (.c true) x=some (.ep r.id r.ks.length z j)) (hv:lL st (.c true) y=some v) (I4:eV ((r.ks.drop j).take v.leaves.length) v.leaves=some es) (hlen:v.leaves.length=P.cellsOf t) (kJ:0<v.leaves.length) (I0:j+v.leaves.length<=r.ks.length) (bq:r∈st.rows) (bN:r.own=true) (mb:r.g.af ae=true)
   (aX:st.free key 1=true) (h0:0<=z.af ae) (h1:z.af ae<((ae r.lv).list.length:Int))
   (cP:∀w',(Instr.storeAt t ((ai.ep r.id r.ks.length z j).af ae ph) (v.af ae ph)).run P w = .ok () w'->(execOp a.eval o).run P w = .ok .skip w') (hk:aT Γ [.cH key (.Da r.lv z j es)] k ae) :
   oT Γ P w0 ae ph st ({st.bC key 1 with rows:=dz {r with lv:=key} (st.rows.filter fun z=>decide (z.id≠r.id)) }.put o.dst kN) o a w k:=by
 have bl:=hs.mem.row r bq mb;have dj:=bl.2;rw[if_pos bN]at dj;obtain⟨ad,cap,jN,_⟩:=jI bl h0 h1;have gm:ph.val r.id = .slice (some ad) (ae r.lv).list.length cap:=by simp[Ph.val,jN]
 rw[gm]at dj;obtain⟨qz,⟨e1,_⟩|⟨g,qB,cur,e1,hg,hh,vV,M5,iW,tB⟩⟩:=dj;simp at e1;simp only[Value.slice.injEq,ah,true_and]at e1;obtain⟨rfl,rfl⟩:=e1;obtain⟨i,hi⟩:∃i:Nat,z.af ae=(i:Int):=⟨(z.af ae).toNat,by omega⟩;have PN:i<(ae r.lv).list.length:=by omega
 have yL:i*r.ks.length+r.ks.length<=(ae r.lv).list.length*r.ks.length:=by
   have:(i+1)*r.ks.length<=(ae r.lv).list.length*r.ks.length:=yJ _ (by omega);rw[lR]at this;omega
 have wh:(ae r.lv).list.length*r.ks.length<=cap*r.ks.length:=yJ _ vV;have oR:cur.toList.length=cap*r.ks.length:=by simpa using iW
 obtain⟨w',hr,iG,Pb⟩:=kO (P:=P) g r.e (i*r.ks.length+j) (v.leaves.map (ai.af ae ph)) 0 cur.toList w (by simpa using hh) (by rw[lS,oR];omega) (fun u hu=>by
   obtain⟨l,_,rfl⟩:=jO.1 hu;exact ai.zC l)
 have fc:(Instr.storeAt t ((ai.ep r.id r.ks.length z j).af ae ph) (v.af ae ph)).run P w = .ok () w':=by
   have uP:0<P.cellsOf t:=by omega
   simp only[Instr.storeAt,ai.af,jN,Instr.sureAddr,eU,fX,eP,storeVar,cm uP,V1.fR];rw[if_neg (by simp[hlen])];simp only[hi,xm,jH,gK];exact hr
 refine tz hs ho hl bq bN mb aX bl gm hg (mR:=(ae r.lv).list.modify i (fun r=>iR r j (es.map (b7 ae)))) (by simp only[dw.af,hi,xm]) (by simp) fc ?_ iG cP hk;refine⟨by rw[bT];simp,.inr ⟨g,cap,_,rfl,hg,Pb,vV,M5,?_,?_⟩⟩;simp only[List.size_toArray];rw[C9 (fun q=>i*r.ks.length+j+q),oR];rw[yM (ae:=ae) (ph:=ph) r.ks i es v.leaves _ j PN I0 I4,<- tB];simp only[EW];exact Bc (fun q=>i*r.ks.length+j+q) _ _ _
theorem Jk{a:Act}{key:Nat}(hs:Sat w0 ae ph st a w)(ho:o.op = .store t x y)
   (hl:bB st (.c true) x=some l) (hv:lL st (.c true) y=some v) (hlen:v.leaves.length=P.cellsOf t) (kJ:0<P.cellsOf t) (h:tD st l v.leaves key o.dst=some (du,a8)) (hk:aT Γ du k ae) :
   oT Γ P w0 ae ph st a8 o a w k:=by
 have ex:=aC hl cn hs.tmps;have ey:=cR hv cn hs.tmps;have cP:∀w',(Instr.storeAt t (l.af ae ph) (v.af ae ph)).run P w = .ok () w'->(execOp a.eval o).run P w = .ok .skip w':=fun w' hr=>by
   simp only[execOp,ho,ex,ey,eU,hr,eP,fX]
 have hW:sT st ph o.op=vG ph l:=by simp[ho,sT,hl]
 unfold tD at h;split at h;rename_i id off;split at h;rename_i b hb;obtain⟨bq,rfl⟩:=eK hb;split at h;rename_i Ja;obtain⟨w',hr,hg,hh⟩:=zF (P:=P) (ae:=ae) (ph:=ph) (t:=t) (off:=off) hlen kJ (hs.mem.nJ b bq).2 Ja;obtain⟨rfl,eX⟩:=xo hs h bq hg hh;exact⟨.skip,w',_,ae,ph,cP w' hr,rfl,by rw[hW];exact eX,hk⟩;cases h;cases h;rename_i id off sz n z;split at h;rename_i b hb;obtain⟨bq,rfl⟩:=eK hb;split at h;rename_i cs iW;split at h;rename_i hn;split at h;rename_i Ao M6 rN;simp only[ah,aA]at h;obtain⟨rfl,rfl⟩:=h;obtain⟨h0,hk⟩:=jE hk;obtain⟨h1,hk⟩:=jE hk;have h0:=cf h0;have h1:=fu h1;simp only[IE.af]at h0 h1;obtain⟨e1,e2,e3⟩:=E4 (ae:=ae) (ph:=ph) (x:=z) (i:=(z.af ae).toNat) (by omega) (by omega) iW;have ZP:=(hs.mem.nJ b bq).2;obtain⟨w',hr,hg,hh⟩:=zF (P:=P) (ae:=ae) (ph:=ph) (t:=t) (off:=off+(z.af ae).toNat*sz) hlen kJ ZP (e2 hn.2.2);have Pb:w'.heap[ph.r b.id]?=some (.cells (cs.map (ai.af ae ph)).toArray b.ty (0,0)):=by
   rw[hh,e3]
 obtain⟨rfl,eX⟩:=xo hs rN bq hg Pb;exact⟨.skip,w',_,ae,ph,cP w' hr,rfl,by rw[hW];exact eX,hk⟩;cases h;cases h;cases h;cases h;rename_i row sz z j;split at h;rename_i r lf hr I3;obtain⟨bq,rfl⟩:=aZ hr;split at h;rename_i kj hkj;split at h;rename_i y' hlc;split at h;rename_i hc;simp only[ao,aM]at hc;obtain⟨⟨⟨bN,oU⟩,wg⟩,aX⟩:=hc;simp only[ah,aA]at h;obtain⟨rfl,rfl⟩:=h;obtain⟨h0,hk⟩:=jE hk;obtain⟨h1,hk⟩:=jE hk;have h0:=cf h0;have h1:=fu h1;simp only[IE.af]at h0 h1;have mb:r.g.af ae=true:=by rw[oU];rfl
 exact He hs ho hl hv I3 hlc hlen bq bN mb wg hkj aX h0 h1 cP hk;cases h;cases h;cases h;rename_i ls r hr cV;split at h;rename_i es I4;obtain⟨bq,rfl⟩:=aZ hr;split at h;rename_i hc;simp only[ao,aM]at hc;obtain⟨⟨⟨⟨⟨bN,oU⟩,wg⟩,hj0⟩,_⟩,aX⟩:=hc;subst hj0 wg;simp only[ah,aA]at h;obtain⟨rfl,rfl⟩:=h;obtain⟨h0,hk⟩:=jE hk;obtain⟨h1,hk⟩:=jE hk;have h0:=cf h0;have h1:=fu h1;simp only[IE.af]at h0 h1;have mb:r.g.af ae=true:=by rw[oU];rfl
 have agj:=Bb (ae:=ae) (ph:=ph) I4;exact E6 hs ho hl hv (by rw[<- agj]) hlen bq bN mb aX h0 h1 cP hk;cases h;split at h;rename_i es I4;obtain⟨bq,rfl⟩:=aZ hr;split at h;rename_i hc;simp only[ao,aM]at hc;obtain⟨⟨⟨⟨⟨bN,oU⟩,wg⟩,I0⟩,Hf⟩,aX⟩:=hc;subst wg;simp only[ah,aA]at h;obtain⟨rfl,rfl⟩:=h;obtain⟨h0,hk⟩:=jE hk;obtain⟨h1,hk⟩:=jE hk;have h0:=cf h0;have h1:=fu h1;simp only[IE.af]at h0 h1;have mb:r.g.af ae=true:=by rw[oU];rfl
 exact E7 hs ho hl hv I4 hlen Hf I0 bq bN mb aX h0 h1 cP hk;cases h;cases h;cases h;cases h
theorem M7(ks:List CK):∀(n i:Nat) (ps:List (Nat×V1)) (rows:List (List (Sum IE BE))) (cells:List Value),pn ks n i ps=some rows->cells.length=(i+n)*ks.length->
   Instr.fill (fun i=>some (i*ks.length,ks.length)) cells.toArray (ps.map fun p=>(p.1,p.2.af ae ph))=some (cells.take (i*ks.length)++aF ks (rows.map fun r=>r.map (b7 ae))).toArray/\rows.length=n:=by
 intro n;induction n with
 | zero=>
   intro i ps rows cells h hl;cases ps with
   | nil=>
     simp only[pn,ah]at h;subst h;refine⟨?_,rfl⟩;simp only[rM,Instr.fill,aF,qH];rw[oS (by rw[hl,iM];exact fz _)]
   |cons p ps=>simp[pn]at h
 | succ n ih=>
   intro i ps rows cells h hl;cases ps with
   |nil=>simp[pn]at h
   | cons p ps=>
     obtain⟨j,v⟩:=p;simp only[pn]at h;split at h;rename_i E8;subst E8;split at h;rename_i r rs hr yN;simp only[ah]at h;subst h;have hlen:=(pj hr).1;have Al:(v.leaves.map (ai.af ae ph)).length=ks.length:=by rw[lS,hlen]
     have wi:(i+(n+1))*ks.length=i*ks.length+ks.length+n*ks.length:=by rw[lR,lR,Nat.one_mul];omega
     simp only[kD,Instr.fill,V1.fR];rw[if_neg (by simp[hlen,hl,wi]<;>omega)];have rN:=uQ (v.leaves.map (ai.af ae ph)) cells (i*ks.length) 0 (by rw[Al,hl,wi];omega);have M8:((v.leaves.map (ai.af ae ph)).toArray.zipIdx.foldl (fun cs (x:Value×Nat)=>cs.setIfInBounds (i*ks.length+x.2) x.1) cells.toArray)=(cells.take (i*ks.length)++v.leaves.map (ai.af ae ph)++cells.drop (i*ks.length+ks.length)).toArray:=by
       apply kM;rw[yD];simp only[EW];rw[rN,Al,iM]
     obtain⟨e1,e2⟩:=ih (i+1) ps rs (cells.take (i*ks.length)++v.leaves.map (ai.af ae ph)++cells.drop (i*ks.length+ks.length)) yN (by
       simp only[ff,vr,List.length_drop,Al,hl,wi];rw[show i+1+n=i+(n+1)by omega,wi];omega)
     refine⟨?_,by simp[e2]⟩;refine(congrArg (fun c=>Instr.fill (fun i=>some (i*ks.length,ks.length)) c (ps.map fun p=>(p.1,p.2.af ae ph))) M8).trans ?_;rw[e1];have bl:=Bb (ae:=ae) (ph:=ph) hr;simp only[aF,bl];congr 2;rw[show(i+1)*ks.length=i*ks.length+ks.length by rw[lR,Nat.one_mul]];rw[Hg (by simp only[ff,vr,Al,hl,wi];omega),oS (by simp only[ff,vr,Al,hl,wi];omega)];simp;cases h;cases h
theorem Ap{a:Act}{parts:Array (Nat×Operand)}{e:TypeId}{ps:List (Nat×V1)}{rows:List (List (Sum IE BE))}{key:Nat}{G:BE}
   (hs:Sat w0 ae ph st a w) (ho:o.op = .buildSlice t n parts) (hu:P.underlying t=some (.slice e)) (hG:G.af ae=true) (GQ:iH st G parts.toList=some ps) (nL:0<ks.length) (hz:((P.info? e).bind (·.zero)).isSome=true)
   (lM:n*ks.length<=16777216) (hc:P.cellsOf e=ks.length) (hO:pn ks n 0 ps=some rows) (h:newRow st G key e ks [] (.lit rows) st.rows o.dst=some (du,a8)) (hk:aT Γ du k ae) :
   oT Γ P w0 ae ph st a8 o a w k:=by
 have Bd:=qa (a:=a) hG hs.tmps GQ;obtain⟨i,hi,z,Pd⟩:∃i,P.info? e=some i/\∃z,i.zero=some z:=by
   cases hi:P.info? e with
   |none=>simp[hi]at hz
   |some i=>simp[hi]at hz;exact⟨i,rfl,A6.1 hz⟩
 have hzr:(zeroValue e).run P w = .ok z w:=by simp[zeroValue,typeInfo,hi,Pd]
 obtain⟨z0,Pe⟩:∃z0:Array Value,z0.size=(0+n)*ks.length/\(Instr.buildSlice t n (parts.map fun(i,x)=>(i,a.eval x))).run P w =
     (match Instr.fill (fun i=>some (i*ks.length,ks.length)) z0 (ps.map fun p=>(p.1,p.2.af ae ph))with
      |some cells=>.ok (.slice (some ⟨w.heap.size,0,none⟩) n n) (w.alloc (.cells cells e))
      |none=>.halt (.stuck "buildSlice: a part of the wrong size") w):=by
   by_cases hn:n*ks.length=0;refine⟨Array.map (fun x=>(#[]:Array Value)[x%(#[]:Array Value).size]!) (Array.range (n*ks.length)),by simp,?_⟩;simp only[Instr.buildSlice,eU,run_underlying hu,eP,cm (P:=P) (w:=w) (t:=e) (by omega),hc];rw[if_neg (by omega),if_pos hn];simp only[eU,fX,eP,Array.toList_map,Bd];generalize Array.map _ (Array.range (n*ks.length))=zz;cases Instr.fill (fun i=>some (i*ks.length,ks.length)) zz (ps.map fun p=>(p.1,p.2.af ae ph))with
   |none=>rfl
   |some cells=>rfl
   refine⟨(Array.range (n*ks.length)).map (z.cells[· % z.cells.size]!),by simp,?_⟩;simp only[Instr.buildSlice,eU,run_underlying hu,eP,cm (P:=P) (w:=w) (t:=e) (by omega),hc];rw[if_neg (by omega),if_neg hn];simp only[eU,hzr,fX,eP,Array.toList_map,Bd];generalize Array.map _ (Array.range (n*ks.length))=zz;cases Instr.fill (fun i=>some (i*ks.length,ks.length)) zz (ps.map fun p=>(p.1,p.2.af ae ph))with
   |none=>rfl
   |some cells=>rfl
 obtain⟨ZQ,cP⟩:=Pe;obtain⟨hf,hrl⟩:=M7 (ae:=ae) (ph:=ph) ks n 0 ps rows z0.toList hO (by simpa using ZQ);simp only[Nat.zero_mul,List.take_zero,nc,Array.toArray_toList]at hf;rw[hf]at cP;obtain⟨xs,sR⟩:∃xs,xs=rows.map fun r=>r.map (b7 ae):=⟨_,rfl⟩;rw[<- sR]at cP;have qz:xs.length=n:=by rw[sR,lS,hrl]
 unfold newRow at h;split at h;rename_i aX;simp only[ao]at aX;obtain⟨aX,s6⟩:=aX;simp only[ah,aA]at h;obtain⟨rfl,rfl⟩:=h;have dr:k (ae.set key (.l xs)):=by rw[sR];exact hk
 have hB:w0.heap.size<=w.heap.size:=hs.below.size;have Yr:=bT ks xs;have iI:n<=maxLen:=by
   have:n<=n*ks.length:=Nat.le_mul_of_pos_right n nL;unfold maxLen;omega
 have bN:(w.alloc (.cells (aF ks xs).toArray e)).ownsRow w0.heap.size e ks.length (.slice (some ⟨w.heap.size,0,none⟩) n n) xs.length (aF ks xs):=by
   refine⟨Yr,.inr ⟨w.heap.size,n,(aF ks xs).toArray,by rw[qz],hB,heap_alloc_new w _,by omega,iI,by simp[Yr,qz],?_⟩⟩;simp only[EW];exact oS (by omega)
 have hW:sT st ph o.op=none:=by simp[ho,sT]
 have eX:=lX (ae:=ae) (ph:=ph) (dst:=o.dst) (sl:=(some ⟨w.heap.size,0,none⟩,n,n)) (row:=none) hs s6 hG aX nL (fun r hr=>hr) (World.grownBy_alloc w (.cells (aF ks xs).toArray e) none) (fun k hk=>by cases hk)
   (fun b _=>by simp) (fun r _ _ k _=>by simp) bN (.inr (.inl rfl))
 refine⟨.value (.slice (some ⟨w.heap.size,0,none⟩) n n),_,_,_,_,?_,rfl,by rw[hW];exact eX,dr⟩;simp only[execOp,ho,eU,cP,eP,fX];cases h
end
section
open Go.RowKit
variable {ae:aH}{ph:Ph}{P:Program}
variable{w:World}{e:TypeId}{k:aH->Prop}{t:TypeId}{Γ:bX}{st:St}{w0:World}{i:IE}{o:Oper}{a8:St}{du:List Ev}{n B:Nat}{G:BE}{ks:List CK}{lv room:Nat}{v:Value}{x:Operand}{base:Option Addr}{c:Operand}{kd':IntKind}{m sz:Nat}{z:V1}
theorem rO{i:TypeInfo}(h:P.info? t=some i):P.cellsOf t=i.size:=by simp[Program.cellsOf,h]
theorem lY{xs:List Value}(h:w.ownsRow B e sz v n xs):∃sl:Option Addr×Nat×Nat,v = .slice sl.1 sl.2.1 sl.2.2:=by
 obtain⟨_,⟨rfl,_⟩|⟨g,cap,cur,rfl,_⟩⟩:=h;exact⟨(none,0,0),rfl⟩;exact⟨(_,_,_),rfl⟩
theorem tE{ty:TypeId}{y:Value}{xs news:List Value}(ht:P.underlying t=some (.slice e))(hr:lZ P e=some room)(wg:P.cellsOf e=sz)
   (bN:w.ownsRow B e sz v n xs) (hy:Reads w y m news) (hl:news.length=m*sz) (h1:∀u∈news,u.oneCell'=true) (lM:n+m<=room) (hB:B<=w.heap.size) :
   ∃(sl:Option Addr×Nat×Nat) (w':World),(Builtin.append_ #[t,t] ty #[v,y]).run P w = .ok (.slice sl.1 sl.2.1 sl.2.2) w'/\w'.ownsRow B e sz (.slice sl.1 sl.2.1 sl.2.2) (n+m) (xs++news)/\w.grownBy w' v.ownBlock/\
     ((Value.slice sl.1 sl.2.1 sl.2.2).ownBlock=v.ownBlock\/(Value.slice sl.1 sl.2.1 sl.2.2).ownBlock=some w.heap.size):=by
 unfold lZ at hr;cases hi:P.info? e with
 |none=>simp[hi]at hr
 | some i=>
   simp only[hi]at hr;cases hz:i.zero with
   |none=>simp[hz]at hr
   | some z=>
     simp only[hz]at hr;split at hr;rename_i hc;simp only[ao,aM]at hc;obtain⟨⟨ma,DZ⟩,hzs⟩:=hc;simp only[ah]at hr;subst hr;have ZR:i.size=sz:=by rw[<- wg,rO hi]
     have hby:(n+m)*i.bytes<=140737488355328:=(Nat.le_div_iff_mul_le ma).1 lM;have Lg:n+m<=maxLen:=by
       have:n+m<=(n+m)*i.bytes:=Nat.le_mul_of_pos_right _ ma;unfold maxLen;omega
     obtain⟨base,cap,rfl,hm,wa,iW⟩:=hy;cases base with
     | none=>
       obtain⟨rfl,rfl⟩:=wa rfl;rw[Nat.zero_mul]at hl;have:=C1 hl;subst this;obtain⟨sl,rfl⟩:=lY bN;refine⟨sl,w,run_append_owned_none w B t ty e i sz ht hi _ n xs bN,by simpa using bN,⟨rfl,rfl,rfl,fz _,fun _ _ _=>rfl⟩,.inl rfl⟩
     | some a=>
       obtain⟨v',w',e1,e2,e3,_,e5⟩:=run_append_own_at (P:=P) w B t ty e i z sz i.bytes ht hi hz ZR rfl (by rw[hzs,ZR]) (by omega) v n xs bN a m cap news hl
         (fun j u hj=>by obtain⟨a',e,h⟩:=iW j u hj;simp only[ah]at e;subst e;exact h) h1 Lg hby hB
       obtain⟨sl,rfl⟩:=lY e2;exact⟨sl,w',e1,e2,e3,e5⟩
     cases hr
theorem zI{a:Act}{y:Operand}{key:Nat}{xs:List (List Int)}{rb:Row}{rows:List Row}{ne:BE}{op:dw}
   (hs:Sat w0 ae ph st a w) (ho:o.op = .call {callee:=.builtin .append,args:=#[x,y],argTypes:=#[t,t] }) (hu:P.underlying t=some (.slice e)) (hr:lZ P e=some room)
   (hx:a.eval x=v) (hy:bB st (.c true) y=some (.s rb.id)) (xu:rb∈st.rows) (E9:rb.g = .c true) (qI:P.cellsOf e=rb.ks.length)
   (hv:w.ownsRow w0.heap.size e rb.ks.length v xs.length (aF rb.ks xs)) (hW:sT st ph o.op=v.ownBlock) (fv:∀r∈rows,r∈st.rows)
   (ZS:∀k,v.ownBlock=some k->¬ ph.z k/\∀n∈st.a7,n.own=true->(ph.val n.id).ownBlock≠some k) (lF:∀b∈st.aY,v.ownBlock≠some (ph.r b.id)) (hO:∀r∈rows,r.g.af ae=true->∀k,r.b9 ae ph=some k->v.ownBlock≠some k)
   (qg:op.af ae=xs++(ae rb.lv).list) (cV:ne.af ae=true->xs.length+(ae rb.lv).list.length<=room)
   (h:newRow st (.c true) key e rb.ks [.aL ne] op rows o.dst=some (du,a8)) (hk:aT Γ du k ae) :
   oT Γ P w0 ae ph st a8 o a w k:=by
 unfold newRow at h;split at h;rename_i aX;simp only[ao]at aX;obtain⟨aX,s6⟩:=aX;simp only[ah,aA]at h;obtain⟨rfl,rfl⟩:=h;obtain⟨hn,hk⟩:=jE (es:=[.cH key op]) hk;have dr:k (ae.set key (.l (xs++(ae rb.lv).list))):=by rw[<- qg];exact hk
 have bl:=hs.mem.row rb xu (by rw[E9];rfl);have ey:=aC hy cn hs.tmps;simp only[ai.af]at ey;obtain⟨sl,w',e1,e2,e3,e5⟩:=tE (ty:=o.type) hu hr qI hv bl.reads (bT _ _) (jl _ _) (cV hn) hs.below.size;rw[<- mH,<- ff]at e2;have hvB:∀k,v.ownBlock=some k->w0.heap.size<=k/\¬ ph.z k/\∀n∈st.a7,n.own=true->(ph.val n.id).ownBlock≠some k:=fun k hk=>⟨(hv.lt k hk).1,ZS k hk⟩;have eX:=lX (dst:=o.dst) (sl:=sl) (row:=v.ownBlock) hs s6 cn aX bl.1 fv e3 hvB lF hO e2 (by
   rcases e5 with e5|e5;exact .inl e5;exact .inr (.inl e5))
 refine⟨.value (.slice sl.1 sl.2.1 sl.2.2),w',_,_,_,?_,rfl,by rw[hW];exact eX,dr⟩;simp only[execOp,ho,resolve,invoke,builtin,eU,fX,eP,List.map_toArray,kD,rM,hx,ey,e1];cases h
theorem Be{a:Act}{ls:List ai}{key:Nat}(hs:Sat w0 ae ph st a w)
   (hW:sT st ph o.op=none) (cP:(execOp a.eval o).run P w = .ok (.value (.pointer (some ⟨w.heap.size,0,none⟩))) (w.alloc (.cells (ls.map (ai.af ae ph)).toArray e)))
   (h:qF st key e ls o.dst=some (du,a8)) (hk:aT Γ du k ae):oT Γ P w0 ae ph st a8 o a w k:=by
 obtain⟨rfl,eX⟩:=DX hs h;exact⟨_,_,_,_,_,cP,rfl,by rw[hW];exact eX,hk⟩
theorem vH(ks:List CK):∀(xs:List (List Int)) (n:Nat),aF ks (xs.take n)=(aF ks xs).take (n*ks.length):=by
 intro xs;induction xs with
 |nil=>intro n;simp[aF]
 | cons r rs ih=>
   intro n;cases n with
   |zero=>simp[aF]
   | succ n=>
     simp only[List.take_succ_cons,aF,ih];have e:(n+1)*ks.length=ks.length+n*ks.length:=by rw[lR];omega
     rw[e,List.take_append,cJ,show ks.length+n*ks.length-ks.length=n*ks.length by omega,oS (l:=bS ks 0 r) (by rw[cJ];omega)]
theorem PO{cap:Nat}{xs:List (List Int)}(hn:n=xs.length)(h:w.ownsRow B e ks.length (.slice base n cap) n (aF ks xs))(hm:m<=n) :
   w.ownsRow B e ks.length (.slice base m cap) (xs.take m).length (aF ks (xs.take m)):=by
 have hl:(xs.take m).length=m:=by rw[vr];omega
 rw[hl];refine⟨by rw[bT,hl],?_⟩;rcases h.2 with⟨e1,e2⟩|⟨g,qB,cur,e1,hg,hh,vV,M5,iW,tB⟩;simp only[Value.slice.injEq]at e1;obtain⟨rfl,h0,rfl⟩:=e1;have:m=0:=by omega
 subst this;exact .inl ⟨rfl,rfl⟩;simp only[Value.slice.injEq,true_and]at e1;obtain⟨rfl,rfl⟩:=e1;refine .inr ⟨g,cap,cur,rfl,hg,hh,by omega,M5,iW,?_⟩;rw[vH,<- tB,List.take_take];congr 1;have:=yJ ks.length hm;omega
theorem tF{cap:Nat}{k:IntKind}{m:Int}(hu:P.underlying t=some (.slice e))(hc:0<P.cellsOf e)(h0:0<=m)(h1:m<=(n:Int))(vV:n<=cap) :
   (Instr.slice t (.slice base n cap) none (some (.int k m)) none).run P w = .ok (.slice base m.toNat cap) w:=by
 have hm:0<=m/\m<=(cap:Int):=⟨h0,by omega⟩;simp only[Instr.slice,Instr.sliceBounds,Instr.sliceBound,asIntOf,eU,fX,eP,run_underlying hu];simp only[hm,and_self,if_true,eU,fX,eP,cm hc,Nat.sub_zero,Nat.zero_mul];congr 2;cases base with
 |none=>simp
 |some a=>simp[Addr.add_zero']
theorem M9{a:Act}{h':Operand}{key:Nat}{ra:Row}{kd:IntKind}{n:IE}
   (hs:Sat w0 ae ph st a w) (ho:o.op = .slice t x none (some h') none) (hu:P.underlying t=some (.slice e)) (hx:bB st (.c true) x=some (.s ra.id)) (hh:bB st (.c true) h'=some (.i kd n))
   (bq:ra∈st.rows) (bN:ra.own=true) (hg:ra.g = .c true) (he:ra.e=e) (qI:P.cellsOf e=ra.ks.length)
   (h:newRow st (.c true) key e ra.ks [.aL (BE.le (.c 0) n).mk,.aL (BE.le n (.len ra.lv)).mk] (.take ra.lv n) (st.rows.filter fun r=>decide (r.id≠ra.id)) o.dst=some (du,a8)) (hk:aT Γ du k ae) :
   oT Γ P w0 ae ph st a8 o a w k:=by
 unfold newRow at h;split at h;rename_i aX;simp only[ao]at aX;obtain⟨aX,s6⟩:=aX;simp only[ah,aA]at h;obtain⟨rfl,rfl⟩:=h;obtain⟨h0,hk⟩:=jE (es:=[.aL (BE.le n (.len ra.lv)).mk,.cH key (.take ra.lv n)]) hk;obtain⟨h1,hk⟩:=jE (es:=[.cH key (.take ra.lv n)]) hk;have h0:=cf h0;have h1:=cf h1;simp only[IE.af]at h0 h1;have dr:k (ae.set key (.l ((ae ra.lv).list.take (n.af ae).toNat))):=hk;have Jl:ra.g.af ae=true:=by rw[hg];rfl
 have bl:=hs.mem.row ra bq Jl;have dj:=bl.2;rw[if_pos bN,he]at dj;have ex:=aC hx cn hs.tmps;have eh:=aC hh cn hs.tmps;simp only[ai.af]at ex eh;obtain⟨base,cap,hv,vV⟩:∃base cap,ph.val ra.id = .slice base (ae ra.lv).list.length cap/\(ae ra.lv).list.length<=cap:=by
   rcases dj.2 with⟨e1,e2⟩|⟨g,qB,cur,e1,_,_,vV,_⟩;exact⟨none,0,by rw[e1,e2],by omega⟩;exact⟨_,qB,e1,vV⟩
 rw[hv]at dj;have htk:=PO (m:=(n.af ae).toNat) rfl dj (by omega);have fg:ra.b9 ae ph=(Value.slice base (ae ra.lv).list.length cap).ownBlock:=by rw[<- hv];simp[Row.b9,bN]
 have PM:∀m m':Nat,(Value.slice base m cap).ownBlock=(Value.slice base m' cap).ownBlock:=fun _ _=>by cases base<;>rfl
 have eX:=lX (dst:=o.dst) (sl:=(base,(n.af ae).toNat,cap)) (row:=(Value.slice base (ae ra.lv).list.length cap).ownBlock) (rows:=st.rows.filter fun r=>decide (r.id≠ra.id)) hs s6 cn aX bl.1 (fun r hr=>(jq.1 hr).1) (jm (cw w)) (fun k hk=>(nM (B:=0) hs bq bN Jl (by rw[hv,hk])).1)
   (fun b hb e=>hs.mem.br b hb ra bq Jl (by rw[fg,e])) (fun r hr h1 k hk e=>by
     have hm:=jq.1 hr;exact hs.mem.rr ra bq r hm.1 (fun e=>by simp[e]at hm) bN Jl h1 k (by rw[fg,e]) hk) htk (.inl (PM _ _))
 refine⟨.value (.slice base (n.af ae).toNat cap),w,_,_,_,?_,rfl,⟨eX.sat,eX.agree,?_,eX.mono,eX.fresh⟩,dr⟩;simp only[execOp,ho,Option.map_none,tn,ex,eh,hv,eU,run_sliceAt_slice (P:=P) (w:=w) t _ _ _ _ (by simp[Program.elem,hu]),tF hu (by rw[qI];exact bl.1) h0 h1 vV,eP,fX];rw[ho];exact cw w;cases h
theorem tG{v:V1}(h:qE P t=some v):∃i z,P.info? t=some i/\i.zero=some z/\z.cells=(v.leaves.map (ai.af ae ph)).toArray:=by
 unfold qE at h;cases hi:P.info? t with
 |none=>simp[hi]at h
 | some i=>
   cases hz:i.zero with
   |none=>simp[hi,hz]at h
   | some z=>
     refine⟨i,z,rfl,hz,?_⟩;have hw:Inhabited World:=⟨{heap:=#[],tape:=default,drawn:=0,os:=default,output:=default}⟩;have h2:=yF (P:=P) (ae:=ae) (ph:=ph) (w:=default) (t:=t) (v:=v) (by unfold qE;exact h);simp[zeroValue,typeInfo,hi,hz]at h2;rw[h2,V1.fR]
theorem yO{z:Value}(hz:z.cells=((ks.map zeroOf).map (ai.af ae ph)).toArray)(n:Nat):(madeCells z.cells (n*ks.length)).toList=aF ks (List.replicate n (List.replicate ks.length 0)):=by
 apply List.ext_getElem?;intro j;by_cases hj:j<n*ks.length;have h0:0<ks.length:=by
   rcases Nat.eq_zero_or_pos ks.length with h|h;rw[h]at hj;omega;exact h
 have hd:j/ks.length<n:=(Nat.div_lt_iff_lt_mul h0).2 hj;have hm:=Nat.mod_lt j h0;have e:j=j/ks.length*ks.length+j%ks.length:=(Nat.div_add_mod' j ks.length).symm;have hf:=mX ks (List.replicate n (List.replicate ks.length 0)) (j/ks.length) (j%ks.length) (by simpa using hd) hm;rw[<- e]at hf;rw[hf];have hc:∀q:Nat,z.cells[q]?=(ks[q]?).map fun(k:CK)=>k.val 0:=fun q=>by
   rw[hz];simp only[List.getElem?_toArray,gL];cases ks[q]? with
   |none=>rfl
   |some k=>cases k<;>rfl
 have wg:z.cells.size=ks.length:=by rw[hz];simp
 have hl:(List.replicate n (List.replicate ks.length (0:Int))).getD (j/ks.length) []=List.replicate ks.length 0:=by
   simp[cT,hd]
 rw[hl];have Jb:(List.replicate ks.length (0:Int)).getD (j%ks.length) 0=0:=by
   simp[cT,hm]
 rw[Jb,<- hc];simp[madeCells,hj,wg];rw[Array.getElem?_eq_getElem (by rw[wg];exact hm),getElem!_pos z.cells (j%ks.length) (by rw[wg];exact hm)];rw[th (by simp[madeCells];omega),th (by rw[bT];simp;omega)]
theorem Db(w:World)(base:Nat)(t e:TypeId)(i:TypeInfo)(z:Value)(size:Nat)(ht:P.underlying t=some (.slice e))(hi:P.info? e=some i)(hz:i.zero=some z)(Hh:i.size=size)
   (kl kc:IntKind) (n c:Nat) (vV:n<=c) (agk:i.bytes*c<=281474976710656) (Lg:c<=maxLen) (adf:base<=w.heap.size) :
   ∃w',(Instr.makeSlice t (.int kl (n:Int)) (.int kc (c:Int))).run P w = .ok (.slice (some ⟨w.heap.size,0,none⟩) n c) w'/\
     w'.ownsRow base e size (.slice (some ⟨w.heap.size,0,none⟩) n c) n (madeCells z.cells (n*size)).toList/\w.grownBy w' none:=by
 subst Hh;have agl:(c:Int)<=9223372036854775807:=by
   have h:=Lg;simp[maxLen]at h;omega
 have nX:(i.bytes:Int)*(c:Int)<=281474976710656:=by
   have h:((i.bytes*c:Nat):Int)<=281474976710656:=by omega
   rwa[Int.natCast_mul]at h
 have hr:=run_make (P:=P) w t e i z ht hi hz kl kc n c (by omega) (by omega) nX agl;simp only[xm]at hr;refine⟨_,hr,⟨?_,.inr ⟨w.heap.size,c,madeCells z.cells (c*i.size),rfl,adf,?_,vV,Lg,size_madeCells _ _,?_⟩⟩,World.grownBy_alloc w _ none⟩;simp[madeCells];exact heap_alloc_new w _;have:n*i.size<=c*i.size:=yJ _ vV;simp only[madeCells,Array.toList_map,Array.toList_range,<- List.map_take,List.take_range,Nat.min_eq_left this]
theorem Na{a:Act}{n:Operand}{key:Nat}{kd:IntKind}{x:IE}
   (hs:Sat w0 ae ph st a w) (ho:o.op = .makeSlice t n c) (hu:P.underlying t=some (.slice e)) (hn:bB st (.c true) n=some (.i kd x)) (hc:bB st (.c true) c=some (.i kd' x)) (hr:lZ P e=some room) (hz:qE P e=some z)
   (h0:0<ks.length) (qI:P.cellsOf e=ks.length) (Vs:z.leaves=ks.map zeroOf)
   (h:newRow st (.c true) key e ks [.aL (BE.le (.c 0) x).mk,.aL (BE.le x (.c (room:Int))).mk] (.rep x (List.replicate ks.length 0)) st.rows o.dst=some (du,a8)) (hk:aT Γ du k ae) :
   oT Γ P w0 ae ph st a8 o a w k:=by
 unfold newRow at h;split at h;rename_i aX;simp only[ao]at aX;obtain⟨aX,s6⟩:=aX;simp only[ah,aA]at h;obtain⟨rfl,rfl⟩:=h;obtain⟨g0,hk⟩:=jE (es:=[.aL (BE.le x (.c (room:Int))).mk,.cH key (.rep x (List.replicate ks.length 0))]) hk;obtain⟨g1,hk⟩:=jE (es:=[.cH key (.rep x (List.replicate ks.length 0))]) hk;have g0:=cf g0;have g1:=cf g1;simp only[IE.af]at g0 g1;obtain⟨m,hm⟩:∃m:Nat,x.af ae=m:=⟨(x.af ae).toNat,by omega⟩;have dr:k (ae.set key (.l (List.replicate m (List.replicate ks.length 0)))):=by
   have:k (ae.set key (.l ((dw.rep x (List.replicate ks.length 0)).af ae))):=hk;simp only[dw.af,hm,xm]at this;exact this
 have en:=aC hn cn hs.tmps;have ec:=aC hc cn hs.tmps;simp only[ai.af,hm]at en ec;obtain⟨i,zv,hi,ZT,ik⟩:=tG (ae:=ae) (ph:=ph) hz;unfold lZ at hr;simp only[hi,ZT]at hr;split at hr;rename_i nZ;simp only[ao,aM]at nZ;obtain⟨⟨ma,DZ⟩,iW⟩:=nZ;simp only[ah]at hr;rw[Vs]at ik;have Hh:i.size=ks.length:=by rw[<- iW,ik];simp
 rw[hm]at g1;have lM:m<=140737488355328/i.bytes:=by rw[hr];omega
 have hby:i.bytes*m<=140737488355328:=kI (Nat.mul_le_mul_left _ lM) (Nat.mul_div_le _ _);have Lg:m<=maxLen:=by
   have:m<=i.bytes*m:=Nat.le_mul_of_pos_left _ ma;unfold maxLen;omega
 obtain⟨w',e1,e2,e3⟩:=run_make_full (P:=P) w w0.heap.size t e i zv ks.length hu hi ZT Hh kd kd' m (by omega) Lg hs.below.size;rw[yO ik]at e2;have hl:(List.replicate m (List.replicate ks.length (0:Int))).length=m:=by simp
 have eX:=lX (dst:=o.dst) (xs:=List.replicate m (List.replicate ks.length 0)) (sl:=(some ⟨w.heap.size,0,none⟩,m,m)) (row:=none) (rows:=st.rows) hs s6 cn aX h0 (fun _ h=>h) e3 (fun _ h=>by cases h) (fun _ _=>by simp) (fun _ _ _ _ _=>by simp) (by rw[hl];exact e2) (.inr (.inl rfl));refine⟨.value (.slice (some ⟨w.heap.size,0,none⟩) m m),w',_,_,_,?_,rfl,⟨eX.sat,eX.agree,?_,eX.mono,eX.fresh⟩,dr⟩;simp only[execOp,ho,en,ec,eU,e1,eP,fX];rw[ho];exact eX.grown;cases hr;cases h
theorem Bf{a:Act}{n:Operand}{key:Nat}{kd:IntKind}{x y:IE}
   (hs:Sat w0 ae ph st a w) (ho:o.op = .makeSlice t n c) (hu:P.underlying t=some (.slice e)) (hn:bB st (.c true) n=some (.i kd x)) (hc:bB st (.c true) c=some (.i kd' y)) (hr:lZ P e=some room) (hz:qE P e=some z)
   (h0:0<ks.length) (qI:P.cellsOf e=ks.length) (Vs:z.leaves=ks.map zeroOf)
   (h:newRow st (.c true) key e ks [.aL (BE.le (.c 0) x).mk,.aL (BE.le x y).mk,.aL (BE.le y (.c (room:Int))).mk] (.rep x (List.replicate ks.length 0)) st.rows o.dst=some (du,a8)) (hk:aT Γ du k ae) :
   oT Γ P w0 ae ph st a8 o a w k:=by
 unfold newRow at h;split at h;rename_i aX;simp only[ao]at aX;obtain⟨aX,s6⟩:=aX;simp only[ah,aA]at h;obtain⟨rfl,rfl⟩:=h;obtain⟨g0,hk⟩:=jE (es:=[.aL (BE.le x y).mk,.aL (BE.le y (.c (room:Int))).mk,.cH key (.rep x (List.replicate ks.length 0))]) hk;obtain⟨g2,hk⟩:=jE (es:=[.aL (BE.le y (.c (room:Int))).mk,.cH key (.rep x (List.replicate ks.length 0))]) hk;obtain⟨g1,hk⟩:=jE (es:=[.cH key (.rep x (List.replicate ks.length 0))]) hk;have g0:=cf g0;have g1:=cf g1;have g2:=cf g2;simp only[IE.af]at g0 g1;obtain⟨m,hm⟩:∃m:Nat,x.af ae=m:=⟨(x.af ae).toNat,by omega⟩;obtain⟨q,hq⟩:∃q:Nat,y.af ae=q:=⟨(y.af ae).toNat,by omega⟩;have hmq:m<=q:=by omega
 have dr:k (ae.set key (.l (List.replicate m (List.replicate ks.length 0)))):=by
   have:k (ae.set key (.l ((dw.rep x (List.replicate ks.length 0)).af ae))):=hk;simp only[dw.af,hm,xm]at this;exact this
 have en:=aC hn cn hs.tmps;have ec:=aC hc cn hs.tmps;simp only[ai.af,hm,hq]at en ec;obtain⟨i,zv,hi,ZT,ik⟩:=tG (ae:=ae) (ph:=ph) hz;unfold lZ at hr;simp only[hi,ZT]at hr;split at hr;rename_i nZ;simp only[ao,aM]at nZ;obtain⟨⟨ma,DZ⟩,iW⟩:=nZ;simp only[ah]at hr;rw[Vs]at ik;have Hh:i.size=ks.length:=by rw[<- iW,ik];simp
 rw[hq]at g1;have lM:q<=140737488355328/i.bytes:=by rw[hr];omega
 have hby:i.bytes*q<=140737488355328:=kI (Nat.mul_le_mul_left _ lM) (Nat.mul_div_le _ _);have Lg:q<=maxLen:=by
   have:q<=i.bytes*q:=Nat.le_mul_of_pos_left _ ma;unfold maxLen;omega
 obtain⟨w',e1,e2,e3⟩:=Db (P:=P) w w0.heap.size t e i zv ks.length hu hi ZT Hh kd kd' m q hmq (by omega) Lg hs.below.size;rw[yO ik]at e2;have hl:(List.replicate m (List.replicate ks.length (0:Int))).length=m:=by simp
 have eX:=lX (dst:=o.dst) (xs:=List.replicate m (List.replicate ks.length 0)) (sl:=(some ⟨w.heap.size,0,none⟩,m,q)) (row:=none) (rows:=st.rows) hs s6 cn aX h0 (fun _ h=>h) e3 (fun _ h=>by cases h) (fun _ _=>by simp) (fun _ _ _ _ _=>by simp) (by rw[hl];exact e2) (.inr (.inl rfl));refine⟨.value (.slice (some ⟨w.heap.size,0,none⟩) m q),w',_,_,_,?_,rfl,⟨eX.sat,eX.agree,?_,eX.mono,eX.fresh⟩,dr⟩;simp only[execOp,ho,en,ec,eU,e1,eP,fX];rw[ho];exact eX.grown;cases hr;cases h
theorem rP{α:Type}{a:Array α}{x y:α}(h:a.toList=[x,y]):a = #[x,y]:=kM (by simpa using h)
theorem rQ:∀ {ns:List BE},aT Γ (sH G ns) k ae->k ae/\(G.af ae=true->∀n∈ns,n.af ae=true):=by
 intro ns;induction ns with
 |nil=>intro h;exact⟨h,fun _ n hn=>by simp at hn⟩
 | cons n ns ih=>
   intro h;simp only[sH]at h;split at h;rename_i he;obtain⟨h1,h2⟩:=ih h;refine⟨h1,fun hG m hm=>?_⟩;rcases bF.1 hm with rfl|hm;exact BE.DL hG (by rw[he];rfl);exact h2 hG m hm;obtain⟨h0,h⟩:=jE h;obtain⟨h1,h2⟩:=ih h;refine⟨h1,fun hG m hm=>?_⟩;rcases bF.1 hm with rfl|hm;exact BE.DL hG h0;exact h2 hG m hm
theorem bO{r:Row}:∀ {rs l:List Row},r∈dm rs l↔r∈rs\/r∈l:=by
 intro rs;induction rs with
 |nil=>intro l;simp[dm]
 | cons x rs ih=>
   intro l;show r∈dz x (dm rs l)↔_;rw[dI,ih,bF,or_assoc]
theorem zJ{key:Nat}:∀ {aO:List NK} {j m:Nat},(fY lv i key j aO)[m]?=(aO[m]?).map (fun| .c k=>rG lv i (j+m) k| .s _ _=>.s (key+(j+m))):=by
 intro aO;induction aO with
 |nil=>intro j m;simp[fY]
 | cons nk aO ih=>
   intro j m;cases nk<;>cases m<;>simp[fY,ih,Nat.add_assoc,Nat.add_comm 1]
theorem Hi{key:Nat}:∀ {aO:List NK} {j:Nat},(fY lv i key j aO).length=aO.length:=by
 intro aO;induction aO with
 |nil=>intro j;rfl
 |cons nk aO ih=>intro j;cases nk<;>simp[fY,ih]
theorem D0{key:Nat}{r:Row}:∀ {aO:List NK} {j:Nat},r∈kP G key j aO->∃m e k,aO[m]?=some (.s e k)/\r=⟨key+(j+m),e,[k],key+(j+m),false,G⟩:=by
 intro aO;induction aO with
 |nil=>intro j h;simp[kP]at h
 | cons nk aO ih=>
   intro j h;have up:r∈kP G key (j+1) aO->∃m e k,(nk::aO)[m]?=some (.s e k)/\r=⟨key+(j+m),e,[k],key+(j+m),false,G⟩:=fun h=>by
     obtain⟨m,e,k,h1,h2⟩:=ih h;exact⟨m+1,e,k,by simpa using h1,by rw[h2,show j+1+m=j+(m+1)by omega]⟩
   cases nk with
   |c k=>exact up h
   | s e k=>
     simp only[kP,bF]at h;rcases h with rfl|h;exact⟨0,e,k,rfl,rfl⟩;exact up h
theorem D1{key:Nat}{all:List NK}{q:Nat->Bool}{bj:aH}(Al:q lv=true)(hi:i.all q=true)(hq:∀x,key<=x->x<key+n->q x=false):∀ {aO:List NK} {j:Nat} {ae:aH},j+aO.length<=n->(∀x,q x=true->ae x=bj x)->aT Γ (Hj lv i key all j aO) k ae->
   ∃ak,k ak/\(∀x,q x=true->ak x=bj x)/\(∀x,x<key+j->ak x=ae x)/\∀m e kk,aO[m]?=some (.s e kk)->ak (key+(j+m)) = .l ((dw.sub lv i all (j+m)).af bj):=by
 intro aO;induction aO with
 |nil=>intro j ae _ he h;exact⟨ae,h,he,fun _ _=>rfl,fun m e kk hm=>by simp at hm⟩
 | cons nk aO ih=>
   intro j ae hn he h;simp only[qe]at hn;cases nk with
   | c kk0=>
     obtain⟨ak,h1,h2,h3,h4⟩:=ih (j:=j+1) (ae:=ae) (by omega) he h;refine⟨ak,h1,h2,fun x hx=>h3 x (by omega),fun m e kk hm=>?_⟩;cases m with
     |zero=>simp at hm
     |succ m=>have:=h4 m e kk (by simpa using hm);rw[show j+1+m=j+(m+1)by omega]at this;exact this
   | s e0 kk0=>
     have yP:(dw.sub lv i all j).af ae=(dw.sub lv i all j).af bj:=by
       simp only[dw.af,he lv Al,IE.aq he hi]
     obtain⟨ak,h1,h2,h3,h4⟩:=ih (j:=j+1) (ae:=ae.set (key+j) (.l ((dw.sub lv i all j).af ae))) (by omega) (fun x hx=>by
       have:x≠key+j:=fun e=>by rw[e,hq _ (by omega) (by omega)]at hx;cases hx
       simp only[aH.set,this,if_false];exact he x hx) h
     refine⟨ak,h1,h2,fun x hx=>by rw[h3 x (by omega)];simp only[aH.set];rw[if_neg (by omega)],fun m e kk hm=>?_⟩;cases m with
     | zero=>
       rw[iM,h3 _ (by omega),<- yP];simp[aH.set]
     |succ m=>have:=h4 m e kk (by simpa using hm);rw[show j+1+m=j+(m+1)by omega]at this;exact this
def Ph.xv(ph:Ph)(key:Nat)(us:List Value):Ph:=
 { ph with v:=fun k=>if key<=k then(match us[k-key]? with
   |some (.slice a b c)=>(a,b,c)
   |_=>ph.v k)else ph.v k}
def nd(st:St)(G:BE)(key:Nat)(dst:Option Tmp)(n:ej)(v:V1):St:=
 {st.bC key n.aO.length with rows:=dm (kP G key 0 n.aO) st.rows}.put dst ⟨G,.v v⟩
theorem zK{q:Nat->Bool}{key:Nat}{aO:List NK}(Al:q lv=true)(hi:i.all q=true)(hq:∀m,m<aO.length->q (key+m)=true):bt q (fY lv i key 0 aO)=true:=by
 have:∀ {ls:List ai},(∀l∈ls,l.all q=true)->bt q ls=true:=by
   intro ls;induction ls with
   |nil=>intro _;rfl
   |cons l ls ih=>intro h;simp only[bt,h l (aU ..),Bool.true_and];exact ih fun x hx=>h x (bn _ hx)
 refine this fun l hl=>?_;obtain⟨m,hm⟩:=List.getElem?_of_mem hl;rw[zJ]at hm;simp only[gK,bH]at hm;obtain⟨nk,Nb,rfl⟩:=hm;have hml:=(dh.1 Nb).1;cases nk with
 | c kk=>
   cases kk<;>simp only[rG,ai.all,BE.all,IE.all,ao]<;>exact⟨Al,hi⟩
 |s e kk=>exact hq m hml
theorem dy.cells(h:dy B ae ph st w){n:ej}(hn:n∈st.a7)(hg:n.g.af ae=true):0<n.aO.length/\∃base cap,ph.val n.id = .slice base (ae n.lv).list.length cap/\(ae n.lv).list.length<=maxLen/\(base=none->(ae n.lv).list.length=0/\cap=0)/\
   ∀i r,(ae n.lv).list[i]?=some r->∃a,base=some a/\∀j nk,n.aO[j]?=some nk->∃u,w.cell? (a.add (i*n.aO.length+j))=some u/\sF ph.z w nk (r.getD j 0) (ij n.aO r j) u:=by
 obtain⟨h0,h1⟩:=h.rd n hn hg;refine⟨h0,?_⟩;unfold fG at h1;split at h1;obtain⟨base,cap,e1,e2,e3,e4⟩:=h1.reads (z':=fun _=>True) h0 (fun _ _=>trivial) (fun _ _=>trivial);obtain⟨cs,bN,hc⟩:=h1;refine⟨base,cap,e1,e2,e3,fun i r hi=>?_⟩;obtain⟨a,rfl,_,_⟩:=e4 i r hi;refine⟨a,rfl,fun j nk hj=>?_⟩;obtain⟨u,hu,vV⟩:=hc i r hi j nk hj;rw[e1]at bN;have had:a=⟨a.block,0,none⟩:=by
   obtain⟨_,⟨e,_⟩|⟨g,qB,cur,e,_⟩⟩:=bN;simp at e;simp only[Value.slice.injEq,ah]at e;rw[e.1]
 rw[had]at bN ⊢;exact⟨u,bN.cells (by simp[Value.ownBlock]) _ _ hu,vV.mY (fun _ _=>rfl) (fun _ h=>h.1)⟩;obtain⟨base,cap,e1,e2,e3,e4⟩:=h1;refine⟨base,cap,e1,e2,e3,fun i r hi=>?_⟩;obtain⟨a,e,_,iW⟩:=e4 i r hi;exact⟨a,e,iW⟩
theorem Jm{a:Act}{key j:Nat}{n:ej}{v:V1}
   (hs:Sat w0 ae ph st a w) (ho:o.op = .load t x) (hG:G.af ae=true) (hx:bB st G x=some (.ep n.id n.aO.length i j)) (bq:n∈st.a7) (kJ:0<n.aO.length) (hg:G.ji n.g=true) (s6:G.all st.has=true) (aX:st.free key n.aO.length=true) (VS:i.all st.has=true) (Fa:st.has n.lv=true)
   (qA:Looks P t v) (tC:∀jj l,v.leaves[jj]?=some l->(fY n.lv i key 0 n.aO)[j+jj]?=some l) (D2:∀q:Nat->Bool,bt q (fY n.lv i key 0 n.aO)=true->v.all q=true)
   (hk:aT Γ (sH G [(BE.le (.c 0) i).mk,(BE.lt i (.len n.lv)).mk]++Hj n.lv i key n.aO 0 n.aO) k ae):oT Γ P w0 ae ph st (nd st G key o.dst n v) o a w k:=by
   rw[fS]at hk;obtain⟨hk,qJ⟩:=rQ hk;have qJ:=qJ hG;have h0:=cf (qJ _ (aU ..));have h1:=fu (qJ _ (bn _ (aU ..)));simp only[IE.af]at h0 h1;have oU:n.g.af ae=true:=BE.cW hg hG;obtain⟨_,base,cap,hv,hlen,ma,CS⟩:=hs.nest.cells bq oU;have gR:(i.af ae).toNat<(ae n.lv).list.length:=by omega
   obtain⟨r,hr⟩:∃r,(ae n.lv).list[(i.af ae).toNat]?=some r:=⟨_,eT gR⟩;obtain⟨ad,rfl,iW⟩:=CS _ r hr;have adg:(ae n.lv).list.getD (i.af ae).toNat []=r:=by simp[List.getD,hr]
   obtain⟨us,hus⟩:∃us:List Value,us=(List.range n.aO.length).map fun j=>(w.cell? (ad.add ((i.af ae).toNat*n.aO.length+j))).getD undef:=⟨_,rfl⟩;have amT:us.length=n.aO.length:=by simp[hus]
   have O':∀j nk,n.aO[j]?=some nk->∃u,us[j]?=some u/\w.cell? (ad.add ((i.af ae).toNat*n.aO.length+j))=some u/\sF ph.z w nk (r.getD j 0) (ij n.aO r j) u:=fun j nk hj=>by
     obtain⟨u,h1,h2⟩:=iW j nk hj;have I0:=(dh.1 hj).1;refine⟨u,?_,h1,h2⟩;simp[hus,gL,List.getElem?_range I0,h1]
   have jo:∀j,j<n.aO.length->st.has (key+j)=false:=fun j hj=>df aX (by omega) (by omega);obtain⟨ak,VU,hE1,_,hE2⟩:=D1 (bj:=ae) (q:=st.has) Fa VS (fun x a b=>df aX a b) (by omega) (fun _ _=>rfl) hk;simp only[gK]at hE2;have bM:bA st.has ae ak ph (ph.xv key us):=by
     refine⟨fun x hx=>(hE1 x hx).symm,fun _ _=>rfl,fun x hx=>?_⟩;simp only[Ph.xv];split;rename_i hkx;rcases qK (x-key) n.aO.length with cu|ng;have:=jo _ cu;rw[show key+(x-key)=x by omega,hx]at this;cases this;rw[th (by omega)];rfl
   have j4:=hs.congr bM;have bQ:∀k,st.has k=true->(st.bC key n.aO.length).has k=true:=fun k hk=>gP hk;have GR:∀(m:Nat) (e:TypeId) (kk:CK),n.aO[m]?=some (.s e kk)->∃u,us[m]?=some u/\(ph.xv key us).val (key+m)=u/\(ak (key+m)).list=(ij n.aO r m).map (fun x=>[x])/\Reads w u (ij n.aO r m).length (aF [kk] ((ij n.aO r m).map fun x=>[x]))/\(ij n.aO r m≠[]->∀b,u.ownBlock=some b->ph.z b):=fun m e kk hm=>by
     obtain⟨u,h1,_,h3,h4,h5⟩:=O' m _ hm;refine⟨u,h1,?_,?_,h4,h5⟩;obtain⟨b0,c0,rfl,_⟩:=h4;simp[Ph.val,Ph.xv,h1];rw[hE2 m e kk hm];show((dw.sub n.lv i n.aO m).af ae)=_;simp only[dw.af,adg]
   have rn:∀r'∈kP G key 0 n.aO,∃(m:Nat) (e:TypeId) (kk:CK),n.aO[m]?=some (.s e kk)/\r'=⟨key+m,e,[kk],key+m,false,G⟩:=fun r' cY=>by
     obtain⟨m,e,kk,a,b⟩:=D0 cY;exact⟨m,e,kk,a,by rw[b,gK]⟩
   have ZU:∀r'∈kP G key 0 n.aO,gH w0.heap.size ak (ph.xv key us) r' w/\r'.own=false/\∀b,r'.b9 ak (ph.xv key us)=some b->ph.z b:=fun r' cY=>by
     obtain⟨m,e,kk,hm,rfl⟩:=rn r' cY;obtain⟨u,_,e1,e2,e3,e4⟩:=GR m e kk hm;refine⟨⟨by simp,?_⟩,rfl,fun b hb=>?_⟩;simp only[jG,if_false,e1,e2,lS];exact e3;simp only[Row.b9,Bool.false_or,e1,e2,lS,aM]at hb;split at hb;rename_i cV;exact e4 (fun e=>cV (by rw[e];rfl)) b hb;cases hb
   have cK:∀m,m<n.aO.length->(st.bC key n.aO.length).has (key+m)=true:=fun m hm=>jn (by omega) (by omega);have I1:G.af ak=true:=by rw[<- BE.aq bM.e s6];exact hG
   have EZ:ph.v n.id=(some ad,(ae n.lv).list.length,cap):=by
     simp only[Ph.val,Value.slice.injEq]at hv;exact Prod.ext hv.1 (Prod.ext hv.2.1 hv.2.2)
   have cP:(execOp a.eval o).run P w = .ok (.value (v.af ak (ph.xv key us))) w:=by
     have ex:=aC hx hG hs.tmps;simp only[ai.af,EZ]at ex;simp only[execOp,ho,ex,Instr.loadAt,Instr.sureAddr,eU,fX,eP];rw[iX (ae:=ak) (ph:=ph.xv key us) qA fun jj lf hj=>?_];rfl;have hj:=tC jj lf hj;simp only[zJ,gK,bH]at hj;obtain⟨nk,Nb,rfl⟩:=hj;rw[iz,Nat.add_assoc];cases nk with
     | c kk=>
       obtain⟨u,_,h2,h3⟩:=O' (j+jj) _ Nb;rw[h2];have h3:u=kk.val (r.getD (j+jj) 0):=h3;rw[h3,tg,<- bM.e _ Fa,<- IE.aq bM.e VS];simp only[cellAt,adg]
     | s e kk=>
       obtain⟨u,h1,h2,_⟩:=O' (j+jj) _ Nb;obtain⟨u',K5,e1,_⟩:=GR (j+jj) e kk Nb;rw[h1,ah]at K5;subst K5;rw[h2];simp only[ai.af,e1]
   have hW:sT st ph o.op=none:=by rw[ho];rfl
   have PQ:bt (st.bC key n.aO.length).has (fY n.lv i key 0 n.aO)=true:=zK (bQ _ Fa) (IE.aG bQ VS) cK;refine⟨_,w,_,ak,ph.xv key us,cP,rfl,?_,VU⟩;rw[hW];unfold nd;refine⟨⟨?_,?_,hs.below,by rw[cS];exact hs.defers,?_,?_⟩,bM,cw w,fun k hk=>by rw[cL];exact bQ k hk,fun b hb=>.inl ⟨b,by rw[cc]at hb;exact hb,rfl⟩⟩;exact nU (st:={st.bC key n.aO.length with rows:=dm (kP G key 0 n.aO) st.rows}) j4.tmps (by simp[aV.af,I1,SV.af]);rw[cc,dq];have hm:=j4.mem;refine⟨hm.nJ,hm.bb,fun r' cY DW=>?_,fun b hb r' cY DW e=>?_,fun q hq q' Pf cV Lh PL zL b hb nX=>?_⟩;rcases bO.1 cY with cY|cY;exact(ZU r' cY).1;exact hm.row r' cY DW;rcases bO.1 cY with cY|cY;exact j4.nest.bz b hb ((ZU r' cY).2.2 _ e);exact hm.br b hb r' cY DW e;rcases bO.1 hq with hq|hq;rw[(ZU q hq).2.1]at Lh;cases Lh;rcases bO.1 Pf with Pf|Pf;exact j4.nest.rz q hq Lh PL b hb ((ZU q' Pf).2.2 _ nX);exact hm.rr q hq q' Pf cV Lh PL zL b hb nX;refine⟨?_,?_,?_⟩;refine gQ (st:={st.bC key n.aO.length with rows:=dm (kP G key 0 n.aO) st.rows}) (fun t s ht=>aV.aG bQ (hs.names.tmps t s ht)) ?_;simp only[aV.all,SV.all,ao];exact⟨BE.aG bQ s6,D2 _ PQ⟩;rw[cc,cL];exact fun b hb=>iQ.aG bQ (hs.names.aY b hb);rw[dq,cL];intro r' cY;rcases bO.1 cY with cY|cY;obtain⟨m,e,kk,hm,rfl⟩:=rn r' cY;have:=cK m (dh.1 hm).1;simp only[Row.all,ao];exact⟨this,this,BE.aG bQ s6⟩;exact Row.aG bQ (hs.names.rows r' cY)
   . refine dy.put (st:={st.bC key n.aO.length with rows:=dm (kP G key 0 n.aO) st.rows}) (j4.nest.next (cQ (p:=st.has)) rfl bQ (cw w) (fun k hk=>by cases hk) rfl (fun b hb=>.inl ⟨b,hb,rfl⟩) (fun r' cY h1 b hb=>?_));rcases bO.1 cY with cY|cY;exact .inr (.inr (.inr ⟨(ZU r' cY).2.1,(ZU r' cY).2.2 b hb⟩));exact .inl ⟨r',cY,id,h1,hb⟩
theorem PR{a:Act}{dst:Option Tmp}{key:Nat}{n:ej}{v:V1}
   (hs:Sat w0 ae ph st a w) (hG:G.af ae=false) (s6:G.all st.has=true) (aX:st.free key n.aO.length=true) (VS:i.all st.has=true) (Fa:st.has n.lv=true) (D2:∀q:Nat->Bool,bt q (fY n.lv i key 0 n.aO)=true->v.all q=true)
   (hk:aT Γ (sH G [(BE.le (.c 0) i).mk,(BE.lt i (.len n.lv)).mk]++Hj n.lv i key n.aO 0 n.aO) k ae) :
   ∃ak,Step w0 ae ak ph ph st (nd st G key dst n v) (a.put dst undef) w w none/\k ak:=by
 rw[fS]at hk;obtain⟨hk,_⟩:=rQ hk;obtain⟨ak,VU,hE1,_,_⟩:=D1 (bj:=ae) (q:=st.has) Fa VS (fun x a b=>df aX a b) (by omega) (fun _ _=>rfl) hk;have bM:bA st.has ae ak ph ph:=⟨fun x hx=>(hE1 x hx).symm,fun _ _=>rfl,fun _ _=>rfl⟩;have j4:=hs.congr bM;have I1:G.af ak=false:=by rw[<- BE.aq bM.e s6];exact hG
 have bQ:∀k,st.has k=true->(st.bC key n.aO.length).has k=true:=fun k hk=>gP hk;have cK:∀m,m<n.aO.length->(st.bC key n.aO.length).has (key+m)=true:=fun m hm=>jn (by omega) (by omega);have rn:∀r'∈kP G key 0 n.aO,∃(m:Nat) (e:TypeId) (kk:CK),n.aO[m]?=some (.s e kk)/\r'=⟨key+m,e,[kk],key+m,false,G⟩:=fun r' cY=>by
   obtain⟨m,e,kk,a,b⟩:=D0 cY;exact⟨m,e,kk,a,by rw[b,gK]⟩
 have PQ:bt (st.bC key n.aO.length).has (fY n.lv i key 0 n.aO)=true:=zK (bQ _ Fa) (IE.aG bQ VS) cK;have ho:∀r∈dm (kP G key 0 n.aO) st.rows,r.g.af ak=true->r∈st.rows:=fun r hr h1=>by
   rcases bO.1 hr with hr|hr;obtain⟨m,e,kk,_,rfl⟩:=rn r hr;rw[I1]at h1;cases h1;exact hr
 refine⟨ak,⟨⟨?_,?_,hs.below,by rw[cS];exact hs.defers,?_,?_⟩,bM,cw w,fun k hk=>by rw[nd,cL];exact bQ k hk,fun b hb=>.inl ⟨b,by rw[nd,cc]at hb;exact hb,rfl⟩⟩,VU⟩;refine nU (st:={st.bC key n.aO.length with rows:=dm (kP G key 0 n.aO) st.rows}) j4.tmps ?_;simp only[aV.af,I1];rfl;rw[nd,cc,dq];have hm:=j4.mem;exact⟨hm.nJ,hm.bb,fun r hr h1=>hm.row r (ho r hr h1) h1,fun b hb r hr h1=>hm.br b hb r (ho r hr h1) h1,fun r hr r' cY cV hw h1 h2=>hm.rr r (ho r hr h1) r' (ho r' cY h2) cV hw h1 h2⟩;refine⟨?_,?_,?_⟩;refine gQ (st:={st.bC key n.aO.length with rows:=dm (kP G key 0 n.aO) st.rows}) (fun t s ht=>aV.aG bQ (hs.names.tmps t s ht)) ?_;simp only[aV.all,SV.all,ao];exact⟨BE.aG bQ s6,D2 _ PQ⟩;rw[nd,cc,cL];exact fun b hb=>iQ.aG bQ (hs.names.aY b hb);rw[nd,dq,cL];intro r' cY;rcases bO.1 cY with cY|cY;obtain⟨m,e,kk,hm,rfl⟩:=rn r' cY;have:=cK m (dh.1 hm).1;simp only[Row.all,ao];exact⟨this,this,BE.aG bQ s6⟩;exact Row.aG bQ (hs.names.rows r' cY)
 . exact dy.put (st:={st.bC key n.aO.length with rows:=dm (kP G key 0 n.aO) st.rows}) (j4.nest.next (cQ (p:=st.has)) rfl bQ (cw w) (fun k hk=>by cases hk) rfl (fun b hb=>.inl ⟨b,hb,rfl⟩) (fun r' cY h1 b hb=>.inl ⟨r',ho r' cY h1,id,h1,hb⟩))
end
section
open Go.RowKit
variable {ae:aH}{ph:Ph}{P:Program}
variable{e:TypeId}{w:World}{t:TypeId}{B:Nat}{k:aH->Prop}{o:Oper}{ra:Row}{st:St}{w0:World}{x:Operand}{Γ:bX}{n room sz:Nat}{y:Operand}
theorem Ho{ty:TypeId}{a0:Option Addr}{y:Value}{m:Nat}{xs news:List Value}(ht:P.underlying t=some (.slice e))(hr:lZ P e=some room)(wg:P.cellsOf e=sz)
   (h0:a0=none->n=0) (sR:∀j u,xs[j]?=some u->∃a,a0=some a/\w.cell? (a.add j)=some u) (qz:xs.length=n*sz) (hy:Reads w y m news) (hl:news.length=m*sz) (h1:∀u∈news,u.oneCell'=true) (uO:0<m) (lM:n+m<=room) (hB:B<=w.heap.size) :
   ∃(sl:Option Addr×Nat×Nat) (w':World),(Builtin.append_ #[t,t] ty #[.slice a0 n n,y]).run P w = .ok (.slice sl.1 sl.2.1 sl.2.2) w'/\w'.ownsRow B e sz (.slice sl.1 sl.2.1 sl.2.2) (n+m) (xs++news)/\w.grownBy w' none/\
     ((Value.slice sl.1 sl.2.1 sl.2.2).ownBlock=none\/(Value.slice sl.1 sl.2.1 sl.2.2).ownBlock=some w.heap.size):=by
 cases a0 with
 | none=>
   have hn:=h0 rfl;subst hn;have:xs=[]:=C1 (by rw[qz,Nat.zero_mul]);subst this;obtain⟨sl,w',e1,e2,e3,e4⟩:=tE (ty:=ty) ht hr wg (World.ownsRow_nil w B e sz) hy hl h1 lM hB;exact⟨sl,w',e1,e2,e3,e4⟩
 | some b=>
   unfold lZ at hr;cases hi:P.info? e with
   |none=>simp[hi]at hr
   | some i=>
     simp only[hi]at hr;cases hz:i.zero with
     |none=>simp[hz]at hr
     | some z=>
       simp only[hz]at hr;split at hr;rename_i hc;simp only[ao,aM]at hc;obtain⟨⟨ma,DZ⟩,hzs⟩:=hc;simp only[ah]at hr;subst hr;have ZR:i.size=sz:=by rw[<- wg,rO hi]
       have hby:(n+m)*i.bytes<=140737488355328:=(Nat.le_div_iff_mul_le ma).1 lM;have Lg:n+m<=maxLen:=by
         have:n+m<=(n+m)*i.bytes:=Nat.le_mul_of_pos_right _ ma;unfold maxLen;omega
       obtain⟨base,cap,rfl,hm,wa,iW⟩:=hy;cases base with
       |none=>have:=(wa rfl).1;omega
       | some a=>
         have agn:0<sz:=by omega
         have hlen:(xs++news).length=(n+m)*sz:=by rw[ff,qz,hl,lR]
         obtain⟨v',w',e1,e2,e3⟩:=run_append_arg_grows (P:=P) w t ty e i z sz i.bytes ht hi hz ZR rfl (by rw[hzs,ZR]) agn b n n xs qz
           (fun j u hj=>by obtain⟨a',e,h⟩:=sR j u hj;simp only[ah]at e;subst e;exact h) a m cap news hl
           (fun j u hj=>by obtain⟨a',e,h⟩:=iW j u hj;simp only[ah]at e;subst e;exact h) (by omega) Lg hby
         obtain⟨sl,rfl⟩:=lY e2;refine⟨sl,w',e1,⟨e2.1,?_⟩,e3,?_⟩;rcases e2.2 with hh|⟨g,qB,cur,f1,f2,f3⟩;exact .inl hh;exact .inr ⟨g,qB,cur,f1,by omega,f3⟩;rcases e2.2 with⟨hh,_⟩|⟨g,qB,cur,f1,f2,f3,f4⟩;left;rw[hh];rfl
         ·
           right;have hr:=run_append_grow (P:=P) w t ty e i z ht hi hz b n n xs (by rw[qz,ZR]) (fun j u hj=>by obtain⟨a',e,h⟩:=sR j u hj;simp only[ah]at e;subst e;exact h) a m cap news (by rw[hl,ZR])
             (fun j u hj=>by obtain⟨a',e,h⟩:=iW j u hj;simp only[ah]at e;subst e;exact h) (by omega) (by unfold maxLen at Lg;omega) (growslice_fits (by omega) hby)
           rw[e1]at hr;simp only[Result.ok.injEq]at hr;rw[hr.1];rfl
       cases hr
theorem Bj{a8:St}{a:Act}{key:Nat}{du:List Ev}{rb:Row}
   (hs:Sat w0 ae ph st a w) (ho:o.op = .call {callee:=.builtin .append,args:=#[x,y],argTypes:=#[t,t] }) (hu:P.underlying t=some (.slice e)) (hr:lZ P e=some room)
   (hx:bB st (.c true) x=some (.cs ra.id)) (hy:bB st (.c true) y=some (.s rb.id)) (wm:ra∈st.rows) (xu:rb∈st.rows) (Nk:ra.g = .c true) (E9:rb.g = .c true) (nL:ra.ks=rb.ks) (qI:P.cellsOf e=ra.ks.length)
   (h:newRow st (.c true) key e ra.ks [.aL (BE.lt (.c 0) (.len rb.lv)).mk,.aL (BE.le (IE.add (.len ra.lv) (.len rb.lv)).mk (.c (room:Int))).mk] (.app ra.lv rb.lv) st.rows o.dst=some (du,a8)) (hk:aT Γ du k ae) :
   oT Γ P w0 ae ph st a8 o a w k:=by
 unfold newRow at h;split at h;rename_i aX;simp only[ao]at aX;obtain⟨aX,s6⟩:=aX;simp only[ah,aA]at h;obtain⟨rfl,rfl⟩:=h;obtain⟨h0,hk⟩:=jE (es:=[.aL (BE.le (IE.add (.len ra.lv) (.len rb.lv)).mk (.c (room:Int))).mk,.cH key (.app ra.lv rb.lv)]) hk;obtain⟨h1,hk⟩:=jE (es:=[.cH key (.app ra.lv rb.lv)]) hk;have h0:=fu h0;have h1:=cf h1;rw[IE.cz]at h1;simp only[IE.af]at h0 h1;have dr:k (ae.set key (.l ((ae ra.lv).list++(ae rb.lv).list))):=hk;have Fc:=hs.mem.row ra wm (by rw[Nk];rfl);have ZW:=hs.mem.row rb xu (by rw[E9];rfl);have ex:=aC hx cn hs.tmps;have ey:=aC hy cn hs.tmps;simp only[ai.af]at ex ey;obtain⟨base,cap,hv,hn,ma,iW⟩:=Fc.reads;have jN:ph.v ra.id=(base,(ae ra.lv).list.length,cap):=by
   simp only[Ph.val,Value.slice.injEq]at hv;exact Prod.ext hv.1 (Prod.ext hv.2.1 hv.2.2)
 rw[jN]at ex;have adk:=ZW.reads;rw[<- nL]at adk;obtain⟨sl,w',e1,e2,e3,e5⟩:=Ho (ty:=o.type) hu hr qI (fun e=>(ma e).1) iW (bT _ _) adk (bT _ _) (jl _ _) (by omega) (by omega) hs.below.size;rw[<- mH,<- ff]at e2;have eX:=lX (dst:=o.dst) (sl:=sl) (row:=none) (rows:=st.rows) hs s6 cn aX Fc.1 (fun _ h=>h) e3 (fun _ h=>by cases h) (fun _ _=>by simp) (fun _ _ _ _ _=>by simp) e2 (by
   rcases e5 with e5|e5;exact .inl e5;exact .inr (.inl e5))
 have hW:sT st ph o.op=none:=by simp[ho,sT,hx]
 refine⟨.value (.slice sl.1 sl.2.1 sl.2.2),w',_,_,_,?_,rfl,by rw[hW];exact eX,dr⟩;simp only[execOp,ho,resolve,invoke,builtin,eU,fX,eP,List.map_toArray,kD,rM,ex,ey,e1];cases h
theorem D3{base:Option Addr}{cap:Nat}{xs:List Value}(bN:w.ownsRow B e sz (.slice base n cap) n xs)(vs:List Value)(hl:vs.length<=n*sz)(h1:∀v∈vs,v.oneCell'=true) :
   ∃w',(∀a,base=some a->(storeCells a vs).run P w = .ok () w')/\(base=none->w'=w)/\w'.ownsRow B e sz (.slice base n cap) n (vs++xs.drop vs.length)/\w.grownBy w' (Value.slice base n cap).ownBlock:=by
 obtain⟨qz,⟨e1,iI⟩|⟨g,qB,cur,e1,hg,hh,vV,M5,iW,tB⟩⟩:=bN;simp only[Value.slice.injEq]at e1;obtain⟨rfl,rfl,rfl⟩:=e1;have mo:vs=[]:=C1 (by simpa using hl);have sR:xs=[]:=C1 (by simpa using qz);subst mo sR;exact⟨w,(by intro a h;cases h),(by intro _;rfl),World.ownsRow_nil _ _ _ _,jm (cw w)⟩;simp only[Value.slice.injEq,true_and]at e1;obtain⟨rfl,rfl⟩:=e1;have oR:cur.toList.length=cap*sz:=by simpa using iW
 have hle:n*sz<=cap*sz:=yJ _ vV;obtain⟨w',hr,iG,Pb⟩:=kO (P:=P) g e 0 vs 0 cur.toList w (by simpa using hh) (by rw[oR];omega) h1;have rN:=uQ vs cur.toList 0 0 (by rw[oR];omega);rw[rN]at Pb;simp only[gK,iM,List.take_zero,nc]at Pb;refine⟨w',(by intro a ha;cases ha;exact hr),(by intro h;cases h),⟨?_,.inr ⟨g,cap,_,rfl,hg,Pb,vV,M5,?_,?_⟩⟩,iG⟩;simp only[ff,List.length_drop,qz];omega;simp only[List.size_toArray,ff,List.length_drop,oR];omega;simp only[EW];rw[List.take_append,oS (by omega),<- tB];congr 1;rw[List.drop_take]
theorem Dd(ks:List CK):∀(xs:List (List Int)) (n:Nat),aF ks (xs.drop n)=(aF ks xs).drop (n*ks.length):=by
 intro xs;induction xs with
 |nil=>intro n;simp[aF]
 | cons r rs ih=>
   intro n;cases n with
   |zero=>simp
   | succ n=>
     simp only[List.drop_succ_cons,aF,ih];rw[show(n+1)*ks.length=ks.length+n*ks.length by rw[lR];omega,List.drop_append,cJ,xt (l:=bS ks 0 r) (by rw[cJ];omega),nc];congr 1;omega
theorem PZ{r:Row}(h:gH B ae ph r w):∃base cap,ph.val r.id = .slice base (ae r.lv).list.length cap/\(base=none->(ae r.lv).list.length=0/\cap=0):=by
 obtain⟨base,cap,hv,_,ma,_⟩:=h.reads;exact⟨base,cap,hv,ma⟩
theorem Nl(h:(P.info? e).isSome=true):∃i,P.info? e=some i/\i.size=P.cellsOf e:=by
 obtain⟨i,hi⟩:=A6.1 h;exact⟨i,hi,(rO hi).symm⟩
theorem Nn{a:Act}{key:Nat}{rb:Row}
   (hs:Sat w0 ae ph st a w) (ho:o.op = .call {callee:=.builtin .copy,args:=#[x,y],argTypes:=#[t,t] }) (hu:P.underlying t=some (.slice e))
   (hx:bB st (.c true) x=some (.s ra.id)) (hy:bB st (.c true) y=some (.s rb.id)) (wm:ra∈st.rows) (xu:rb∈st.rows) (bN:ra.own=true) (Nk:ra.g = .c true) (E9:rb.g = .c true) (nL:ra.ks=rb.ks) (qI:P.cellsOf e=ra.ks.length)
   (hi:(P.info? e).isSome=true) (aX:st.free key 1=true) (hk:aT Γ [.cH key (.P2 ra.lv rb.lv)] k ae) :
   oT Γ P w0 ae ph st ({st.bC key 1 with rows:=dz {ra with lv:=key} (st.rows.filter fun r=>decide (r.id≠ra.id)) }.put o.dst ⟨.c true,.v (.one (.i .i64 (.min (.len ra.lv) (.len rb.lv))))⟩) o a w k:=by
 have Jl:ra.g.af ae=true:=by rw[Nk];rfl
 have Fc:=hs.mem.row ra wm Jl;have ZW:=hs.mem.row rb xu (by rw[E9];rfl);have ex:=aC hx cn hs.tmps;have ey:=aC hy cn hs.tmps;simp only[ai.af]at ex ey;have dj:=Fc.2;rw[if_pos bN]at dj;obtain⟨ba,ca,jN,hba⟩:=PZ Fc;obtain⟨bb,cb,hvb,hnb,hbb,hcb⟩:=ZW.reads;rw[jN]at dj;obtain⟨i,hii,his⟩:=Nl hi;obtain⟨m,hm⟩:∃m,m=Nat.min (ae rb.lv).list.length (ae ra.lv).list.length:=⟨_,rfl⟩;have xj:m<=(ae rb.lv).list.length:=by rw[hm];exact Nat.min_le_left _ _
 have IZ:m<=(ae ra.lv).list.length:=by rw[hm];exact Nat.min_le_right _ _
 obtain⟨vs,mo⟩:∃vs,vs=aF rb.ks ((ae rb.lv).list.take m):=⟨_,rfl⟩;have tC:vs.length=m*ra.ks.length:=by rw[mo,bT,vr,nL];congr 1;omega
 have hlm:m*ra.ks.length<=(ae ra.lv).list.length*ra.ks.length:=yJ _ IZ;obtain⟨w',fc,P3,jo,iG⟩:=D3 (P:=P) dj vs (by omega) (by rw[mo];exact jl _ _);have yP:(dw.P2 ra.lv rb.lv).af ae=(ae rb.lv).list.take m++(ae ra.lv).list.drop m:=by
   simp only[dw.af];rw[hm];rcases Nat.le_total (ae rb.lv).list.length (ae ra.lv).list.length with hle|hle;rw[show Nat.min (ae rb.lv).list.length (ae ra.lv).list.length=(ae rb.lv).list.length from Nat.min_eq_left hle];rw[oS hle,oS (fz _)];rw[show Nat.min (ae rb.lv).list.length (ae ra.lv).list.length=(ae ra.lv).list.length from Nat.min_eq_right hle];rw[xt hle,xt (fz _)]
 obtain⟨mR,E5⟩:∃mR,mR=(ae rb.lv).list.take m++(ae ra.lv).list.drop m:=⟨_,rfl⟩;have dr:k (ae.set key (.l mR)):=by rw[E5,<- yP];exact hk
 have qz:mR.length=(ae ra.lv).list.length:=by rw[E5];simp only[ff,vr,List.length_drop];omega
 have hfr:aF ra.ks mR=vs++(aF ra.ks (ae ra.lv).list).drop vs.length:=by
   rw[E5,mH,mo,<- nL,Dd,bT];congr 2;rw[vr];congr 1;omega
 have hW:sT st ph o.op=(ph.val ra.id).ownBlock:=by simp[ho,sT,hx]
 have wb:st.has key=false:=df aX (fz _) (by omega);have mJ:=fun(q:Row) (hq:q∈st.rows)=>by
   have:=hs.names.rows q hq;simpa only[Row.all,ao]using this
 have cV:∀k,st.has k=true->k≠key:=fun k hk e=>by rw[e,wb]at hk;cases hk
 refine⟨.value (goInt m),w',_,ae.set key (.l mR),ph,?_,rfl,?_,dr⟩;have hfc:∀sl:Option Addr,bb=sl->(Builtin.firstCells ra.ks.length m (.slice sl (ae rb.lv).list.length cb)).run P w = .ok vs.toArray w:=by
   intro sl GR;cases sl with
   | none=>
     have:=(hbb GR).1;have uO:m=0:=by omega
     rw[mo,uO];simp[Builtin.firstCells,aF]
   | some b=>
     have Jb:=run_firstCells_some (P:=P) w ra.ks.length m b (ae rb.lv).list.length cb vs tC (fun j u hj=>by
       have:(aF rb.ks (ae rb.lv).list)[j]?=some u:=by
         rw[mo,vH]at hj;rw[A9]at hj;split at hj;exact hj;cases hj
       obtain⟨a',e,h⟩:=hcb j u this;rw[GR,ah]at e;subst e;exact h)
     exact Jb
 have hfc:=hfc bb rfl;simp only[execOp,ho,resolve,invoke,builtin,eU,fX,eP,List.map_toArray,kD,rM,ex,ey,jN,hvb];have cP:(Builtin.copy_ #[t,t] o.type #[.slice ba (ae ra.lv).list.length ca,.slice bb (ae rb.lv).list.length cb]).run P w = .ok (goInt m) w':=by
   simp only[Builtin.copy_,List.getElem?_toArray,kB,A1,eU,run_underlying hu,eP,Builtin.lenOf,fX,cm (P:=P) (t:=e) (by rw[qI];exact Fc.1),qI,<- hm,hfc];cases Np:ba with
   |none=>simp[P3 Np]
   |some b=>simp[fc b Np]
 rw[cP];rfl;rw[hW];refine tv hs wm bN Jl aX (by rw[jN,qz,hfr];exact jo) (by rw[jN];exact iG) ?_ ?_;simp only[aV.all,BE.all,SV.all,V1.all,ai.all,IE.all,Bool.true_and,ao];exact⟨gP (mJ ra wm).2.1,gP (mJ rb xu).2.1⟩;simp only[aV.af,BE.af,if_true,SV.af,V1.af,ai.af,IE.af,aH.set,cV _ (mJ ra wm).2.1,cV _ (mJ rb xu).2.1,if_false,goInt];congr 1;rw[hm];have:((Nat.min (ae rb.lv).list.length (ae ra.lv).list.length:Nat):Int)=min ((ae ra.lv).list.length:Int) ((ae rb.lv).list.length:Int):=by
   have:Nat.min (ae rb.lv).list.length (ae ra.lv).list.length=min (ae rb.lv).list.length (ae ra.lv).list.length:=rfl;rw[this];omega
 exact this
theorem Jp{a:Act}{key:Nat}{z:V1}
   (hs:Sat w0 ae ph st a w) (ho:o.op = .call {callee:=.builtin .clear,args:=#[x],argTypes:=#[t] }) (hu:P.underlying t=some (.slice e))
   (hx:bB st (.c true) x=some (.s ra.id)) (wm:ra∈st.rows) (bN:ra.own=true) (Nk:ra.g = .c true) (qI:P.cellsOf e=ra.ks.length) (hz:qE P e=some z) (Vs:z.leaves=ra.ks.map zeroOf)
   (aX:st.free key 1=true) (hk:aT Γ [.cH key (.rep (.len ra.lv) (List.replicate ra.ks.length 0))] k ae) :
   oT Γ P w0 ae ph st ({st.bC key 1 with rows:=dz {ra with lv:=key} (st.rows.filter fun r=>decide (r.id≠ra.id)) }.put o.dst ⟨.c true,.IY []⟩) o a w k:=by
 have Jl:ra.g.af ae=true:=by rw[Nk];rfl
 have Fc:=hs.mem.row ra wm Jl;have ex:=aC hx cn hs.tmps;simp only[ai.af]at ex;have dj:=Fc.2;rw[if_pos bN]at dj;obtain⟨ba,ca,jN,hba⟩:=PZ Fc;rw[jN]at dj;obtain⟨n,hn⟩:∃n,n=(ae ra.lv).list.length:=⟨_,rfl⟩;rw[<- hn]at dj jN hba;obtain⟨i,zv,hii,ZT,ik⟩:=tG (ae:=ae) (ph:=ph) hz;rw[Vs]at ik;have hzs:zv.cells.size=ra.ks.length:=by rw[ik];simp
 have adl:=yO ik n;have Vt:(Builtin.zeroCells zv.cells n).toList=aF ra.ks (List.replicate n (List.replicate ra.ks.length 0)):=by
   rw[<- adl];simp only[Builtin.zeroCells,madeCells,hzs]
 obtain⟨vs,mo⟩:∃vs,vs=aF ra.ks (List.replicate n (List.replicate ra.ks.length 0)):=⟨_,rfl⟩;rw[<- mo]at Vt;have tC:vs.length=n*ra.ks.length:=by rw[mo,bT,List.length_replicate]
 obtain⟨w',fc,P3,jo,iG⟩:=D3 (P:=P) dj vs (by omega) (by rw[mo];exact jl _ _);have hd:(aF ra.ks (ae ra.lv).list).drop vs.length=[]:=xt (by rw[bT,tC,hn];exact fz _);rw[hd,qH]at jo;obtain⟨mR,E5⟩:∃mR,mR=List.replicate n (List.replicate ra.ks.length (0:Int)):=⟨_,rfl⟩;have dr:k (ae.set key (.l mR)):=by
   have:k (ae.set key (.l ((dw.rep (.len ra.lv) (List.replicate ra.ks.length 0)).af ae))):=hk;simp only[dw.af,IE.af,<- hn,xm,<- E5]at this;exact this
 have hW:sT st ph o.op=(ph.val ra.id).ownBlock:=by simp[ho,sT,hx]
 refine⟨.value (.tuple #[]),w',_,ae.set key (.l mR),ph,?_,rfl,?_,dr⟩;simp only[execOp,ho,resolve,invoke,builtin,eU,fX,eP,List.map_toArray,kD,rM,ex,jN];have cP:(Builtin.clear_ #[t] o.type #[.slice ba n ca]).run P w = .ok (.tuple #[]) w':=by
   simp only[Builtin.clear_,List.getElem?_toArray,kB,eU,run_underlying hu,eP];cases Np:ba with
   | none=>
     have:=P3 Np;subst this;simp
   | some b=>
     cases po:n with
     | zero=>
       have ago:vs=[]:=C1 (by rw[tC,po,Nat.zero_mul]);have:=fc b Np;rw[ago]at this;simp only[storeCells,fX,Result.ok.injEq,true_and]at this;subst this;simp
     | succ n'=>
       rw[po]at Vt;have hze:(zeroValue e).run P w = .ok zv w:=by simp[zeroValue,typeInfo,hii,ZT]
       simp[hze,Vt,fc b Np]
 rw[cP];rfl;rw[hW];have xl:mR.length=n:=by rw[E5];simp
 refine tv hs wm bN Jl aX (by rw[jN,xl,E5,<- mo];exact jo) (by rw[jN];exact iG) rfl rfl
end
section
open Go.RowKit
variable {ae:aH}{ph:Ph}{P:Program}
variable{e:TypeId}{st:St}{w:World}{k:aH->Prop}{ls:List ai}{n:Nat}{o:Oper}{parts:Array (Nat×Operand)}{ps:List (Nat×V1)}{sz:Nat}{t:TypeId}{w0:World}{Γ:bX}
theorem Ng{a:Act}{src Nh:TypeId}{x:Operand}{key:Nat}{bs:List UInt8}
   (hs:Sat w0 ae ph st a w) (ho:o.op = .convert src Nh x) (ZV:P.underlying src=some .string) (hd:P.underlying Nh=some (.slice e)) (he:P.underlying e=some (.int .u8)) (hx:bB st (.c true) x=some (.str bs)) (hlen:bs.length<=4096)
   (aX:st.free key 1=true) (hk:aT Γ [.cH key (.lit (bs.map fun b=>[Sum.inl (IE.c (b.toNat:Int))]))] k ae) :
   oT Γ P w0 ae ph st ({st.bC key 1 with rows:=dz ⟨key,e,[.i .u8],key,false,.c true⟩ st.rows}.put o.dst ⟨.c true,.v (.one (.kb key bs))⟩) o a w k:=by
 have ex:=aC hx cn hs.tmps;simp only[ai.af]at ex;obtain⟨s,hsd⟩:∃s:ByteArray,s=⟨bs.toArray⟩:=⟨_,rfl⟩;rw[<- hsd]at ex;have hss:s.size=bs.length:=by rw[hsd];simp[ByteArray.size]
 have cP:=run_bytes_of_string (P:=P) w src Nh e s ZV hd he;have ng:=grownCap_ge w s.size 0 e;obtain⟨cap,Px⟩:∃cap,cap=grownCap w s.size 0 e:=⟨_,rfl⟩;rw[<- Px]at cP ng;obtain⟨xs,sR⟩:∃xs:List (List Int),xs=bs.map fun b=>[(b.toNat:Int)]:=⟨_,rfl⟩;have dr:k (ae.set key (.l xs)):=by
   have:k (ae.set key (.l ((dw.lit (bs.map fun b=>[Sum.inl (IE.c (b.toNat:Int))])).af ae))):=hk;have e:(dw.lit (bs.map fun b=>[Sum.inl (IE.c (b.toNat:Int))])).af ae=xs:=by
     rw[sR];simp only[dw.af,List.map_map];apply xh;intro b _;rfl
   rw[e]at this;exact this
 have qz:xs.length=bs.length:=by rw[sR];simp
 have wb:st.has key=false:=df aX (fz _) (by omega);have cV:∀k,st.has k=true->k≠key:=fun k hk e=>by rw[e,wb]at hk;cases hk
 obtain⟨sl,GR⟩:∃sl:Option Addr×Nat×Nat,sl=(some ⟨w.heap.size,0,none⟩,bs.length,cap):=⟨_,rfl⟩;have bM:bA st.has ae (ae.set key (.l xs)) ph (ph.xq key sl):=⟨fun k hk=>by simp[aH.set,cV k hk],fun _ _=>rfl,fun k hk=>by simp[Ph.xq,cV k hk]⟩;have gm:(ph.xq key sl).val key = .slice (some ⟨w.heap.size,0,none⟩) bs.length cap:=by simp[Ph.val,Ph.xq,GR]
 have zG:(st.bC key 1).has key=true:=jn (fz _) (by omega);have hW:sT st ph o.op=none:=by simp[ho,sT]
 obtain⟨W,hWd⟩:∃W,W=w.drew.alloc (.cells (bytesRow s cap) e ((bytesRow s cap).size,(bytesRow s cap).size+1)):=⟨_,rfl⟩;rw[<- hWd]at cP;have agm:w.grownBy W none:=by
   rw[hWd];exact⟨rfl,rfl,rfl,by simp,fun k hk _=>heap_alloc_old w.drew _ (show k<w.drew.heap.size from by simpa using hk)⟩
 refine⟨.value (.slice (some ⟨w.heap.size,0,none⟩) s.size cap),W,a.put o.dst (.slice (some ⟨w.heap.size,0,none⟩) s.size cap),ae.set key (.l xs),ph.xq key sl,?_,rfl,?_,dr⟩;simp only[execOp,ho,ex,eU,cP,eP,fX];rw[hW,hss];refine E3 (nr:=⟨key,e,[.i .u8],key,false,.c true⟩) hs rfl rfl rfl aX (fun _ h=>h) agm (fun _ h=>by cases h) bM rfl zG (fun _ _=>by simp) (fun _ _ _ _ _=>by simp) ⟨by simp,?_⟩ (fun k hk=>?_) ?_ ?_;simp only[jG,if_false,gm,aH.set,if_true,DV.list,qz];refine⟨_,cap,rfl,⟨by unfold maxLen;omega,by omega⟩,fun h=>by simp at h,fun j u hj=>⟨_,rfl,?_⟩⟩;have I0:j<bs.length:=by
   have:=(dh.1 hj).1;rw[bT,qz]at this;simpa using this
 have hf:=mX [.i .u8] xs j 0 (by omega) (by simp);simp only[List.length_singleton,Nat.mul_one,iM]at hf;rw[hf]at hj;have Ni:xs.getD j []=[((bs[j]'I0).toNat:Int)]:=by simp[sR,List.getD,I0]
 simp only[kB,tn,ah,Ni]at hj;subst hj;rw[jH];have hh:W.heap[w.heap.size]?=some (.cells (bytesRow s cap) e ((bytesRow s cap).size,(bytesRow s cap).size+1)):=by rw[hWd];exact heap_alloc_new w.drew _
 simp only[World.cell?,hh,gK];rw[hsd];simp[bytesRow,Array.getElem?_append,I0,CK.val];simp only[Row.b9,Bool.false_or,gm,Value.ownBlock]at hk;split at hk;simp only[ah]at hk;exact .inr (by omega);cases hk;simp only[aV.all,BE.all,SV.all,V1.all,ai.all,Bool.true_and];exact zG;simp[aV.af,BE.af,SV.af,V1.af,ai.af,gm]
theorem Nj(sz:Nat):∀(n i:Nat) (ps:List (Nat×V1)) (ls:List ai) (cells:List Value),kQ sz n i ps=some ls->cells.length=(i+n)*sz->
   Instr.fill (fun i=>some (i*sz,sz)) cells.toArray (ps.map fun p=>(p.1,p.2.af ae ph))=some (cells.take (i*sz)++ls.map (ai.af ae ph)).toArray/\ls.length=n*sz:=by
 intro n;induction n with
 | zero=>
   intro i ps ls cells h hl;cases ps with
   | nil=>
     simp only[kQ,ah]at h;subst h;refine⟨?_,by simp⟩;simp only[rM,Instr.fill,qH];rw[oS (by rw[hl,iM];exact fz _)]
   |cons p ps=>simp[kQ]at h
 | succ n ih=>
   intro i ps ls cells h hl;cases ps with
   |nil=>simp[kQ]at h
   | cons p ps=>
     obtain⟨j,v⟩:=p;simp only[kQ]at h;split at h;rename_i E8;obtain⟨rfl,tC⟩:=E8;simp only[bH]at h;obtain⟨K7,VW,rfl⟩:=h;have Al:(v.leaves.map (ai.af ae ph)).length=sz:=by rw[lS,tC]
     have wi:(i+(n+1))*sz=i*sz+sz+n*sz:=by rw[lR,lR,Nat.one_mul];omega
     simp only[kD,Instr.fill,V1.fR];rw[if_neg (by simp[tC,hl,wi]<;>omega)];have rN:=uQ (v.leaves.map (ai.af ae ph)) cells (i*sz) 0 (by rw[Al,hl,wi];omega);have M8:((v.leaves.map (ai.af ae ph)).toArray.zipIdx.foldl (fun cs (x:Value×Nat)=>cs.setIfInBounds (i*sz+x.2) x.1) cells.toArray)=(cells.take (i*sz)++v.leaves.map (ai.af ae ph)++cells.drop (i*sz+sz)).toArray:=by
       apply kM;rw[yD];simp only[EW];rw[rN,Al,iM]
     obtain⟨e1,e2⟩:=ih (i+1) ps K7 (cells.take (i*sz)++v.leaves.map (ai.af ae ph)++cells.drop (i*sz+sz)) VW (by
       simp only[ff,vr,List.length_drop,Al,hl,wi];rw[show i+1+n=i+(n+1)by omega,wi];omega)
     refine⟨?_,by simp[tC,e2,lR];omega⟩;refine(congrArg (fun c=>Instr.fill (fun i=>some (i*sz,sz)) c (ps.map fun p=>(p.1,p.2.af ae ph))) M8).trans ?_;rw[e1];congr 2;rw[show(i+1)*sz=i*sz+sz by rw[lR,Nat.one_mul]];rw[Hg (by simp only[ff,vr,Al,hl,wi];omega),oS (by simp only[ff,vr,Al,hl,wi];omega)];simp;cases h
theorem Hn{a:Act}(hu:P.underlying t=some (.slice e))(ht:gg ae ph st.tmps a.tmps){G:BE}(hG:G.af ae=true)(GQ:iH st G parts.toList=some ps)(h0:0<sz)(hz:((P.info? e).bind (·.zero)).isSome=true)
   (lM:n*sz<=16777216) (hc:P.cellsOf e=sz) (AJ:kQ sz n 0 ps=some ls) :
   (Instr.buildSlice t n (parts.map fun(i,x)=>(i,a.eval x))).run P w = .ok (.slice (some ⟨w.heap.size,0,none⟩) n n) (w.alloc (.cells (ls.map (ai.af ae ph)).toArray e))/\ls.length=n*sz:=by
 have Bd:=qa (a:=a) hG ht GQ;obtain⟨i,hi,z,Pd⟩:∃i,P.info? e=some i/\∃z,i.zero=some z:=by
   cases hi:P.info? e with
   |none=>simp[hi]at hz
   |some i=>simp[hi]at hz;exact⟨i,rfl,A6.1 hz⟩
 have hzr:(zeroValue e).run P w = .ok z w:=by simp[zeroValue,typeInfo,hi,Pd]
 obtain⟨z0,Pe⟩:∃z0:Array Value,z0.size=(0+n)*sz/\(Instr.buildSlice t n (parts.map fun(i,x)=>(i,a.eval x))).run P w =
     (match Instr.fill (fun i=>some (i*sz,sz)) z0 (ps.map fun p=>(p.1,p.2.af ae ph))with
      |some cells=>.ok (.slice (some ⟨w.heap.size,0,none⟩) n n) (w.alloc (.cells cells e))
      |none=>.halt (.stuck "buildSlice: a part of the wrong size") w):=by
   by_cases hn:n*sz=0;refine⟨Array.map (fun x=>(#[]:Array Value)[x%(#[]:Array Value).size]!) (Array.range (n*sz)),by simp,?_⟩;simp only[Instr.buildSlice,eU,run_underlying hu,eP,cm (P:=P) (w:=w) (t:=e) (by omega),hc];rw[if_neg (by omega),if_pos hn];simp only[eU,fX,eP,Array.toList_map,Bd];generalize Array.map _ (Array.range (n*sz))=zz;cases Instr.fill (fun i=>some (i*sz,sz)) zz (ps.map fun p=>(p.1,p.2.af ae ph))with
   |none=>rfl
   |some cells=>rfl
   refine⟨(Array.range (n*sz)).map (z.cells[· % z.cells.size]!),by simp,?_⟩;simp only[Instr.buildSlice,eU,run_underlying hu,eP,cm (P:=P) (w:=w) (t:=e) (by omega),hc];rw[if_neg (by omega),if_neg hn];simp only[eU,hzr,fX,eP,Array.toList_map,Bd];generalize Array.map _ (Array.range (n*sz))=zz;cases Instr.fill (fun i=>some (i*sz,sz)) zz (ps.map fun p=>(p.1,p.2.af ae ph))with
   |none=>rfl
   |some cells=>rfl
 obtain⟨ZQ,cP⟩:=Pe;obtain⟨hf,hl⟩:=Nj (ae:=ae) (ph:=ph) sz n 0 ps ls z0.toList AJ (by simpa using ZQ);simp only[Nat.zero_mul,List.take_zero,nc,Array.toArray_toList]at hf;rw[hf]at cP;exact⟨cP,hl⟩
theorem VY{a:Act}{key:Nat}
   (hs:Sat w0 ae ph st a w) (ho:o.op = .buildSlice t n parts) (hu:P.underlying t=some (.slice e)) (GQ:iH st (.c true) parts.toList=some ps) (h0:0<sz) (hz:((P.info? e).bind (·.zero)).isSome=true)
   (lM:n*sz<=16777216) (hc:P.cellsOf e=sz) (AJ:kQ sz n 0 ps=some ls) (aX:st.free key 1=true) (hla:bt st.has ls=true) (hk:k ae) :
   oT Γ P w0 ae ph st ({st.bC key 1 with aY:=mI ⟨key,e,ls⟩ st.aY}.put o.dst ⟨.c true,.v (.one (.bs key n sz))⟩) o a w k:=by
 obtain⟨cP,_⟩:=Hn (P:=P) (w:=w) (a:=a) hu hs.tmps cn GQ h0 hz lM hc AJ;have hW:sT st ph o.op=none:=by simp[ho,sT]
 have fc:=A' (a:=a) (e:=e) (dst:=o.dst) (s:=⟨.c true,.v (.one (.bs key n sz))⟩) (v:=.slice (some ⟨w.heap.size,0,none⟩) n n) hs aX hla ?_ ?_;refine⟨.value (.slice (some ⟨w.heap.size,0,none⟩) n n),_,_,ae,_,?_,rfl,by rw[hW];exact fc,hk⟩;simp only[execOp,ho,eU,cP,eP,fX];simp only[aV.all,BE.all,SV.all,V1.all,ai.all,Bool.true_and];exact jn (fz _) (by omega);simp[aV.af,BE.af,SV.af,V1.af,ai.af,Ph.qf]
end
section
open Go.RowKit
variable {ae:aH}{ph:Ph}{P:Program}
variable{w:World}{aO:List NK}{cs:List Value}{st:St}{z:Nat->Prop}{e:TypeId}{w' w0:World}{B:Nat}{a8:St}{du:List Ev}{k:aH->Prop}{o:Oper}{t:TypeId}{Γ:bX}{a7:List ej}{n:Nat}{x:Operand}
theorem iA{b x:ej}:∀ {l:List ej},b∈wj x l↔b=x\/b∈l:=by
 intro l;induction l with
 |nil=>simp[wj]
 | cons y l ih=>
   simp only[wj];split;simp;simp only[bF,ih];constructor;rintro(h|h|h)<;>simp[h];rintro(h|h|h)<;>simp[h]
theorem Bg{a:Act}{key:Nat}{xs:List (List Int)}{rows:List Row}{dst:Option Tmp}{sl:Option Addr×Nat×Nat}{row:Option Nat}{N:Nat->Prop}
   (h:Sat w0 ae ph st a w) (aX:st.free key 1=true) (Nb:0<aO.length) (fv:∀r∈rows,r∈st.rows) (zM:∀n∈a7,n∈st.a7) (hg:w.grownBy w' row)
   (bl:∀k,row=some k->w0.heap.size<=k/\¬ ph.z k/\∀n∈a7,n.own=true->(ph.val n.id).ownBlock≠some k)
   (lF:∀b∈st.aY,row≠some (ph.r b.id)) (hO:∀r∈rows,r.g.af ae=true->∀k,r.b9 ae ph=some k->row≠some k)
   (hN:∀k,N k->k<w.heap.size/\(∀b∈st.aY,ph.r b.id≠k)/\(∀r∈rows,r.g.af ae=true->r.b9 ae ph≠some k)/\(∀n∈a7,n.own=true->(ph.val n.id).ownBlock≠some k)/\row≠some k)
   (bN:EU (fun k=>(ph.z k\/N k)/\w0.heap.size<=k) w' w0.heap.size e aO (.slice sl.1 sl.2.1 sl.2.2) xs)
   (jo:(Value.slice sl.1 sl.2.1 sl.2.2).ownBlock=row\/(Value.slice sl.1 sl.2.1 sl.2.2).ownBlock=some w.heap.size\/(Value.slice sl.1 sl.2.1 sl.2.2).ownBlock=none) :
   Step w0 ae (ae.set key (.l xs)) ph {ph.xq key sl with z:=fun k=>ph.z k\/N k} st ({st.bC key 1 with rows,a7:=wj ⟨key,e,aO,key,.c true,true⟩ a7}.put dst ⟨.c true,.v (.one (.s key))⟩)
     (a.put dst (.slice sl.1 sl.2.1 sl.2.2)) w w' row:=by
 obtain⟨aQ,PT⟩:∃aQ:Ph,aQ = {ph.xq key sl with z:=fun k=>ph.z k\/N k}:=⟨_,rfl⟩;rw[<- PT];have Pd:∀k,aQ.z k↔(ph.z k\/N k):=fun k=>by rw[PT]
 have wb:st.has key=false:=df aX (fz _) (by omega);have cV:∀k,st.has k=true->k≠key:=fun k hk e=>by rw[e,wb]at hk;cases hk
 have bM:bA st.has ae (ae.set key (.l xs)) ph aQ:=⟨fun k hk=>by simp[aH.set,cV k hk],fun _ _=>by rw[PT];rfl,fun k hk=>by rw[PT];simp[Ph.xq,cV k hk]⟩;have gm:aQ.val key = .slice sl.1 sl.2.1 sl.2.2:=by rw[PT];simp[Ph.val,Ph.xq]
 have zG:(st.bC key 1).has key=true:=jn (fz _) (by omega);have bQ:∀k,st.has k=true->(st.bC key 1).has k=true:=fun k hk=>gP hk;have Hk:=h.mem.congr bM h.names.aY h.names.rows;have mJ:=fun(q:Row) (hq:q∈st.rows)=>by
   have:=h.names.rows q hq;simpa only[Row.all,ao]using this
 have fg:∀r∈st.rows,r.b9 (ae.set key (.l xs)) aQ=r.b9 ae ph:=fun r hr=>by
   unfold Row.b9;rw[<- bM.e _ (mJ r hr).2.1];simp only[Ph.val,bM.v _ (mJ r hr).1]
 have pg:∀r∈st.rows,r.g.af (ae.set key (.l xs))=r.g.af ae:=fun r hr=>(BE.aq bM.e (mJ r hr).2.2).symm;have sS:∀b∈st.aY,aQ.r b.id=ph.r b.id:=fun b hb=>by
   have:=h.names.aY b hb;simp only[iQ.all,ao]at this;exact(bM.r _ this.1).symm
 have hnv:∀n∈st.a7,aQ.val n.id=ph.val n.id/\(ae.set key (.l xs)) n.lv=ae n.lv/\n.g.af (ae.set key (.l xs))=n.g.af ae:=fun n hn=>by
   have:=h.nest.nm n hn;simp only[ej.all,ao]at this;exact⟨by simp only[Ph.val,bM.v _ this.1],(bM.e _ this.2.1).symm,(BE.aq bM.e this.2.2).symm⟩
 have Hl:∀k,(Value.slice sl.1 sl.2.1 sl.2.2).ownBlock=some k->row=some k\/k=w.heap.size:=fun k hk=>by
   rcases jo with e|e|e;exact .inl (by rw[<- e,hk]);rw[hk]at e;simp only[ah]at e;exact .inr e;rw[hk]at e;cases e
 have adh:∀k,aQ.z k->k<w.heap.size:=fun k hk=>by
   rcases(Pd k).1 hk with hk|hk;exact h.nest.lt k hk;exact(hN k hk).1
 have adi:∀k,row=some k->¬ aQ.z k:=fun k hk M3=>by
   rcases(Pd k).1 M3 with e|e;exact(bl k hk).2.1 e;exact(hN k e).2.2.2.2 hk
 refine⟨⟨?_,?_,h.below.grown hg h.below.size (fun k hk=>(bl k hk).1),by rw[cS];exact h.defers,?_,?_⟩,bM,hg,fun k hk=>by rw[cL];exact bQ k hk,fun b hb=>.inl ⟨b,by rw[cc]at hb;exact hb,rfl⟩⟩;refine nU (st:={st.bC key 1 with rows,a7:=wj ⟨key,e,aO,key,.c true,true⟩ a7}) ⟨h.tmps.1,fun t s ht=>?_⟩ ?_;rw[<- aV.aq bM (h.names.tmps t s ht)];exact h.tmps.2 t s ht;simp[aV.af,BE.af,SV.af,V1.af,ai.af,gm];rw[cc,dq];refine⟨fun b hb=>(Hk.nJ b hb).grown hg (fun e=>lF b hb (by rw[<- e,sS b hb])),Hk.bb,fun r hr h1=>?_,fun b hb r hr h1=>Hk.br b hb r (fv r hr) h1,fun r hr r' cY lW ho h1 h2=>Hk.rr r (fv r hr) r' (fv r' cY) lW ho h1 h2⟩;have eo:=fv r hr;exact(Hk.row r eo h1).grown hg (fun k hk e=>by
   rw[fg r eo]at hk;rw[pg r eo]at h1;exact hO r hr h1 k hk e.symm)
 refine⟨?_,?_,?_⟩;refine gQ (st:={st.bC key 1 with rows,a7:=wj ⟨key,e,aO,key,.c true,true⟩ a7}) (fun t s ht=>aV.aG bQ (h.names.tmps t s ht)) ?_;simp only[aV.all,BE.all,SV.all,V1.all,ai.all,Bool.true_and];exact zG;rw[cc,cL];exact fun b hb=>iQ.aG bQ (h.names.aY b hb);rw[dq,cL];exact fun r hr=>Row.aG bQ (h.names.rows r (fv r hr));refine dy.put (st:={st.bC key 1 with rows,a7:=wj ⟨key,e,aO,key,.c true,true⟩ a7}) ⟨fun k hk=>C6 (adh k hk) hg.size,fun b hb PI=>?_,fun r hr ho h1 k hk M3=>?_,fun n hn h1=>?_,fun n hn=>?_,fun n hn ho=>?_⟩;rw[sS b hb]at PI;rcases(Pd _).1 PI with e|e;exact h.nest.bz b hb e;exact(hN _ e).2.1 b hb rfl;have eo:=fv r hr;rw[fg r eo]at hk;rw[pg r eo]at h1;rcases(Pd _).1 M3 with e|e;exact h.nest.rz r eo ho h1 k hk e;exact(hN _ e).2.2.1 r hr h1 hk;rcases iA.1 hn with rfl|hn;refine⟨Nb,?_⟩;unfold fG;rw[if_pos rfl];simp only[gm,aH.set,if_true,DV.list];refine bN.mY (fun _ _=>rfl) (fun k hk=>⟨(Pd k).2 hk.1,hk.2⟩) (fun _ _=>rfl);have iI:=zM n hn;obtain⟨e1,e2,e3⟩:=hnv n iI;obtain⟨h0,CS⟩:=h.nest.rd n iI (by rw[<- e3];exact h1);refine⟨h0,?_⟩;unfold fG at *;rw[e1,e2];split;rename_i ho;rw[if_pos ho]at CS;exact CS.mY (fun k hk=>hg.block k (h.nest.lt k hk.1) (fun e=>(bl k e.symm).2.1 hk.1)) (fun k hk=>⟨(Pd k).2 (.inl hk.1),hk.2⟩) (fun k hk=>hg.block k (h.nest.pZ iI ho hk).2 (fun e=>(bl k e.symm).2.2 n hn ho hk));rename_i ho;rw[if_neg ho]at CS;exact CS.mY (fun k hk=>hg.block k (h.nest.lt k hk) (fun e=>(bl k e.symm).2.1 hk)) (fun k hk=>(Pd k).2 (.inl hk));rcases iA.1 hn with rfl|hn;simp only[ej.all,BE.all,Bool.and_true];rw[show({st.bC key 1 with rows,a7:=wj ⟨key,e,aO,key,.c true,true⟩ a7}:St).has key=(st.bC key 1).has key from rfl,zG];rfl;exact ej.aG bQ (h.nest.nm n (zM n hn));rcases iA.1 hn with rfl|hn;refine⟨rfl,fun k hk=>?_⟩;simp only[gm]at hk;have hnz:∀k',k=k'->¬ aQ.z k':=fun k' ek M3=>by
   subst ek;rcases Hl k hk with e|e;exact adi k e M3;have:=adh k M3;omega
 refine⟨hnz k rfl,fun b hb he=>?_,fun r hr iG hf=>?_,fun n' po p9 lW=>?_⟩;rw[sS b hb]at he;rcases Hl k hk with e|e;exact lF b hb (by rw[e,he]);have:=(h.mem.nJ b hb).lt;omega;have eo:=fv r hr;rw[fg r eo]at hf;rw[pg r eo]at iG;rcases Hl k hk with e|e;exact hO r hr iG k hf e;have:=(h.mem.row r eo iG).uK hf;omega;rcases iA.1 po with rfl|po;exact absurd rfl lW;have iI:=zM n' po;rw[(hnv n' iI).1];intro hf;rcases Hl k hk with e|e;exact(bl k e).2.2 n' po p9 hf;have:=(h.nest.pZ iI p9 hf).2;omega;have iI:=zM n hn;obtain⟨h1,h2⟩:=h.nest.oz n iI ho;refine⟨h1,fun k hk=>?_⟩;rw[(hnv n iI).1]at hk;obtain⟨g1,g2,g3,g4⟩:=h2 k hk;refine⟨fun M3=>?_,fun b hb he=>?_,fun r hr iG hf=>?_,fun n' po p9 lW=>?_⟩;rcases(Pd _).1 M3 with e|e;exact g1 e;exact(hN _ e).2.2.2.1 n hn ho hk;rw[sS b hb]at he;exact g2 b hb he;have eo:=fv r hr;rw[fg r eo]at hf;rw[pg r eo]at iG;exact g3 r eo iG hf;rcases iA.1 po with rfl|po;simp only[gm];intro hf;rcases Hl k hf with e|e;exact(bl k e).2.2 n hn ho hk;have:=(h.nest.pZ iI ho hk).2;omega;rw[(hnv n' (zM n' po)).1];exact g4 n' (zM n' po) p9 lW
def Hm(z:Nat->Prop)(w:World)(aO:List NK)(cs:List Value)(xs:List (List Int)):Prop:=
 ∀i r,xs[i]?=some r->∀j nk,aO[j]?=some nk->∃u,cs[i*aO.length+j]?=some u/\sF z w nk (r.getD j 0) (ij aO r j) u
theorem Hm.append{qL:List Value}{xs mR:List (List Int)}(hl:cs.length=xs.length*aO.length)(h:Hm z w aO cs xs)(h':Hm z w aO qL mR):Hm z w aO (cs++qL) (xs++mR):=by
 intro i r hi j nk hj;have I0:=(dh.1 hj).1;by_cases cu:i<xs.length;rw[qw cu]at hi;obtain⟨u,hu,hc⟩:=h i r hi j nk hj;exact⟨u,by rw[qw (dh.1 hu).1];exact hu,hc⟩;rw[s8 (by omega)]at hi;obtain⟨u,hu,hc⟩:=h' _ r hi j nk hj;have e:i*aO.length=xs.length*aO.length+(i-xs.length)*aO.length:=by rw[<- lR];congr 1;omega
 refine⟨u,?_,hc⟩;rw[s8 (by rw[hl,e];omega),hl,e,<- hu];congr 1;omega
theorem Hm.take{xs:List (List Int)}(h:Hm z w aO cs xs)(m:Nat):Hm z w aO (cs.take (m*aO.length)) (xs.take m):=by
 intro i r hi j nk hj;have I0:=(dh.1 hj).1;rw[A9]at hi;split at hi;rename_i him;obtain⟨u,hu,hc⟩:=h i r hi j nk hj;refine⟨u,?_,hc⟩;have:(i+1)*aO.length<=m*aO.length:=yJ _ him;rw[lR]at this;rw[A9,if_pos (by omega)];exact hu;cases hi
theorem Hm.VV{xs:List (List Int)}(hl:cs.length=xs.length*aO.length)(h:Hm z w aO cs xs):∀u∈cs,u.oneCell'=true:=by
 intro u hu;obtain⟨q,hq⟩:=List.getElem?_of_mem hu;have Pa:=(dh.1 hq).1;rw[hl]at Pa;have h0:0<aO.length:=by
   rcases Nat.eq_zero_or_pos aO.length with e|e;rw[e]at Pa;omega;exact e
 have hd:q/aO.length<xs.length:=(Nat.div_lt_iff_lt_mul h0).2 Pa;have hm:=Nat.mod_lt q h0;obtain⟨v,hv,hc⟩:=h (q/aO.length) _ (eT hd) (q%aO.length) _ (eT hm);rw[Nat.div_add_mod']at hv;rw[hq,ah]at hv;subst hv;cases Nb:aO[q%aO.length]with
 | c k=>
   rw[Nb]at hc;rw[show u=k.val _ from hc];exact CK.pc _ _
 | s e k=>
   rw[Nb]at hc;obtain⟨_,⟨b,c,rfl,_⟩,_⟩:=hc;rfl
theorem Hm.mY{z':Nat->Prop}{xs:List (List Int)}(h:Hm z w aO cs xs)(hz:∀k,z k->w'.heap[k]?=w.heap[k]?)(KZ:∀k,z k->z' k):Hm z' w' aO cs xs:=by
 intro i r hi j nk hj;obtain⟨u,hu,hc⟩:=h i r hi j nk hj;exact⟨u,hu,hc.mY hz KZ⟩
theorem Aq(k:CK):∀xs:List (List Int),aF [k] ((xs.map fun r=>r.getD 0 0).map fun x=>[x])=aF [k] xs:=by
 intro xs;induction xs with
 |nil=>rfl
 |cons r rs ih=>simp only[kD,aF,ih];rfl
theorem Jn(hm:kn B ae ph st.aY st.rows w)(hg:w.grownBy w' none):∀ {aO:List NK} {ls:List ai} {xs:List bU} {gone:List Nat},n7 st aO ls=some (xs,gone)->(∀r∈st.rows,r.id∈gone->r.own=true->r.g = .c true->∀k,(ph.val r.id).ownBlock=some k->z k)->
   ls.length=aO.length/\xs.length=aO.length/\∀j nk,aO[j]?=some nk->∃l,ls[j]?=some l/\sF z w' nk ((xs.map (bU.head ae)).getD j 0) (oV aO (xs.map (bU.head ae)) (xs.flatMap (bU.tail ae)) j) (l.af ae ph):=by
 intro aO;induction aO with
 | nil=>
   intro ls xs gone h _;cases ls with
   |nil=>simp only[n7,ah,aA]at h;obtain⟨rfl,rfl⟩:=h;exact⟨rfl,rfl,fun j nk hj=>by simp at hj⟩
   |cons l ls=>simp[n7]at h
 | cons nk aO ih=>
   intro ls xs gone h hz;cases ls with
   |nil=>cases nk<;>simp[n7]at h
   | cons l ls=>
     cases nk with
     | c k=>
       simp only[n7]at h;split at h;rename_i x mR gs hx sR;simp only[ah,aA]at h;obtain⟨rfl,rfl⟩:=h;obtain⟨e1,e2,e3⟩:=ih sR hz;refine⟨by simp[e1],by simp[e2],fun j nk hj=>?_⟩;cases j with
       | zero=>
         simp only[kB,ah]at hj;subst hj;refine⟨l,rfl,?_⟩;show l.af ae ph=k.val _;rw[rL (ae:=ae) (ph:=ph) hx];rfl
       | succ j=>
         obtain⟨l',h1,h2⟩:=e3 j nk (by simpa using hj);refine⟨l',by simpa using h1,?_⟩;simp only[kD,List.getD_cons_succ,oV,List.tail_cons,List.flatMap_cons,bU.tail,nc];exact h2
       cases h
     | s e k=>
       have step:∀(c:bU) (mR:List bU) (gs:List Nat),n7 st aO ls=some (mR,gs)->(∀r∈gs,r∈gone)->xs=c::mR->c.head ae=((c.tail ae).length:Int)->sF z w' (.s e k) (c.head ae) (c.tail ae) (l.af ae ph)->
           (l::ls).length=(NK.s e k::aO).length/\xs.length=(NK.s e k::aO).length/\∀j nk,(NK.s e k::aO)[j]?=some nk->∃l',(l::ls)[j]?=some l'/\sF z w' nk ((xs.map (bU.head ae)).getD j 0) (oV (NK.s e k::aO) (xs.map (bU.head ae)) (xs.flatMap (bU.tail ae)) j) (l'.af ae ph):=by
         intro c mR gs sR hgs hx hh hc;subst hx;obtain⟨e1,e2,e3⟩:=ih sR (fun r hr Nc=>hz r hr (hgs _ Nc));refine⟨by simp[e1],by simp[e2],fun j nk hj=>?_⟩;cases j with
         | zero=>
           simp only[kB,ah]at hj;subst hj;refine⟨l,rfl,?_⟩;simp only[kD,List.getD_cons_zero,oV,List.headD_cons,List.flatMap_cons,hh,xm,List.take_left];rw[<- hh];exact hc
         | succ j=>
           obtain⟨l',h1,h2⟩:=e3 j nk (by simpa using hj);refine⟨l',by simpa using h1,?_⟩;simp only[kD,List.getD_cons_succ,oV,List.tail_cons,List.headD_cons,List.flatMap_cons,hh,xm,List.drop_left];exact h2
       unfold n7 at h;split at h;rename_i heq;cases heq;rename_i heq _;cases heq;rename_i e' k' adj r K7 PU PV;simp only[List.cons.injEq,NK.s.injEq]at PU PV;obtain⟨⟨rfl,rfl⟩,rfl⟩:=PU;obtain⟨rfl,rfl⟩:=PV;split at h;rename_i x mR gs hx sR;split at h;rename_i hc;simp only[ao,aM]at hc;obtain⟨⟨⟨bN,oU⟩,he⟩,nL⟩:=hc;simp only[ah,aA]at h;obtain⟨rfl,rfl⟩:=h;obtain⟨bq,rfl⟩:=aZ hx;refine step (.s x.lv) mR gs sR (fun r hr=>bn _ hr) rfl (by simp[bU.head,bU.tail]) ?_;have CS:=(hm.row x bq (by rw[oU];rfl)).reads;rw[nL]at CS;refine⟨by simp[bU.head,bU.tail],?_,fun _ b hb=>hz x bq (aU ..) bN oU b hb⟩;simp only[bU.tail,lS];rw[Aq];exact CS.grown hg (fun _ _ _=>by simp);cases h;cases h;rename_i e' k' adj K7 PU PV;simp only[List.cons.injEq,NK.s.injEq]at PU PV;obtain⟨⟨rfl,rfl⟩,rfl⟩:=PU;obtain⟨rfl,rfl⟩:=PV;split at h;rename_i mR gs sR;simp only[ah,aA]at h;obtain⟨rfl,rfl⟩:=h;refine step .nil mR gs sR (fun r hr=>hr) rfl (by simp[bU.head,bU.tail]) ⟨rfl,⟨none,0,rfl,⟨Nat.zero_le _,Nat.zero_le _⟩,fun _=>⟨rfl,rfl⟩,fun j u hj=>?_⟩,fun cV=>absurd rfl cV⟩;simp[bU.tail,aF]at hj;cases h;cases h
theorem xw(hm:kn B ae ph st.aY st.rows w)(hg:w.grownBy w' none):∀ {n i:Nat} {ps:List (Nat×V1)} {rows:List (List bU)} {gone:List Nat},ml st aO n i ps=some (rows,gone)->(∀r∈st.rows,r.id∈gone->r.own=true->r.g = .c true->∀k,(ph.val r.id).ownBlock=some k->z k)->
   ∃ls,kQ aO.length n i ps=some ls/\rows.length=n/\Hm z w' aO (ls.map (ai.af ae ph)) (rows.map fun r=>r.map (bU.head ae)++r.flatMap (bU.tail ae)):=by
 intro n;induction n with
 | zero=>
   intro i ps rows gone h _;cases ps with
   | nil=>
     simp only[ml,ah,aA]at h;obtain⟨rfl,rfl⟩:=h;exact⟨[],rfl,rfl,fun i r hi=>by simp at hi⟩
   |cons p ps=>simp[ml]at h
 | succ n ih=>
   intro i ps rows gone h hz;cases ps with
   |nil=>simp[ml]at h
   | cons p ps=>
     obtain⟨j,v⟩:=p;simp only[ml]at h;split at h;rename_i E8;subst E8;split at h;rename_i r g rs gs hr yN;simp only[ah,aA]at h;obtain⟨rfl,rfl⟩:=h;obtain⟨e1,e2,e3⟩:=Jn (z:=z) hm hg hr (fun r hr Nc=>hz r hr (Bh _ Nc));obtain⟨ls,f1,f2,f3⟩:=ih yN (fun r hr Nc=>hz r hr (Fb _ Nc));refine⟨v.leaves++ls,by simp[kQ,e1,f1],by simp[f2],?_⟩;have h1:Hm z w' aO (v.leaves.map (ai.af ae ph)) [r.map (bU.head ae)++r.flatMap (bU.tail ae)]:=by
       intro i' r' PW j nk hj;cases i' with
       | zero=>
         simp only[kB,ah]at PW;subst PW;obtain⟨l,h1,h2⟩:=e3 j nk hj;have I0:=(dh.1 hj).1;refine⟨l.af ae ph,by simp[h1],?_⟩;have hl:(r.map (bU.head ae)).length=aO.length:=by simp[e2]
         have a1:(r.map (bU.head ae)++r.flatMap (bU.tail ae)).getD j 0=(r.map (bU.head ae)).getD j 0:=by
           simp only[cT];rw[qw (by omega)]
         have a2:ij aO (r.map (bU.head ae)++r.flatMap (bU.tail ae)) j=oV aO (r.map (bU.head ae)) (r.flatMap (bU.tail ae)) j:=by
           unfold ij;rw[List.take_left' hl,List.drop_left' hl]
         rw[a1,a2];exact h2
       |succ i'=>simp at PW
     have:=h1.append (by simp[e1]) f3;simpa using this;cases h;cases h
theorem Nd{a:Act}{parts:Array (Nat×Operand)}{ps:List (Nat×V1)}{rows:List (List bU)}{gone:List Nat}{key:Nat}
   (hs:Sat w0 ae ph st a w) (ho:o.op = .buildSlice t n parts) (hu:P.underlying t=some (.slice e)) (GQ:iH st (.c true) parts.toList=some ps) (hz:((P.info? e).bind (·.zero)).isSome=true)
   (lM:n*aO.length<=16777216) (hc:P.cellsOf e=aO.length) (hO:ml st aO n 0 ps=some (rows,gone)) (h:Dc st key e aO [] (.Bi rows) (st.rows.filter fun r=>!gone.contains r.id) st.a7 o.dst=some (du,a8)) (hk:aT Γ du k ae) :
   oT Γ P w0 ae ph st a8 o a w k:=by
 unfold Dc at h;split at h;rename_i nZ;simp only[ao,aM]at nZ;obtain⟨aX,h0⟩:=nZ;simp only[ah,aA]at h;obtain⟨rfl,rfl⟩:=h;obtain⟨N,hN⟩:∃N:Nat->Prop,N=fun k=>∃r∈st.rows,r.id∈gone/\r.own=true/\r.g = .c true/\(ph.val r.id).ownBlock=some k:=⟨_,rfl⟩;have hNz:∀k,N k->w0.heap.size<=k/\k<w.heap.size:=fun k hk=>by
   rw[hN]at hk;obtain⟨r,hr,_,Lh,PX,hb⟩:=hk;have bl:=(hs.mem.row r hr (by rw[PX];rfl)).2;rw[if_pos Lh]at bl;exact bl.lt k hb
 obtain⟨ls,AJ,hrl,_⟩:=xw (z:=fun _=>True) (ae:=ae) (ph:=ph) hs.mem (cw w) hO (fun _ _ _ _ _ _ _=>trivial);obtain⟨cP,hll⟩:=Hn (P:=P) (w:=w) (a:=a) hu hs.tmps cn GQ h0 hz lM hc AJ;have iG:w.grownBy (w.alloc (.cells (ls.map (ai.af ae ph)).toArray e)) none:=World.grownBy_alloc w _ none;obtain⟨K7,VW,_,iW⟩:=xw (z:=fun k=>(ph.z k\/N k)/\w0.heap.size<=k) (ae:=ae) (ph:=ph) hs.mem iG hO (fun r hr Nc Lh PX k hb=>by
   have:N k:=by rw[hN];exact⟨r,hr,Nc,Lh,PX,hb⟩
   exact⟨.inr this,(hNz k this).1⟩)
 rw[AJ,ah]at VW;subst VW;obtain⟨xs,sR⟩:∃xs,xs=rows.map fun r=>r.map (bU.head ae)++r.flatMap (bU.tail ae):=⟨_,rfl⟩;rw[<- sR]at iW;have qz:xs.length=n:=by rw[sR,lS,hrl]
 have dr:k (ae.set key (.l xs)):=by rw[sR];exact hk
 have iI:n<=maxLen:=by
   have:n<=n*aO.length:=Nat.le_mul_of_pos_right n h0;unfold maxLen;omega
 have bN:(w.alloc (.cells (ls.map (ai.af ae ph)).toArray e)).ownsRow w0.heap.size e aO.length (.slice (some ⟨w.heap.size,0,none⟩) n n) xs.length (ls.map (ai.af ae ph)):=by
   refine⟨by rw[lS,hll,qz],.inr ⟨w.heap.size,n,(ls.map (ai.af ae ph)).toArray,by rw[qz],hs.below.size,heap_alloc_new w _,by omega,iI,by simp[hll],?_⟩⟩;simp only[EW];exact oS (by rw[lS,hll,qz];exact fz _)
 have tw:∀q∈st.rows.filter (fun r=>!gone.contains r.id),q∈st.rows/\q.id∉gone:=fun q hq=>by
   have:=jq.1 hq;exact⟨this.1,by simpa using this.2⟩
 have eX:=Bg (ae:=ae) (ph:=ph) (dst:=o.dst) (key:=key) (e:=e) (aO:=aO) (xs:=xs) (rows:=st.rows.filter fun r=>!gone.contains r.id) (a7:=st.a7) (sl:=(some ⟨w.heap.size,0,none⟩,n,n)) (row:=none) (N:=N) hs aX h0 (fun q hq=>(tw q hq).1) (fun _ h=>h) iG (fun k hk=>by cases hk)
   (fun b _=>by simp) (fun r _ _ k _=>by simp) (fun k hk=>by
     have cu:=(hNz k hk).2;rw[hN]at hk;obtain⟨r,hr,Nc,Lh,PX,hb⟩:=hk;have mb:r.g.af ae=true:=by rw[PX];rfl
     obtain⟨⟨_,_,a1⟩,a2,a3⟩:=nM (B:=0) hs hr Lh mb hb;exact⟨cu,fun b nX e=>a2 b nX (by rw[e]),fun q hq PL hf=>a3 q (tw q hq).1 (fun e=>(tw q hq).2 (by rw[e];exact Nc)) PL k hf rfl,a1,by simp⟩) ⟨_,bN,iW⟩ (.inr (.inl rfl))
 have hW:sT st ph o.op=none:=by simp[ho,sT]
 refine⟨.value (.slice (some ⟨w.heap.size,0,none⟩) n n),_,_,_,_,?_,rfl,by rw[hW];exact eX,dr⟩;simp only[execOp,ho,eU,cP,eP,fX];cases h
theorem xx{a:Act}{y:Operand}{key room:Nat}{v:Value}{xs:List (List Int)}{rb:ej}{ne:BE}{op:dw}
   (hs:Sat w0 ae ph st a w) (ho:o.op = .call {callee:=.builtin .append,args:=#[x,y],argTypes:=#[t,t] }) (hu:P.underlying t=some (.slice e)) (hr:lZ P e=some room)
   (hx:a.eval x=v) (hy:bB st (.c true) y=some (.s rb.id)) (xu:rb∈st.a7) (PM:rb.own=true) (qI:P.cellsOf e=rb.aO.length)
   (hv:w.ownsRow w0.heap.size e rb.aO.length v xs.length cs) (iW:Hm (fun k=>ph.z k/\w0.heap.size<=k) w rb.aO cs xs) (hW:sT st ph o.op=v.ownBlock) (zM:∀n∈a7,n∈st.a7)
   (ZS:∀k,v.ownBlock=some k->¬ ph.z k/\(∀n∈a7,n.own=true->(ph.val n.id).ownBlock≠some k)/\(∀b∈st.aY,ph.r b.id≠k)/\∀r∈st.rows,r.g.af ae=true->r.b9 ae ph≠some k)
   (qg:op.af ae=xs++(ae rb.lv).list) (cV:ne.af ae=true->xs.length+(ae rb.lv).list.length<=room)
   (h:Dc st key e rb.aO [.aL ne] op st.rows a7 o.dst=some (du,a8)) (hk:aT Γ du k ae) :
   oT Γ P w0 ae ph st a8 o a w k:=by
 unfold Dc at h;split at h;rename_i nZ;simp only[ao,aM]at nZ;obtain⟨aX,h0⟩:=nZ;simp only[ah,aA]at h;obtain⟨rfl,rfl⟩:=h;obtain⟨hn,hk⟩:=jE (es:=[.cH key op]) hk;have dr:k (ae.set key (.l (xs++(ae rb.lv).list))):=by rw[<- qg];exact hk
 obtain⟨E9,_,csb,Ys,VX⟩:=hs.nest.own xu PM;have ey:=aC hy cn hs.tmps;simp only[ai.af]at ey;have VX:Hm (fun k=>ph.z k/\w0.heap.size<=k) w rb.aO csb (ae rb.lv).list:=VX;have hlb:=Ys.1;obtain⟨sl,w',e1,e2,e3,e5⟩:=tE (ty:=o.type) hu hr qI hv (pW Ys) hlb (VX.VV hlb) (cV hn) hs.below.size;rw[<- ff]at e2;have hzw:∀k,(ph.z k/\w0.heap.size<=k)->w'.heap[k]?=w.heap[k]? :=fun k hk=>e3.block k (hs.nest.lt k hk.1) (fun e=>(ZS k e.symm).1 hk.1);have hcc:=((iW.append hv.1 VX).mY (z':=fun k=>(ph.z k\/False)/\w0.heap.size<=k) hzw (fun k hk=>⟨.inl hk.1,hk.2⟩));have eX:=Bg (ae:=ae) (ph:=ph) (dst:=o.dst) (key:=key) (e:=e) (aO:=rb.aO) (rows:=st.rows) (a7:=a7) (sl:=sl) (row:=v.ownBlock) (N:=fun _=>False) hs aX h0 (fun _ h=>h) zM e3 (fun k hk=>⟨(hv.lt k hk).1,(ZS k hk).1,(ZS k hk).2.1⟩)
   (fun b hb e=>(ZS _ e).2.2.1 b hb rfl) (fun r hr hr1 k hk e=>(ZS _ e).2.2.2 r hr hr1 hk) (fun k hk=>hk.elim) ⟨_,e2,hcc⟩ (by
     rcases e5 with e5|e5;exact .inl e5;exact .inr (.inl e5))
 refine⟨.value (.slice sl.1 sl.2.1 sl.2.2),w',_,_,_,?_,rfl,by rw[hW];exact eX,dr⟩;simp only[execOp,ho,resolve,invoke,builtin,eU,fX,eP,List.map_toArray,kD,rM,hx,ey,e1];cases h
theorem Nf{sz:Nat}{base:Option Addr}{cap m:Nat}(h:w.ownsRow B e sz (.slice base n cap) n cs)(hm:m<=n) :
   w.ownsRow B e sz (.slice base m cap) m (cs.take (m*sz)):=by
 have hle:m*sz<=n*sz:=yJ _ hm;refine⟨by rw[vr,h.1];omega,?_⟩;rcases h.2 with⟨e1,e2⟩|⟨g,qB,cur,e1,hg,hh,vV,M5,iW,tB⟩;simp only[Value.slice.injEq]at e1;obtain⟨rfl,h0,rfl⟩:=e1;have:m=0:=by omega
 subst this;exact .inl ⟨rfl,rfl⟩;simp only[Value.slice.injEq,true_and]at e1;obtain⟨rfl,rfl⟩:=e1;refine .inr ⟨g,cap,cur,rfl,hg,hh,by omega,M5,iW,?_⟩;rw[<- tB,List.take_take];congr 1;omega
theorem Jo{a:Act}{h':Operand}{key:Nat}{ra:ej}{kd:IntKind}{n:IE}
   (hs:Sat w0 ae ph st a w) (ho:o.op = .slice t x none (some h') none) (hu:P.underlying t=some (.slice e)) (hx:bB st (.c true) x=some (.s ra.id)) (hh:bB st (.c true) h'=some (.i kd n))
   (bq:ra∈st.a7) (bN:ra.own=true) (he:ra.e=e) (qI:P.cellsOf e=ra.aO.length)
   (h:Dc st key e ra.aO [.aL (BE.le (.c 0) n).mk,.aL (BE.le n (.len ra.lv)).mk] (.take ra.lv n) st.rows (st.a7.filter fun r=>decide (r.id≠ra.id)) o.dst=some (du,a8)) (hk:aT Γ du k ae) :
   oT Γ P w0 ae ph st a8 o a w k:=by
 unfold Dc at h;split at h;rename_i nZ;simp only[ao,aM]at nZ;obtain⟨aX,Nb⟩:=nZ;simp only[ah,aA]at h;obtain⟨rfl,rfl⟩:=h;obtain⟨h0,hk⟩:=jE (es:=[.aL (BE.le n (.len ra.lv)).mk,.cH key (.take ra.lv n)]) hk;obtain⟨h1,hk⟩:=jE (es:=[.cH key (.take ra.lv n)]) hk;have h0:=cf h0;have h1:=cf h1;simp only[IE.af]at h0 h1;have dr:k (ae.set key (.l ((ae ra.lv).list.take (n.af ae).toNat))):=hk;obtain⟨oU,_,cs,dj,iW⟩:=hs.nest.own bq bN;have iW:Hm (fun k=>ph.z k/\w0.heap.size<=k) w ra.aO cs (ae ra.lv).list:=iW;rw[he]at dj;have ex:=aC hx cn hs.tmps;have eh:=aC hh cn hs.tmps;simp only[ai.af]at ex eh;obtain⟨base,cap,hv,vV⟩:∃base cap,ph.val ra.id = .slice base (ae ra.lv).list.length cap/\(ae ra.lv).list.length<=cap:=by
   rcases dj.2 with⟨e1,e2⟩|⟨g,qB,cur,e1,_,_,vV,_⟩;exact⟨none,0,by rw[e1,e2],by omega⟩;exact⟨_,qB,e1,vV⟩
 rw[hv]at dj;have hm:(n.af ae).toNat<=(ae ra.lv).list.length:=by omega
 have htk:=Nf dj hm;have hl:((ae ra.lv).list.take (n.af ae).toNat).length=(n.af ae).toNat:=by rw[vr];omega
 have PM:∀m m':Nat,(Value.slice base m cap).ownBlock=(Value.slice base m' cap).ownBlock:=fun _ _=>by cases base<;>rfl
 obtain⟨_,PY⟩:=hs.nest.oz ra bq bN;have tw:∀q∈st.a7.filter (fun r=>decide (r.id≠ra.id)),q∈st.a7/\q.id≠ra.id:=fun q hq=>by
   have:=jq.1 hq;exact⟨this.1,by simpa using this.2⟩
 have hcc:=(iW.take (n.af ae).toNat).mY (z':=fun k=>(ph.z k\/False)/\w0.heap.size<=k) (fun _ _=>rfl) (fun k hk=>⟨.inl hk.1,hk.2⟩);have eX:=Bg (ae:=ae) (ph:=ph) (dst:=o.dst) (key:=key) (e:=e) (aO:=ra.aO) (rows:=st.rows) (a7:=st.a7.filter fun r=>decide (r.id≠ra.id)) (sl:=(base,(n.af ae).toNat,cap)) (row:=(Value.slice base (ae ra.lv).list.length cap).ownBlock) (N:=fun _=>False) hs aX Nb (fun _ h=>h) (fun q hq=>(tw q hq).1) (jm (cw w))
   (fun k hk=>⟨(dj.lt k hk).1,(PY k (by rw[hv,hk])).1,fun q hq p9=>(PY k (by rw[hv,hk])).2.2.2 q (tw q hq).1 p9 (tw q hq).2⟩)
   (fun b hb e=>(PY _ (by rw[hv,e])).2.1 b hb rfl) (fun r hr hr1 k hk e=>(PY _ (by rw[hv,e])).2.2.1 r hr hr1 hk) (fun k hk=>hk.elim) ⟨_,by rw[hl];exact htk,hcc⟩ (.inl (PM _ _))
 refine⟨.value (.slice base (n.af ae).toNat cap),w,_,_,_,?_,rfl,⟨eX.sat,eX.agree,?_,eX.mono,eX.fresh⟩,dr⟩;simp only[execOp,ho,Option.map_none,tn,ex,eh,hv,eU,run_sliceAt_slice (P:=P) (w:=w) t _ _ _ _ (by simp[Program.elem,hu]),tF hu (by rw[qI];exact Nb) h0 h1 vV,eP,fX];rw[ho];exact cw w;cases h
end
section
open Go.RowKit
variable {ae:aH}{ph:Ph}{P:Program}
theorem Bk{α:Type}{a:Array α}{x:α}(h:a.toList=[x]):a = #[x]:=kM (by simpa using h)
theorem Nq{Γ:bX}{w0 w:World}{st a8:St}{a:Act}{o:Oper}{key:Nat}{du:List Ev}{k:aH->Prop}(hs:Sat w0 ae ph st a w)(h:P4 P st key o.dst o.op=some (du,a8))(hk:aT Γ du k ae) :
   oT Γ P w0 ae ph st a8 o a w k:=by
 obtain⟨op,ho⟩:∃op,op=o.op:=⟨_,rfl⟩;rw[<- ho]at h;unfold P4 at h;split at h;rename_i e;split at h;rename_i z hz;refine Be hs (by rw[<- ho];rfl) ?_ h hk;simp only[execOp,<- ho,Instr.alloc,eU,yF (ph:=ph) (ae:=ae) hz,newVar,Go.newRow,run_newObj_alloc,fX,eP,V1.fR];cases h;rename_i e x;split at h;rename_i v hv;refine Be hs (by rw[<- ho];rfl) ?_ h hk;have ex:=cR hv cn hs.tmps;simp only[execOp,<- ho,ex,Instr.box,eU,newVar,Go.newRow,run_newObj_alloc,fX,eP,V1.fR];cases h;rename_i t x y;split at h;rename_i l v hl hv;split at h;rename_i hc;exact Jk hs ho.symm hl hv hc.1 hc.2 h hk;cases h;cases h;rename_i t n c;split at h;rename_i e kd x kd' y hu hn hc;split at h;rename_i room ks z hr hfl hz;split at h;rename_i nZ;simp only[ao,aM]at nZ;obtain⟨⟨h0,qI⟩,Vs⟩:=nZ;split at h;rename_i hxy;subst hxy;exact Na hs ho.symm hu hn hc hr hz h0 qI Vs h hk;exact Bf hs ho.symm hu hn hc hr hz h0 qI Vs h hk;cases h;cases h;cases h;rename_i t x h';split at h;rename_i e a1 kd n hu hx hh;split at h;rename_i ra wm;obtain⟨bq,rfl⟩:=aZ wm;split at h;rename_i hc;simp only[ao,aM]at hc;obtain⟨⟨⟨bN,hg⟩,he⟩,qI⟩:=hc;exact M9 hs ho.symm hu hx hh bq bN hg he qI h hk;cases h;split at h;rename_i ra wm;obtain⟨bq,rfl⟩:=dp wm;split at h;rename_i hc;simp only[ao,aM]at hc;obtain⟨⟨bN,he⟩,qI⟩:=hc;exact Jo hs ho.symm hu hx hh bq bN he qI h hk;cases h;cases h;cases h;rename_i args argTypes;split at h;rename_i x y t t' fp Bl;have fp:=rP fp;have Bl:=rP Bl;split at h;rename_i htt;subst htt;subst fp Bl;split at h;rename_i e hu;split at h;rename_i room b hr hx hy;split at h;rename_i rb xu;obtain⟨bq,rfl⟩:=aZ xu;split at h;rename_i hc;simp only[ao,aM]at hc;obtain⟨⟨hg,he⟩,qI⟩:=hc;have ex:=aC hx cn hs.tmps;refine zI (v:=.slice none 0 0) (xs:=[]) hs ho.symm hu hr ex hy bq hg qI (World.ownsRow_nil _ _ _ _) ?_ (fun _ h=>h) (fun k hk=>by simp[Value.ownBlock]at hk) (fun _ _=>by simp[Value.ownBlock]) (fun _ _ _ _ _=>by simp[Value.ownBlock]) ?_ ?_ h hk;rw[<- ho];simp[sT,hx,Value.ownBlock];simp[dw.af];intro hn;have:=cf hn;simp only[IE.af]at this;simp;omega;cases h;split at h;rename_i rb xu;obtain⟨bq,rfl⟩:=dp xu;split at h;rename_i hc;simp only[ao,aM]at hc;obtain⟨⟨PM,he⟩,qI⟩:=hc;have ex:=aC hx cn hs.tmps;refine xx (v:=.slice none 0 0) (xs:=[]) (cs:=[]) hs ho.symm hu hr ex hy bq PM qI (World.ownsRow_nil _ _ _ _) (fun i r hi=>by simp at hi) ?_ (fun _ h=>h) (fun k hk=>by simp[Value.ownBlock]at hk) ?_ ?_ h hk;rw[<- ho];simp[sT,hx,Value.ownBlock];simp[dw.af];intro hn;have:=cf hn;simp only[IE.af]at this;simp;omega;cases h;cases h;rename_i room a1 b hr hx hy;split at h;rename_i ra rb wm xu;obtain⟨tH,rfl⟩:=aZ wm;obtain⟨bq,rfl⟩:=aZ xu;split at h;rename_i hc;simp only[ao,aM]at hc;obtain⟨⟨⟨⟨⟨Nk,E9⟩,hea⟩,heb⟩,nL⟩,qI⟩:=hc;exact Bj hs ho.symm hu hr hx hy tH bq Nk E9 nL qI h hk;cases h;cases h;rename_i room a1 b hr hx hy;split at h;rename_i ra rb wm xu;obtain⟨tH,rfl⟩:=aZ wm;obtain⟨bq,rfl⟩:=aZ xu;split at h;rename_i hc;simp only[ao,aM]at hc;obtain⟨⟨⟨⟨⟨⟨⟨bN,Nk⟩,E9⟩,hea⟩,heb⟩,nL⟩,VZ⟩,qI⟩:=hc;have ex:=aC hx cn hs.tmps;simp only[ai.af]at ex;have Jl:ra.g.af ae=true:=by rw[Nk];rfl
 have bl:=hs.mem.row ra tH Jl;have dj:=bl.2;rw[if_pos bN,hea]at dj;have fg:ra.b9 ae ph=(ph.val ra.id).ownBlock:=by simp[Row.b9,bN]
 rw[nL]at h dj qI;refine zI (v:=ph.val ra.id) (xs:=(ae ra.lv).list) hs ho.symm hu hr ex hy bq E9 qI dj ?_ (fun r hr=>(jq.1 hr).1) (fun k hk=>(nM (B:=0) hs tH bN Jl hk).1.2) (fun b hb e=>hs.mem.br b hb ra tH Jl (by rw[fg,e])) (fun r hr h1 k hk e=>?_) ?_ ?_ h hk;rw[<- ho];simp[sT,hx];have hm:=jq.1 hr;exact hs.mem.rr ra tH r hm.1 (fun e=>by simp[e]at hm) bN Jl h1 k (by rw[fg,e]) hk;rfl;intro hn;have:=cf hn;rw[IE.cz]at this;simp only[IE.af]at this;omega;cases h;split at h;rename_i ra rb wm xu;obtain⟨tH,rfl⟩:=dp wm;obtain⟨bq,rfl⟩:=dp xu;split at h;rename_i hc;simp only[ao,aM]at hc;obtain⟨⟨⟨⟨⟨⟨hoa,PM⟩,hea⟩,heb⟩,nL⟩,VZ⟩,qI⟩:=hc;have ex:=aC hx cn hs.tmps;simp only[ai.af]at ex;obtain⟨_,_,cs,dj,iW⟩:=hs.nest.own tH hoa;obtain⟨_,PY⟩:=hs.nest.oz ra tH hoa;rw[hea,nL]at dj;rw[nL]at iW h qI;refine xx (v:=ph.val ra.id) (xs:=(ae ra.lv).list) (cs:=cs) hs ho.symm hu hr ex hy bq PM qI dj iW ?_ (fun r hr=>(jq.1 hr).1) (fun k hk=>⟨(PY k hk).1,fun n hn qM=>(PY k hk).2.2.2 n (jq.1 hn).1 qM (by simpa using(jq.1 hn).2),(PY k hk).2.1,(PY k hk).2.2.1⟩) ?_ ?_ h hk;rw[<- ho];simp[sT,hx];rfl;intro hn;have:=cf hn;rw[IE.cz]at this;simp only[IE.af]at this;omega;cases h;cases h;cases h;cases h;cases h;cases h;cases h;rename_i args argTypes;split at h;rename_i x y t t' fp Bl;have fp:=rP fp;have Bl:=rP Bl;split at h;rename_i htt;subst htt;subst fp Bl;split at h;rename_i e a1 b1 hu hx hy;split at h;rename_i ra rb wm xu;obtain⟨tH,rfl⟩:=aZ wm;obtain⟨bq,rfl⟩:=aZ xu;split at h;rename_i hc;simp only[ao,aM]at hc;obtain⟨⟨⟨⟨⟨⟨⟨bN,Nk⟩,E9⟩,nL⟩,VZ⟩,qI⟩,hi⟩,aX⟩:=hc;simp only[ah,aA]at h;obtain⟨rfl,rfl⟩:=h;exact Nn hs ho.symm hu hx hy tH bq bN Nk E9 nL qI hi aX hk;cases h;cases h;cases h;cases h;cases h;rename_i args argTypes;split at h;rename_i x t fp Bl;have fp:=Bk fp;have Bl:=Bk Bl;subst fp Bl;split at h;rename_i e a1 hu hx;split at h;rename_i ra z wm hz;obtain⟨bq,rfl⟩:=aZ wm;split at h;rename_i hc;simp only[ao,aM]at hc;obtain⟨⟨⟨⟨⟨bN,Nk⟩,qI⟩,hi⟩,Vs⟩,aX⟩:=hc;simp only[ah,aA]at h;obtain⟨rfl,rfl⟩:=h;exact Jp hs ho.symm hu hx bq bN Nk qI hz Vs aX hk;cases h;cases h;cases h;cases h;rename_i src Nh x;split at h;rename_i e bs ZV hd hx;split at h;rename_i he;split at h;rename_i hc;simp only[ao,aM]at hc;obtain⟨⟨⟨hi,qI⟩,hlen⟩,aX⟩:=hc;simp only[ah,aA]at h;obtain⟨rfl,rfl⟩:=h;exact Ng hs ho.symm ZV hd he hx hlen aX hk;cases h;cases h;cases h;cases h
end
section
open Go.RowKit
variable {ae ak:aH}{ph aQ:Ph}{P:Program}
theorem aH.cA:∀ {ds:List DV} {ae:aH} {k j:Nat},j<k->ae.aB k ds j=ae j:=by
 intro ds;induction ds with
 |nil=>intro ae k j _;rfl
 | cons d ds ih=>
   intro ae k j h;rw[aH.aB,ih (by omega),aH.set,if_neg (by omega)]
theorem aH.ei:∀ {ds:List DV} {ae:aH} {k i:Nat} {d:DV},ds[i]?=some d->ae.aB k ds (k+i)=d:=by
 intro ds;induction ds with
 |nil=>intro ae k i d h;simp at h
 | cons x ds ih=>
   intro ae k i d h;cases i with
   | zero=>
     simp only[kB,ah]at h;subst h;rw[aH.aB,iM,aH.cA (by omega)];simp[aH.set]
   | succ i=>
     rw[A1]at h;have:=ih (ae:=ae.set k x) (k:=k+1) h;rw[aH.aB,show k+(i+1)=k+1+i by omega];exact this
theorem aH.jr:∀ {ds:List DV} {ae:aH} {k j:Nat},k+ds.length<=j->ae.aB k ds j=ae j:=by
 intro ds;induction ds with
 |nil=>intro ae k j _;rfl
 | cons d ds ih=>
   intro ae k j h;simp only[qe]at h;rw[aH.aB,ih (by omega),aH.set,if_neg (by omega)]
abbrev gS:=TypeId->List CK ⊕ List NK->Value->List (List Int)->Prop
variable{R:gS}
def kX(R:gS):CT->Value->DV->Prop
 |.c (.i k),v,.i n=>v = .int k n
 |.c .b,v,.b b=>v = .bool b
 |.c .f,v,.i n=>v = .float .f64 n.toNat
 |.s e ks,v,.l xs=>R e (.inl ks) v xs
 |.n e aO,v,.l xs=>R e (.inr aO) v xs
 |_,_,_=>False
def fitAll(R:gS):List CT->List Value->List DV->Prop
 | [],[],[]=>True
 |c::cs,v::vs,d::ds=>kX R c v d/\fitAll R cs vs ds
 |_,_,_=>False
def sJ:Value->Value
 |.slice base _ _=>.pointer base
 |_=>undef
def cj:List VT->List Value->List Value
 | [],_=>[]
 |.one _::ts,cs=>cs.headD undef::cj ts cs.tail
 |.agg ks::ts,cs=>.agg (cs.take ks.length).toArray::cj ts (cs.drop ks.length)
 |.ptr _ _::ts,cs=>sJ (cs.headD undef)::cj ts cs.tail
 |.fn g ks::ts,cs=>.func (.func g) #[] ((cs.take ks.length).map sJ).toArray::cj ts (cs.drop ks.length)
def mK(w:World):gS:=fun _ ks v xs=>match ks with
 |.inl ks=>0<ks.length/\Reads w v xs.length (aF ks xs)
 |.inr aO=>0<aO.length/\s9 (fun k=>k<w.heap.size) w aO v xs
def mw(w:World)(B:Nat):gS:=fun e ks v xs=>match ks with
 |.inl ks=>0<ks.length/\w.ownsRow B e ks.length v xs.length (aF ks xs)
 |.inr aO=>0<aO.length/\∃zi:Nat->Prop,(∀k,zi k->B<=k/\k<w.heap.size)/\(∀k,v.ownBlock=some k->¬ zi k)/\EU zi w B e aO v xs
def iL(b8:List Value):Prop:=∀(i j:Nat) (u v:Value),i≠j->b8[i]?=some u->b8[j]?=some v->∀k,u.ownBlock=some k->v.ownBlock≠some k
def packed:List Value->Value
 | [v]=>v
 |vs=>.tuple vs.toArray
def Fo(w:World)(args:List VT)(vs:List Value)(ds:List DV):Prop:=∃b8,vs=cj args b8/\fitAll (mK w) (bL args) b8 ds
theorem Dh:∀ {cs qL:List CT} {vs Pj:List Value} {ds Fp:List DV},fitAll R cs vs ds->fitAll R qL Pj Fp->fitAll R (cs++qL) (vs++Pj) (ds++Fp):=by
 intro cs;induction cs with
 |nil=>intro qL vs Pj ds Fp h h';cases vs<;>cases ds<;>simp_all[fitAll]
 | cons c cs ih=>
   intro qL vs Pj ds Fp h h';cases vs with
   |nil=>simp[fitAll]at h
   | cons v vs=>cases ds with
     |nil=>simp[fitAll]at h
     |cons d ds=>exact⟨h.1,ih h.2 h'⟩
theorem om:∀ {cs:List CT} {vs:List Value} {ds:List DV},fitAll R cs vs ds->vs.length=cs.length/\ds.length=cs.length:=by
 intro cs;induction cs with
 |nil=>intro vs ds h;cases vs<;>cases ds<;>simp_all[fitAll]
 | cons c cs ih=>
   intro vs ds h;cases vs with
   |nil=>simp[fitAll]at h
   | cons v vs=>cases ds with
     |nil=>simp[fitAll]at h
     |cons d ds=>simp[ih h.2]
theorem ka:∀ {cs:List CT} {vs:List Value} {ds:List DV} {i:Nat} {c:CT},fitAll R cs vs ds->cs[i]?=some c->∃v d,vs[i]?=some v/\ds[i]?=some d/\kX R c v d:=by
 intro cs;induction cs with
 |nil=>intro vs ds i c _ h;simp at h
 | cons c cs ih=>
   intro vs ds i c' h hi;cases vs with
   |nil=>simp[fitAll]at h
   | cons v vs=>cases ds with
     |nil=>simp[fitAll]at h
     | cons d ds=>
       cases i with
       |zero=>simp at hi;subst hi;exact⟨v,d,rfl,rfl,h.1⟩
       |succ i=>simpa using ih h.2 (by simpa using hi)
theorem jt:∀ {cs:List CT} {vs:List Value} {ds:List DV},fitAll R cs vs ds->kinds cs ds=true:=by
 intro cs;induction cs with
 |nil=>intro vs ds h;cases vs<;>cases ds<;>simp_all[fitAll,kinds]
 | cons c cs ih=>
   intro vs ds h;cases vs with
   |nil=>simp[fitAll]at h
   | cons v vs=>cases ds with
     |nil=>simp[fitAll]at h
     | cons d ds=>
       simp only[kinds,ih h.2,Bool.and_true];have:=h.1;cases c with
       |c k=>cases k<;>cases d<;>simp_all[kX,DV.kind]
       |s e ks=>cases d<;>simp_all[kX,DV.kind]
       |n e aO=>cases d<;>simp_all[kX,DV.kind]
theorem oo(G:BE):∀(cs qL:List CT) (id:Nat),aN G id (cs++qL)=((aN G id cs).1++(aN G (id+cs.length) qL).1,(aN G id cs).2++(aN G (id+cs.length) qL).2):=by
 intro cs;induction cs with
 |nil=>intro qL id;simp[aN]
 | cons c cs ih=>
   intro qL id;simp only[ta,aN,ih,qe,V0];rw[show id+1+cs.length=id+(cs.length+1)by omega]
theorem Ay(G:BE):∀(cs:List CT) (id:Nat),(aN G id cs).1.length=cs.length:=by
 intro cs;induction cs with
 |nil=>intro id;rfl
 |cons c cs ih=>intro id;simp[aN,ih]
theorem Bx(G:BE):∀(cs:List (TypeId×IntKind)) (id:Nat),(iJ G id cs).2=(aN G id (cs.map fun c=>CT.s c.1 [.i c.2])).2:=by
 intro cs;induction cs with
 |nil=>intro id;rfl
 |cons c cs ih=>intro id;simp[iJ,aN,cX,ih]
theorem Di(G:BE):∀(cs:List (TypeId×IntKind)) (id:Nat),(iJ G id cs).1.map (mG ph)=((aN G id (cs.map fun c=>CT.s c.1 [.i c.2])).1.map (ai.af ae ph)).map sJ:=by
 intro cs;induction cs with
 |nil=>intro id;rfl
 |cons c cs ih=>intro id;simp[iJ,aN,cX,ih (id+1),mG,ai.af,Ph.val,sJ]
theorem Dj{q:Nat->Bool}(G:BE):∀(cs:List (TypeId×IntKind)) (id:Nat),(∀i,i<cs.length->q (id+i)=true)->((iJ G id cs).1.all fun c=>q c.2)=true:=by
 intro cs;induction cs with
 |nil=>intro id _;rfl
 | cons c cs ih=>
   intro id h;have h0:q id=true:=by have:=h 0 (by simp);simpa using this
   simp only[iJ,List.all_cons,h0,Bool.true_and];exact ih (id+1) fun i hi=>by rw[show id+1+i=id+(i+1)by omega];exact h (i+1) (by simpa using hi)
theorem fj(G:BE):∀(ts:List VT) (id:Nat),(cg G id ts).2=(aN G id (bL ts)).2:=by
 intro ts;induction ts with
 |nil=>intro id;rfl
 | cons t ts ih=>
   intro id;have e:bL (t::ts)=t.bL++bL ts:=by simp[bL]
   rw[e,oo];simp only[cg,ih];congr 1;cases t with
   |one c=>simp[jV,VT.bL,aN]
   |agg cs=>simp[jV,VT.bL]
   |ptr e k=>simp[jV,VT.bL,aN,cX]
   |fn g cs=>exact Bx G cs id
theorem rY(G:BE):∀(ts:List VT) (id:Nat) (b8:List Value),(aN G id (bL ts)).1.map (ai.af ae ph)=b8->(cg G id ts).1.map (V1.af ae ph)=cj ts b8:=by
 intro ts;induction ts with
 |nil=>intro id b8 _;rfl
 | cons t ts ih=>
   intro id b8 h;have e:bL (t::ts)=t.bL++bL ts:=by simp[bL]
   rw[e,oo,n8]at h;subst h;have hl:(aN G id t.bL).1.length=t.bL.length:=Ay G _ _;simp only[cg,kD];rw[ih (id+t.bL.length) _ rfl];cases t with
   |one c=>simp[jV,VT.bL,aN,cj,V1.af]
   | ptr e k=>
     simp only[jV,VT.bL,aN,cX,cj,V1.af,kD,rM,ta,nc,List.headD_cons,List.tail_cons,ai.af,Ph.val,sJ,IE.af];congr 1;cases(ph.v id).1 with
     |none=>rfl
     |some a=>simp[Addr.add_zero']
   | fn g cs=>
     simp only[VT.bL,lS]at hl;simp only[jV,VT.bL,cj,V1.af,ai.af,Di (ae:=ae) G cs id];rw[Hg (by simp[hl]),oS (by simp[hl]),Jj (by simp[hl]),xt (by simp[hl])];simp
   | agg cs=>
     simp only[VT.bL]at hl;simp only[jV,VT.bL,cj,V1.af];rw[Hg (by simp[hl]),oS (by simp[hl]),Jj (by simp[hl]),xt (by simp[hl])];simp
theorem wL(own:Bool)(G:BE):∀(cs:List CT) (id:Nat) (b8:List Value) (gX:List DV),fitAll R cs b8 gX->(∀(i:Nat) (d:DV),gX[i]?=some d->ae (id+i)=d)->
   (∀(i:Nat) (v:Value),b8[i]?=some v->∀e ks,(cs[i]?=some (.s e ks)\/∃aO,cs[i]?=some (.n e aO))->ph.val (id+i)=v)->
   (aN G id cs).1.map (ai.af ae ph)=b8/\(∀r∈(aN G id cs).2,∃i:Nat,i<cs.length/\r=⟨id+i,r.e,r.ks,id+i,true,G⟩/\b8[i]?=some (ph.val r.id)/\R r.e (.inl r.ks) (ph.val r.id) (ae r.lv).list)/\
     (∀n∈ew own G id cs,∃i:Nat,i<cs.length/\n=⟨id+i,n.e,n.aO,id+i,G,own⟩/\b8[i]?=some (ph.val n.id)/\R n.e (.inr n.aO) (ph.val n.id) (ae n.lv).list/\cs[i]?=some (.n n.e n.aO)):=by
 intro cs;induction cs with
 |nil=>intro id b8 gX h _ _;cases b8<;>cases gX<;>simp_all[fitAll,aN,ew]
 | cons c cs ih=>
   intro id b8 gX h he hp;cases b8 with
   |nil=>simp[fitAll]at h
   | cons v vs=>cases gX with
     |nil=>simp[fitAll]at h
     | cons d ds=>
       obtain⟨e1,e2,e4⟩:=ih (id+1) vs ds h.2 (fun i d hd=>by rw[show id+1+i=id+(i+1)by omega];exact he (i+1) d (by simpa using hd))
         (fun i v hv e ks hc=>by rw[show id+1+i=id+(i+1)by omega];exact hp (i+1) v (by simpa using hv) e ks (by simpa using hc))
       have CV:ae id=d:=by have:=he 0 d rfl;simpa using this
       have hf:=h.1;have A3:∀r∈(aN G (id+1) cs).2,∃i:Nat,i<(c::cs).length/\r=⟨id+i,r.e,r.ks,id+i,true,G⟩/\(v::vs)[i]?=some (ph.val r.id)/\R r.e (.inl r.ks) (ph.val r.id) (ae r.lv).list:=fun r hr=>by
         obtain⟨i,h1,h2,h3,h4⟩:=e2 r hr;refine⟨i+1,by simpa using h1,?_,by simpa using h3,h4⟩;rw[show id+(i+1)=id+1+i by omega];exact h2
       have Jw:∀n∈ew own G (id+1) cs,∃i:Nat,i<(c::cs).length/\n=⟨id+i,n.e,n.aO,id+i,G,own⟩/\(v::vs)[i]?=some (ph.val n.id)/\R n.e (.inr n.aO) (ph.val n.id) (ae n.lv).list/\(c::cs)[i]?=some (.n n.e n.aO):=fun n hn=>by
         obtain⟨i,h1,h2,h3,h4,h5⟩:=e4 n hn;refine⟨i+1,by simpa using h1,?_,by simpa using h3,h4,by simpa using h5⟩;rw[show id+(i+1)=id+1+i by omega];exact h2
       cases c with
       | n e aO=>
         have hv:ph.val id=v:=by have:=hp 0 v rfl e [] (.inr ⟨aO,rfl⟩);simpa using this
         refine⟨?_,fun r hr=>A3 r (by simpa[aN,cX]using hr),fun n hn=>?_⟩;simp only[aN,kD,e1,cX,ai.af,hv]
         . simp only[ew,bF]at hn;rcases hn with rfl|hn
           . refine⟨0,by simp,by simp,by simp[hv],?_,by simp⟩;simp only[hv,CV];cases d<;>simp_all[kX,DV.list]
           exact Jw n hn
       | c k=>
         refine⟨?_,?_,fun n hn=>Jw n (by simpa[ew]using hn)⟩
         . simp only[aN,kD,e1];congr 1;cases k<;>cases d<;>simp_all[kX,cX,ai.af,IE.af,BE.af,DV.int,DV.bool]
         intro r hr;have:r∈(aN G (id+1) cs).2:=by cases k<;>simpa[aN,cX]using hr
         exact A3 r this
       | s e ks=>
         have hv:ph.val id=v:=by have:=hp 0 v rfl e ks (.inl rfl);simpa using this
         refine⟨?_,?_,fun n hn=>Jw n (by simpa[ew]using hn)⟩;simp only[aN,kD,e1,cX,ai.af,hv]
         . intro r hr;simp only[aN,cX,ta,nc,bF]at hr;rcases hr with rfl|hr
           . refine⟨0,by simp,by simp,by simp[hv],?_⟩;simp only[hv,CV];cases d<;>simp_all[kX,DV.list]
           exact A3 r hr
theorem iC{q:Nat->Bool}(G:BE)(hG:G.all q=true):∀(cs:List CT) (id:Nat),(∀i,i<cs.length->q (id+i)=true)->bt q (aN G id cs).1=true/\∀r∈(aN G id cs).2,r.all q=true:=by
 intro cs;induction cs with
 |nil=>intro id _;simp[aN,bt]
 | cons c cs ih=>
   intro id h;obtain⟨e1,e2⟩:=ih (id+1) (fun i hi=>by rw[show id+1+i=id+(i+1)by omega];exact h (i+1) (by simpa using hi));have h0:q id=true:=by have:=h 0 (by simp);simpa using this
   cases c with
   |c k=>cases k<;>simp_all[aN,cX,bt,ai.all,IE.all,BE.all]
   |n e aO=>simp_all[aN,cX,bt,ai.all]
   | s e ks=>
     refine⟨by simp_all[aN,cX,bt,ai.all],?_⟩;intro r hr;simp only[aN,cX,ta,nc,bF]at hr;rcases hr with rfl|hr;simp[Row.all,h0,hG];exact e2 r hr
theorem wM{q:Nat->Bool}(own:Bool)(G:BE)(hG:G.all q=true):∀(cs:List CT) (id:Nat),(∀i,i<cs.length->q (id+i)=true)->∀n∈ew own G id cs,n.all q=true:=by
 intro cs;induction cs with
 |nil=>intro id _ n hn;simp[ew]at hn
 | cons c cs ih=>
   intro id h n hn;have hr:=ih (id+1) (fun i hi=>by rw[show id+1+i=id+(i+1)by omega];exact h (i+1) (by simpa using hi)) n;have h0:q id=true:=by have:=h 0 (by simp);simpa using this
   cases c with
   |c k=>exact hr (by simpa[ew]using hn)
   |s e ks=>exact hr (by simpa[ew]using hn)
   | n e aO=>
     simp only[ew,bF]at hn;rcases hn with rfl|hn;simp[ej.all,h0,hG];exact hr hn
theorem nj{q:Nat->Bool}(G:BE)(hG:G.all q=true):∀(ts:List VT) (id:Nat),(∀i,i<(bL ts).length->q (id+i)=true)->dH q (cg G id ts).1=true:=by
 intro ts;induction ts with
 |nil=>intro id _;rfl
 | cons t ts ih=>
   intro id h;have e:bL (t::ts)=t.bL++bL ts:=by simp[bL]
   rw[e,ff]at h;have h1:=(iC G hG t.bL id (fun i hi=>h i (by omega))).1;have h2:=ih (id+t.bL.length) (fun i hi=>by rw[Nat.add_assoc];exact h _ (by omega));simp only[cg,dH,h2,Bool.and_true];cases t with
   |one c=>simpa[jV,VT.bL,aN,bt,V1.all]using h1
   |ptr e k=>simpa[jV,VT.bL,aN,cX,bt,V1.all,ai.all,IE.all]using h1
   | fn g cs=>
     simp only[jV,V1.all,ai.all];exact Dj G cs id fun i hi=>h i (by simp[VT.bL];omega)
   |agg cs=>simpa[jV,VT.bL,V1.all]using h1
end
section
open Go.RowKit
variable {ae ak:aH}{ph aQ:Ph}{P:Program}
variable{G:BE}{w:World}{b8:List Value}{dst:Option Tmp}{gX:List DV}{res:List VT}{st:St}{vs:List V1}{w0:World}
def Ph.dK(ph:Ph)(key:Nat)(b8:List Value):Ph:=
 { ph with v:=fun k=>if key<=k then(match b8[k-key]? with
   |some (.slice a b c)=>(a,b,c)
   |_=>ph.v k)else ph.v k}
theorem uV{ph:Ph}{key i:Nat}{a:Option Addr}{b c:Nat}(h:b8[i]?=some (.slice a b c)):(ph.dK key b8).val (key+i) = .slice a b c:=by
 simp[Ph.val,Ph.dK,h]
theorem rZ{B B':Nat}{e:TypeId}{sz:Nat}{v:Value}{n:Nat}{xs:List Value}(h:w.ownsRow B' e sz v n xs)(hb:B<=B'):w.ownsRow B e sz v n xs:=by
 obtain⟨h1,h2|⟨g,cap,cur,e1,e2,e3⟩⟩:=h;exact⟨h1,.inl h2⟩;exact⟨h1,.inr ⟨g,cap,cur,e1,kI hb e2,e3⟩⟩
theorem uW:(qN vs).af ae ph=packed (vs.map (V1.af ae ph)):=by
 match vs with
 | []=>rfl
 | [v]=>rfl
 |_::_::_=>rfl
theorem qQ{q:Nat->Bool}(hG:G.all q=true)(h:dH q vs=true):(⟨G,qN vs⟩:aV).all q=true:=by
 match vs with
 | []=>simp[aV.all,hG,qN,SV.all,dH]
 | [v]=>simpa[aV.all,hG,qN,SV.all,dH]using h
 |_::_::_=>simpa[aV.all,hG,qN,SV.all]using h
def Ph.mL(ph:Ph)(cs:List CT)(own:Bool)(b8:List Value)(lo hi:Nat):Ph:={ph with z:=fun k=>ph.z k\/(cs.any CT.yu=true/\lo<=k/\k<hi/\(own=true->∀v∈b8,v.ownBlock≠some k)) }
theorem ju{r:ej}:∀ {rs l:List ej},r∈sI rs l↔r∈rs\/r∈l:=by
 intro rs;induction rs with
 |nil=>intro l;simp[sI]
 | cons x rs ih=>
   intro l;show r∈wj x (sI rs l)↔_;rw[iA,ih,bF,or_assoc]
theorem Dk(G:BE):∀(cs:List CT) (id:Nat),∀r∈(aN G id cs).2,cs.any CT.isS=true:=by
 intro cs;induction cs with
 |nil=>intro id r hr;simp[aN]at hr
 | cons c cs ih=>
   intro id r hr;cases c with
   |s e ks=>simp[CT.isS]
   |c k=>simp only[List.any_cons,ih (id+1) r (by cases k<;>simpa[aN,cX]using hr),Bool.or_true]
   |n e aO=>simp only[List.any_cons,ih (id+1) r (by simpa[aN,cX]using hr),Bool.or_true]
theorem qR(own:Bool)(G:BE):∀(cs:List CT) (id:Nat),∀r∈ew own G id cs,r.g=G/\r.own=own:=by
 intro cs;induction cs with
 |nil=>intro id r hr;simp[ew]at hr
 | cons c cs ih=>
   intro id r hr;cases c with
   |c k=>exact ih _ r (by simpa[ew]using hr)
   |s e ks=>exact ih _ r (by simpa[ew]using hr)
   | n e aO=>
     simp only[ew,bF]at hr;rcases hr with rfl|hr;exact⟨rfl,rfl⟩;exact ih _ r hr
theorem Qb:∀ {cs:List CT} {i j:Nat} {c d:CT},cs.countP CT.yu<=1->cs[i]?=some c->cs[j]?=some d->c.yu=true->d.yu=true->i=j:=by
 intro cs;induction cs with
 |nil=>intro i j c d _ h;simp at h
 | cons x cs ih=>
   intro i j c d hc hi hj h1 h2;have Yy:∀ {j:Nat} {d:CT},x.yu=true->cs[j]?=some d->d.yu=true->False:=fun hx hj hd=>by
     have:0<cs.countP CT.yu:=List.countP_pos_iff.2 ⟨_,sU hj,hd⟩;rw[List.countP_cons_of_pos hx]at hc;omega
   cases i with
   | zero=>
     simp only[kB,ah]at hi;cases j with
     |zero=>rfl
     |succ j=>exact(Yy (by rw[hi];exact h1) (by simpa using hj) h2).elim
   | succ i=>
     cases j with
     | zero=>
       simp only[kB,ah]at hj;exact(Yy (by rw[hj];exact h2) (by simpa using hi) h1).elim
     | succ j=>
       have:=ih (i:=i) (j:=j) (kI (List.Sublist.countP_le (List.sublist_cons_self ..)) hc) (by simpa using hi) (by simpa using hj) h1 h2;omega
theorem Hu{w':World}{a:Act}{key:Nat}(h:Sat w0 ae ph st a w)(aX:st.free key (width res)=true)(Fq:rT (bL res)=true)(hG:G.all st.has=true)
   (ZO:G.af ae=true) (hb:Below w.heap.size w w') (hf:fitAll (mw w' w.heap.size) (bL res) b8 gX) (Vv:iL b8) :
   Step w0 ae (ae.aB key gX) ph ((ph.dK key b8).mL (bL res) (decide (G=BE.c true)) b8 w.heap.size w'.heap.size) st ({st.bC key (width res)with rows:=dm (cg G key res).2 st.rows,a7:=sI (ew (decide (G=BE.c true)) G key (bL res)) st.a7}.put dst ⟨G,qN (cg G key res).1⟩) (a.put dst (packed (cj res b8))) w w' none:=by
 obtain⟨I3,Jb⟩:=om hf;have hw:width res=(bL res).length:=rfl;have By:∀k,st.has k=true->k<key\/key+(bL res).length<=k:=fun k hk=>by
   rcases qK k key with h1|h1;exact .inl h1;rcases qK k (key+(bL res).length)with h2|h2;rw[df aX h1 h2]at hk;cases hk;exact .inr h2
 have bM:bA st.has ae (ae.aB key gX) ph ((ph.dK key b8).mL (bL res) (decide (G=BE.c true)) b8 w.heap.size w'.heap.size):=by
   refine⟨fun k hk=>?_,fun _ _=>rfl,fun k hk=>?_⟩;rcases By k hk with h1|h1;rw[aH.cA h1];rw[aH.jr (by omega)];rcases By k hk with h1|h1;simp only[Ph.mL,Ph.dK];rw[if_neg (by omega)];simp only[Ph.mL,Ph.dK];rw[if_pos (by omega),th (by omega)]
 have agq:bA st.has ae (ae.aB key gX) ph (ph.dK key b8):=⟨bM.e,bM.r,bM.v⟩;have DZ:=h.congr agq;have adq:bA st.has (ae.aB key gX) (ae.aB key gX) (ph.dK key b8) ((ph.dK key b8).mL (bL res) (decide (G=BE.c true)) b8 w.heap.size w'.heap.size):=⟨fun _ _=>rfl,fun _ _=>rfl,fun _ _=>rfl⟩;have Vt:∀k,((ph.dK key b8).mL (bL res) (decide (G=BE.c true)) b8 w.heap.size w'.heap.size).z k->ph.z k\/(w.heap.size<=k/\k<w'.heap.size/\(bL res).any CT.yu=true/\((decide (G=BE.c true))=true->∀v∈b8,v.ownBlock≠some k)):=fun k hk=>hk.imp (fun h=>h) (fun h=>⟨h.2.1,h.2.2.1,h.1,h.2.2.2⟩);have j4:kn w0.heap.size (ae.aB key gX) ((ph.dK key b8).mL (bL res) (decide (G=BE.c true)) b8 w.heap.size w'.heap.size) st.aY st.rows w:=kn.congr adq h.names.aY h.names.rows DZ.mem;have ht':gg (ae.aB key gX) ((ph.dK key b8).mL (bL res) (decide (G=BE.c true)) b8 w.heap.size w'.heap.size) st.tmps a.tmps:=⟨DZ.tmps.1,fun t s ht=>by rw[DZ.tmps.2 t s ht,aV.aq adq (h.names.tmps t s ht)]⟩;have I1:G.af (ae.aB key gX)=true:=by rw[<- BE.aq bM.e hG];exact ZO
 obtain⟨e1,e2,e2N⟩:=wL (ae:=ae.aB key gX) (ph:=(ph.dK key b8).mL (bL res) (decide (G=BE.c true)) b8 w.heap.size w'.heap.size) (decide (G=BE.c true)) G (bL res) key b8 gX hf (fun i d hd=>aH.ei hd) (fun i v hv e ks hc=>by
   have Z2:∃a b c,v = .slice a b c:=by
     rcases hc with hc|⟨aO,hc⟩;obtain⟨v',d,xd,hd,dM⟩:=ka hf hc;rw[hv]at xd;simp only[ah]at xd;subst xd;cases d with
     |i n=>simp[kX]at dM
     |b x=>simp[kX]at dM
     | l xs=>
       obtain⟨_,ho⟩:=dM;obtain⟨sl,rfl⟩:=lY ho;exact⟨_,_,_,rfl⟩
     obtain⟨v',d,xd,hd,dM⟩:=ka hf hc;rw[hv]at xd;simp only[ah]at xd;subst xd;cases d with
     |i n=>simp[kX]at dM
     |b x=>simp[kX]at dM
     | l xs=>
       obtain⟨_,zi,_,_,cs,ho,_⟩:=dM;obtain⟨sl,rfl⟩:=lY ho;exact⟨_,_,_,rfl⟩
   obtain⟨a0,b0,c0,rfl⟩:=Z2;exact uV (ph:=ph) hv)
 rw[<- fj]at e2;have yP:=rY (ae:=ae.aB key gX) (ph:=(ph.dK key b8).mL (bL res) (decide (G=BE.c true)) b8 w.heap.size w'.heap.size) G res key b8 e1;have bQ:∀k,st.has k=true->(st.bC key (width res)).has k=true:=fun k hk=>gP hk;have jo:∀i,i<(bL res).length->(st.bC key (width res)).has (key+i)=true:=fun i hi=>jn (by omega) (by rw[hw];omega);have cK:=iC (q:=(st.bC key (width res)).has) G (BE.aG bQ hG) (bL res) key jo;have iG:w.grownBy w' none:=lU hb;have hB:w0.heap.size<=w.heap.size:=h.below.size;have rn:∀r∈(cg G key res).2,∃i:Nat,i<(bL res).length/\r.id=key+i/\r.own=true/\b8[i]?=some (((ph.dK key b8).mL (bL res) (decide (G=BE.c true)) b8 w.heap.size w'.heap.size).val r.id)/\gH w0.heap.size (ae.aB key gX) ((ph.dK key b8).mL (bL res) (decide (G=BE.c true)) b8 w.heap.size w'.heap.size) r w'/\∀k,r.b9 (ae.aB key gX) ((ph.dK key b8).mL (bL res) (decide (G=BE.c true)) b8 w.heap.size w'.heap.size)=some k->(((ph.dK key b8).mL (bL res) (decide (G=BE.c true)) b8 w.heap.size w'.heap.size).val r.id).ownBlock=some k/\w.heap.size<=k:=by
   intro r hr;obtain⟨i,hi,Qc,Jx,hR⟩:=e2 r hr;obtain⟨h0,ho⟩:=hR;have bN:r.own=true:=by rw[Qc]
   refine⟨i,hi,by rw[Qc],bN,Jx,⟨h0,?_⟩,fun k hk=>?_⟩;rw[if_pos bN];exact rZ ho hB;have dr:(((ph.dK key b8).mL (bL res) (decide (G=BE.c true)) b8 w.heap.size w'.heap.size).val r.id).ownBlock=some k:=by simpa[Row.b9,bN]using hk
   exact⟨dr,(ho.lt k dr).1⟩
 have hold:∀r∈st.rows,r.g.af (ae.aB key gX)=true->∀k,r.b9 (ae.aB key gX) ((ph.dK key b8).mL (bL res) (decide (G=BE.c true)) b8 w.heap.size w'.heap.size)=some k->k<w.heap.size:=fun r hr h1 k hk=>(j4.row r hr h1).uK hk;refine⟨⟨?_,?_,h.below.grown iG h.below.size (fun k hk=>by cases hk),by rw[cS];exact h.defers,?_,?_⟩,bM,iG,fun k hk=>by rw[cL];exact bQ k hk,fun b hb=>.inl ⟨b,by rw[cc]at hb;exact hb,rfl⟩⟩;refine nU (st:={st.bC key (width res)with rows:=dm (cg G key res).2 st.rows,a7:=sI (ew (decide (G=BE.c true)) G key (bL res)) st.a7}) ht' ?_;simp only[aV.af,I1,if_true,uW,yP];rw[cc,dq];have hk:=j4.grown iG;refine⟨hk.nJ,hk.bb,fun r hr h1=>?_,fun b hb r hr h1=>?_,fun r hr r' cY cV ho h1 h2 k zO uX=>?_⟩;rcases bO.1 hr with hr|hr;obtain⟨_,_,_,_,_,jU,_⟩:=rn r hr;exact jU;exact hk.row r hr h1;rcases bO.1 hr with hr|hr;obtain⟨_,_,_,_,_,_,yV⟩:=rn r hr;intro e;have:=(yV _ e).2;have:=h.mem.EV hb;have e3:((ph.dK key b8).mL (bL res) (decide (G=BE.c true)) b8 w.heap.size w'.heap.size).r b.id=ph.r b.id:=rfl;omega;exact hk.br b hb r hr h1;rcases bO.1 hr with hr|hr<;>rcases bO.1 cY with cY|cY;obtain⟨i,_,lW,_,Jx,_,yV⟩:=rn r hr;obtain⟨i',_,Fs,_,Z3,_,Z4⟩:=rn r' cY;exact Vv i i' _ _ (fun e=>cV (by rw[lW,Fs,e])) Jx Z3 k (yV k zO).1 (Z4 k uX).1;obtain⟨_,_,_,_,_,_,yV⟩:=rn r hr;have:=(yV k zO).2;have:=hold r' cY h2 k uX;omega;obtain⟨_,_,_,_,_,_,yV⟩:=rn r' cY;have:=(yV k uX).2;have:=hold r hr h1 k zO;omega;exact hk.rr r hr r' cY cV ho h1 h2 k zO uX;refine⟨?_,?_,?_⟩;exact gQ (st:={st.bC key (width res)with rows:=dm (cg G key res).2 st.rows,a7:=sI (ew (decide (G=BE.c true)) G key (bL res)) st.a7}) (fun t s ht=>aV.aG bQ (h.names.tmps t s ht)) (qQ (BE.aG bQ hG) (nj G (BE.aG bQ hG) res key jo));rw[cc,cL];exact fun b hb=>iQ.aG bQ (h.names.aY b hb);rw[dq,cL];intro r hr;rcases bO.1 hr with hr|hr;rw[fj]at hr;exact cK.2 r hr;exact Row.aG bQ (h.names.rows r hr);refine dy.put (st:={st.bC key (width res)with rows:=dm (cg G key res).2 st.rows,a7:=sI (ew (decide (G=BE.c true)) G key (bL res)) st.a7}) ?_;have hn:=DZ.nest;obtain⟨zz,KZ⟩:∃zz:Nat->Prop,zz=((ph.dK key b8).mL (bL res) (decide (G=BE.c true)) b8 w.heap.size w'.heap.size).z:=⟨_,rfl⟩;have hS:∀r∈(cg G key res).2,(bL res).any CT.yu=true->False:=fun r hr hN=>by
   have hS:(bL res).any CT.isS=true:=by
     rw[fj]at hr;exact Dk G _ _ r hr
   unfold rT at Fq;rw[hN,hS]at Fq;cases Fq
 have Ft:(bL res).any CT.yu=true->(bL res).countP CT.yu<=1:=fun hN=>by
   unfold rT at Fq;rw[hN]at Fq;simp only[Bool.not_true,Bool.false_or,ao,aM]at Fq;exact Fq.2
 have Fu:(bL res).any CT.yu=true->(bL res).any CT.isS=false:=fun hN=>by
   unfold rT at Fq;rw[hN]at Fq;simp only[Bool.not_true,Bool.false_or,ao,nQ]at Fq;exact Fq.1
 have agr:∀(i j:Nat) (v u:Value) (e:TypeId) (aO:List NK) (k:Nat),(bL res)[i]?=some (.n e aO)->b8[i]?=some v->b8[j]?=some u->u.ownBlock=some k->v=u:=fun i j v u e aO k hi hv hu hk=>by
   have hN:(bL res).any CT.yu=true:=mr.2 ⟨_,sU hi,rfl⟩;have hj:∃c,(bL res)[j]?=some c:=by
     have:=(dh.1 hu).1;exact⟨_,eT (by omega)⟩
   obtain⟨c,hc⟩:=hj;obtain⟨u',d,O',_,dM⟩:=ka hf hc;rw[hu,ah]at O';subst O';cases c with
   |c kk=>cases kk<;>cases d<;>simp only[kX]at dM<;>subst dM<;>simp[Value.ownBlock]at hk
   | s e' ks=>
     have:=Fu hN;rw[List.any_eq_false]at this;exact absurd rfl (this _ (sU hc))
   | n e' adj=>
     have:=Qb (Ft hN) hi hc rfl rfl;subst this;rw[hv,ah]at hu;exact hu
 have hnN:∀n∈ew (decide (G=BE.c true)) G key (bL res),∃i:Nat,n.id=key+i/\(bL res)[i]?=some (.n n.e n.aO)/\b8[i]?=some (((ph.dK key b8).mL (bL res) (decide (G=BE.c true)) b8 w.heap.size w'.heap.size).val n.id)/\0<n.aO.length/\fG w0.heap.size (ae.aB key gX) ((ph.dK key b8).mL (bL res) (decide (G=BE.c true)) b8 w.heap.size w'.heap.size) n w'/\
     ∀k,(((ph.dK key b8).mL (bL res) (decide (G=BE.c true)) b8 w.heap.size w'.heap.size).val n.id).ownBlock=some k->w.heap.size<=k/\k<w'.heap.size:=fun n ga=>by
   obtain⟨i,hi,ade,Jx,⟨h2,zi,h3,h3',Z5⟩,h4⟩:=e2N n ga;have hN:(bL res).any CT.yu=true:=mr.2 ⟨_,sU h4,rfl⟩;have cu:∀k,(((ph.dK key b8).mL (bL res) (decide (G=BE.c true)) b8 w.heap.size w'.heap.size).val n.id).ownBlock=some k->w.heap.size<=k/\k<w'.heap.size:=fun k hk=>by
     obtain⟨cs,ho,_⟩:=Z5;exact ho.lt k hk
   refine⟨i,by rw[ade],h4,Jx,h2,?_,cu⟩;have bN:=(qR _ G _ _ n ga).2;have adr:∀k,zi k->((ph.dK key b8).mL (bL res) (decide (G=BE.c true)) b8 w.heap.size w'.heap.size).z k:=fun k hk=>.inr ⟨hN,(h3 k hk).1,(h3 k hk).2,fun _ v hv e=>by
     obtain⟨j,hj⟩:=List.getElem?_of_mem hv;have:=agr i j _ v _ _ k h4 Jx hj e;subst this;exact h3' k e hk⟩
   unfold fG;split;obtain⟨cs,ho,iW⟩:=Z5.mY (z':=fun k=>((ph.dK key b8).mL (bL res) (decide (G=BE.c true)) b8 w.heap.size w'.heap.size).z k/\w0.heap.size<=k) (fun _ _=>rfl) (fun k hk=>⟨adr k hk,kI hB (h3 k hk).1⟩) (fun _ _=>rfl);exact⟨cs,rZ ho hB,iW⟩;rename_i qM;exact Z5.reads h2 adr (fun k hk=>.inr ⟨hN,(cu k hk).1,(cu k hk).2,fun ht=>by rw[bN]at qM;exact absurd ht qM⟩)
 have DU:∀b∈st.aY,((ph.dK key b8).mL (bL res) (decide (G=BE.c true)) b8 w.heap.size w'.heap.size).r b.id<w.heap.size:=fun b hb=>h.mem.EV hb;refine⟨fun k hk=>?_,fun b hb hz=>?_,fun r hr ho h1 k hk hz=>?_,fun n ga h1=>?_,fun n ga=>?_,fun n ga ho=>?_⟩;rcases Vt k hk with h2|h2;exact C6 (hn.lt k h2) iG.size;exact h2.2.1;rcases Vt _ hz with h2|h2;exact hn.bz b hb h2;have:=DU b hb;omega;rcases bO.1 hr with hr|hr;obtain⟨i,hi,_,_,_,_,yV⟩:=rn r hr;have h3:=(yV k hk).2;rcases Vt _ hz with h2|h2;have:=hn.lt k h2;omega;exact hS r hr h2.2.2.1;rcases Vt _ hz with h2|h2;exact hn.rz r hr ho h1 k hk h2;have:=hold r hr h1 k hk;omega;rcases ju.1 ga with ga|ga;obtain⟨i,_,_,_,h2,h3,_⟩:=hnN n ga;exact⟨h2,h3⟩;obtain⟨h2,h3⟩:=hn.rd n ga h1;refine⟨h2,?_⟩;unfold fG at *;split;rename_i ho;rw[if_pos ho]at h3;exact h3.mY (fun k hk=>iG.block k (hn.lt k hk.1) (by simp)) (fun k hk=>⟨.inl hk.1,hk.2⟩) (fun k hk=>iG.block k (hn.pZ ga ho hk).2 (by simp));rename_i ho;rw[if_neg ho]at h3;exact h3.mY (fun k hk=>iG.block k (hn.lt k hk) (by simp)) fun k hk=>.inl hk;rcases ju.1 ga with ga|ga;exact wM _ G (BE.aG bQ hG) (bL res) key jo n ga;exact ej.aG bQ (h.nest.nm n ga);rcases ju.1 ga with ga|ga;obtain⟨PX,Lh⟩:=qR _ G _ _ n ga;obtain⟨i,lW,h4,Jx,_,_,cu⟩:=hnN n ga;have hGc:G = .c true:=by rw[Lh]at ho;simpa using ho
 have hN:(bL res).any CT.yu=true:=mr.2 ⟨_,sU h4,rfl⟩;refine⟨by rw[PX,hGc],fun k hk=>?_⟩;obtain⟨zO,uX⟩:=cu k hk;refine⟨fun hz=>?_,fun b hb e=>?_,fun r hr Jy CR=>?_,fun n' po p9 Fs=>?_⟩;rcases Vt _ hz with h2|h2;have:=hn.lt k h2;omega;exact h2.2.2.2 (by simpa using hGc) _ (sU Jx) hk;have:=DU b hb;omega;rcases bO.1 hr with hr|hr;exact hS r hr hN;have:=hold r hr Jy k CR;omega;intro CR;rcases ju.1 po with po|po;obtain⟨i',ags,h4',_⟩:=hnN n' po;have:=Qb (Ft hN) h4 h4' rfl rfl;subst this;exact Fs (by rw[lW,ags]);have:=(hn.pZ po p9 (k:=k) CR).2;omega;obtain⟨g1,g2⟩:=hn.oz n ga ho;refine⟨g1,fun k hk=>?_⟩;obtain⟨f1,f2,f3,f4⟩:=g2 k hk;have cu:=(hn.pZ ga ho hk).2;refine⟨fun hz=>?_,f2,fun r hr Jy CR=>?_,fun n' po p9 Fs=>?_⟩;rcases Vt _ hz with h2|h2;exact f1 h2;omega;rcases bO.1 hr with hr|hr;obtain⟨_,_,_,_,_,_,yV⟩:=rn r hr;have:=(yV k CR).2;omega;exact f3 r hr Jy CR;intro CR;rcases ju.1 po with po|po;obtain⟨_,_,_,_,_,_,Ny⟩:=hnN n' po;have:=(Ny k CR).1;omega;exact f4 n' po p9 Fs CR
theorem Jz{a:Act}{key:Nat}(h:Sat w0 ae ph st a w)(aX:st.free key (width res)=true)(hG:G.all st.has=true)
   (hGf:G.af ae=false) (hl:gX.length=(bL res).length) :
   Step w0 ae (ae.aB key gX) ph ph st ({st.bC key (width res)with rows:=dm (cg G key res).2 st.rows,a7:=sI (ew (decide (G=BE.c true)) G key (bL res)) st.a7}.put dst ⟨G,qN (cg G key res).1⟩) (a.put dst undef) w w none:=by
 have hw:width res=(bL res).length:=rfl;have bM:bA st.has ae (ae.aB key gX) ph ph:=by
   refine⟨fun k hk=>?_,fun _ _=>rfl,fun k hk=>rfl⟩;rcases qK k key with h1|h1;rw[aH.cA h1];rcases qK k (key+(bL res).length)with h2|h2;rw[df aX h1 h2]at hk;cases hk;rw[aH.jr (by omega)]
 have j4:=h.congr bM;have I1:G.af (ae.aB key gX)=false:=by rw[<- BE.aq bM.e hG];exact hGf
 have bQ:∀k,st.has k=true->(st.bC key (width res)).has k=true:=fun k hk=>gP hk;have jo:∀i,i<(bL res).length->(st.bC key (width res)).has (key+i)=true:=fun i hi=>jn (by omega) (by rw[hw];omega);have cK:=iC (q:=(st.bC key (width res)).has) G (BE.aG bQ hG) (bL res) key jo;have hng:∀r∈(cg G key res).2,r.g=G:=by
   have:∀(cs:List CT) (id:Nat),∀r∈(aN G id cs).2,r.g=G:=by
     intro cs;induction cs with
     |nil=>intro id r hr;simp[aN]at hr
     | cons c cs ih=>
       intro id r hr;simp only[aN,mi]at hr;rcases hr with hr|hr;cases c with
       |c k=>cases k<;>simp[cX]at hr
       |s e ks=>simp[cX]at hr;rw[hr]
       |n e aO=>simp[cX]at hr
       exact ih _ r hr
   rw[fj];exact this _ _
 refine⟨⟨?_,?_,h.below,by rw[cS];exact h.defers,?_,?_⟩,bM,cw w,fun k hk=>by rw[cL];exact bQ k hk,fun b hb=>.inl ⟨b,by rw[cc]at hb;exact hb,rfl⟩⟩;refine nU (st:={st.bC key (width res)with rows:=dm (cg G key res).2 st.rows,a7:=sI (ew (decide (G=BE.c true)) G key (bL res)) st.a7}) j4.tmps ?_;simp only[aV.af,I1];rfl;rw[cc,dq];have hk:=j4.mem;have ho:∀r∈dm (cg G key res).2 st.rows,r.g.af (ae.aB key gX)=true->r∈st.rows:=fun r hr h1=>by
   rcases bO.1 hr with hr|hr;rw[hng r hr,I1]at h1;cases h1;exact hr
 exact⟨hk.nJ,hk.bb,fun r hr h1=>hk.row r (ho r hr h1) h1,fun b hb r hr h1=>hk.br b hb r (ho r hr h1) h1,fun r hr r' cY cV hw h1 h2=>hk.rr r (ho r hr h1) r' (ho r' cY h2) cV hw h1 h2⟩;refine⟨?_,?_,?_⟩;exact gQ (st:={st.bC key (width res)with rows:=dm (cg G key res).2 st.rows,a7:=sI (ew (decide (G=BE.c true)) G key (bL res)) st.a7}) (fun t s ht=>aV.aG bQ (h.names.tmps t s ht)) (qQ (BE.aG bQ hG) (nj G (BE.aG bQ hG) res key jo));rw[cc,cL];exact fun b hb=>iQ.aG bQ (h.names.aY b hb);rw[dq,cL];intro r hr;rcases bO.1 hr with hr|hr;rw[fj]at hr;exact cK.2 r hr;exact Row.aG bQ (h.names.rows r hr);refine dy.put (st:={st.bC key (width res)with rows:=dm (cg G key res).2 st.rows,a7:=sI (ew (decide (G=BE.c true)) G key (bL res)) st.a7}) ?_;have hn:=j4.nest;have Yz:∀n∈ew (decide (G=BE.c true)) G key (bL res),n.own=true->False:=fun n ga ho=>by
   obtain⟨_,Lh⟩:=qR _ G _ _ n ga;rw[Lh]at ho;have hGc:G = .c true:=by simpa using ho
   rw[hGc]at hGf;cases hGf
 refine⟨hn.lt,hn.bz,fun r hr ho h1 k hk=>?_,fun n ga h1=>?_,fun n ga=>?_,fun n ga ho=>?_⟩;rcases bO.1 hr with hr|hr;rw[hng r hr,I1]at h1;cases h1;exact hn.rz r hr ho h1 k hk;rcases ju.1 ga with ga|ga;rw[(qR _ G _ _ n ga).1,I1]at h1;cases h1;exact hn.rd n ga h1;rcases ju.1 ga with ga|ga;exact wM _ G (BE.aG bQ hG) (bL res) key jo n ga;exact ej.aG bQ (h.nest.nm n ga);rcases ju.1 ga with ga|ga;exact(Yz n ga ho).elim;obtain⟨g1,g2⟩:=hn.oz n ga ho;refine⟨g1,fun k hk=>?_⟩;obtain⟨f1,f2,f3,f4⟩:=g2 k hk;refine⟨f1,f2,fun r hr Jy CR=>?_,fun n' po p9 Fs=>?_⟩;rcases bO.1 hr with hr|hr;rw[hng r hr,I1]at Jy;cases Jy;exact f3 r hr Jy CR;rcases ju.1 po with po|po;exact(Yz n' po p9).elim;exact f4 n' po p9 Fs
end
end Go.Sx

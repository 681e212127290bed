/- The symbolic executor: memory and own rows. -/
import Derived.Test.YtohebioanhliiaaGreatDoorJA1
import Derived.Maps.AppendAt
import Derived.Laws.OwnMore
import Derived.ArgAppend
import Derived.Laws.IdiomStrings
import Derived.Calls
set_option linter.unusedVariables false
set_option linter.unusedSimpArgs false
namespace Go.Sx
section
open Go.RowKit
variable {ae:az}{ph:Ph}{P:Program}
theorem Reads.grown{w w':World}{v:Value}{n:Nat}{cells:List Value}{row:Option Nat}(h:Reads w v n cells)(hg:w.grownBy w' row)(cQ:cells≠[]->∀k,v.ownBlock=some k->some k≠row):Reads w' v n cells:=by
 obtain⟨base,cap,rfl,hn,h0,hc⟩:=h;refine⟨base,cap,rfl,hn,h0,fun j u hj=>?_⟩;obtain⟨a,rfl,ha⟩:=hc j u hj;refine⟨a,rfl,?_⟩;have kM:(a.add j).block=a.block:=by unfold Addr.add;split<;>rfl
 exact hg.cell ha (by rw[kM];exact cQ (by intro e;rw[e]at hj;simp at hj) _ (by simp[Value.ownBlock]))
theorem ur{w w':World}{B:Nat}{e:TypeId}{sz:Nat}{v:Value}{n:Nat}{xs:List Value}{row:Option Nat}(h:w.ownsRow B e sz v n xs)(hg:w.grownBy w' row)(cQ:∀k,v.ownBlock=some k->some k≠row):w'.ownsRow B e sz v n xs:=
 h.kept hg (by
   cases hv:v.ownBlock with
   |none=>exact .inl rfl
   |some k=>exact .inr (cQ k hv))
theorem gA.grown{B:Nat}{r:Row}{w w':World}{row:Option Nat}(h:gA B ae ph r w)(hg:w.grownBy w' row)(cQ:∀k,r.bU ae ph=some k->some k≠row):gA B ae ph r w':=by
 obtain⟨h0,h⟩:=h;refine⟨h0,?_⟩;split at h;rename_i ho;rw[if_pos ho];exact ur h hg (fun k hk=>cQ k (by simp[Row.bU,ho,hk]));rename_i ho;rw[if_neg ho];exact h.grown hg (fun hc k hk=>cQ k (by
   have:(ae r.lv).list.length≠0:=fun e=>hc (Dp (by rw[bQ,e,Nat.zero_mul]));simp[Row.bU,this,hk]))
theorem uk.lt{B:Nat}{b:iA}{w:World}(h:uk B ae ph b w):ph.r b.id<w.heap.size:=(rJ.1 h.2).1
theorem uk.grown{B:Nat}{b:iA}{w w':World}{row:Option Nat}(h:uk B ae ph b w)(hg:w.grownBy w' row)(cQ:some (ph.r b.id)≠row):uk B ae ph b w':=
 ⟨h.1,by rw[hg.block _ h.lt cQ];exact h.2⟩
theorem jS.grown{B:Nat}{aX:List iA}{rows:List Row}{w w':World}(h:jS B ae ph aX rows w)(hg:w.grownBy w' none):jS B ae ph aX rows w':=
 ⟨fun b hb=>(h.ny b hb).grown hg (by simp),h.bb,fun r hr h1=>(h.row r hr h1).grown hg (by simp),h.br,h.rr⟩
theorem cm(w:World):w.grownBy w none:=⟨rfl,rfl,rfl,fu _,fun _ _ _=>rfl⟩
theorem lk{w w':World}(h:Below w.heap.size w w'):w.grownBy w' none:=⟨h.os,h.tape,h.output,h.size,fun k hk _=>h.block k hk⟩
theorem oZ{a b c:World}{row:Option Nat}(h:a.grownBy b row)(k:b.grownBy c row):a.grownBy c row:=
 ⟨k.os.trans h.os,k.tape.trans h.tape,k.output.trans h.output,kL h.size k.size,fun i hi cQ=>(k.block i (DB hi h.size) cQ).trans (h.block i hi cQ)⟩
theorem iZ{a b:World}{row:Option Nat}(h:a.grownBy b none):a.grownBy b row:=⟨h.os,h.tape,h.output,h.size,fun i hi _=>h.block i hi (by simp)⟩
theorem Hs{q:Nat×Nat->Bool}{d:Nat×Nat}:∀ {l:List (Nat×Nat)},(xb d l).any q=(q d||l.any q):=by
 intro l;induction l with
 |nil=>simp[xb]
 | cons x l ih=>
   simp only[xb];split;simp;simp only[List.any_cons,ih];cases q x<;>cases q d<;>simp
theorem xc{st:St}{a n k:Nat}:(st.bB a n).has k=(st.has k||(decide (a<=k)&&decide (k<a+n))):=by
 show(decide (k<st.next)||(xb (a,a+n) st.o0).any _)=_;rw[Hs];show(decide (k<st.next)||(_||_))=((decide (k<st.next)||_)||_);rw[Bool.or_assoc,Bool.or_comm (decide (a<=k)&&decide (k<a+n))]
theorem gI{st:St}{a n k:Nat}(h:st.has k=true):(st.bB a n).has k=true:=by rw[xc,h];rfl
theorem ja{st:St}{a n k:Nat}(h1:a<=k)(h2:k<a+n):(st.bB a n).has k=true:=by rw[xc];simp[h1,h2]
theorem cT{st:St}{a n k:Nat}(h:st.free a n=true)(h1:a<=k)(h2:k<a+n):st.has k=false:=by
 simp only[St.free,ao,aC,jE,fF]at h;simp only[St.has,uL,tZ,List.any_eq_false,ao,aC,not_and];refine⟨by omega,fun d hd h3=>?_⟩;have:=h.2 d hd;omega
theorem IE.aD{p q:Nat->Bool}(h:∀k,p k=true->q k=true):∀ {e:IE},e.all p=true->e.all q=true:=by
 intro e;induction e with
 |v k=>simp only[IE.all];exact h k
 |c n=>simp[IE.all]
 |len k=>simp only[IE.all];exact h k
 |get k i j ih=>simp only[IE.all,ao];exact fun ha=>⟨h k ha.1,ih ha.2⟩
 |kZ i n a b tX tY XT=>simp only[IE.all,ao];exact fun ha=>⟨tX ha.1,tY ha.2.1,XT ha.2.2⟩
 |ediv a n ih=>simp only[IE.all];exact ih
 |emod a n ih=>simp only[IE.all];exact ih
 |wrap k a ih=>simp only[IE.all];exact ih
 |bits op k a b tX tY=>simp only[IE.all,ao];exact fun ha=>⟨tX ha.1,tY ha.2⟩
 |_ a b tX tY=>simp only[IE.all,ao];exact fun ha=>⟨tX ha.1,tY ha.2⟩
theorem BE.aD{p q:Nat->Bool}(h:∀k,p k=true->q k=true):∀ {e:BE},e.all p=true->e.all q=true:=by
 intro e;induction e with
 |v k=>simp only[BE.all];exact h k
 |c n=>simp[BE.all]
 |not a ih=>simp only[BE.all];exact ih
 |tu a=>simp only[BE.all];exact IE.aD h
 |and a b tX tY=>simp only[BE.all,ao];exact fun ha=>⟨tX ha.1,tY ha.2⟩
 |or a b tX tY=>simp only[BE.all,ao];exact fun ha=>⟨tX ha.1,tY ha.2⟩
 |iff a b tX tY=>simp only[BE.all,ao];exact fun ha=>⟨tX ha.1,tY ha.2⟩
 |_ a b=>simp only[BE.all,ao];exact fun ha=>⟨IE.aD h ha.1,IE.aD h ha.2⟩
theorem dp.aD{p q:Nat->Bool}(h:∀k,p k=true->q k=true){l:dp}(ha:l.all p=true):l.all q=true:=by
 cases l with
 |i k e=>exact IE.aD h ha
 |b e=>exact BE.aD h ha
 |s r=>exact h _ ha
 |kK=>rfl
theorem ak.aD{p q:Nat->Bool}(h:∀k,p k=true->q k=true){l:ak}(ha:l.all p=true):l.all q=true:=by
 cases l with
 |i k e=>exact IE.aD h ha
 |b e=>exact BE.aD h ha
 |p b o=>exact h _ ha
 |ep r s i j=>simp only[ak.all,ao]at ha ⊢;exact⟨h _ ha.1,IE.aD h ha.2⟩
 |pi b o s n x=>simp only[ak.all,ao]at ha ⊢;exact⟨h _ ha.1,IE.aD h ha.2⟩
 |s r=>exact h _ ha
 |fn g dx=>simp only[ak.all,jE]at ha ⊢;exact fun c hc=>h _ (ha c hc)
 |fl e=>exact IE.aD h ha
 |bf g a ls=>simp only[ak.all,jE]at ha ⊢;exact fun c hc=>dp.aD h (ha c hc)
 |vw r s lo n=>simp only[ak.all,ao]at ha ⊢;exact⟨h _ ha.1,IE.aD h ha.2.1,IE.aD h ha.2.2⟩
 |cs r=>exact h _ ha
 |bs b n s=>exact h _ ha
 |kb r bs=>exact h _ ha
 |ab r i b=>exact h _ ha
 |_=>rfl
theorem nH{p q:Nat->Bool}(h:∀k,p k=true->q k=true):∀ {ls:List ak},bq p ls=true->bq q ls=true:=by
 intro ls;induction ls with
 |nil=>intro _;rfl
 |cons l ls ih=>simp only[bq,ao];exact fun ha=>⟨ak.aD h ha.1,ih ha.2⟩
theorem V1.aD{p q:Nat->Bool}(h:∀k,p k=true->q k=true){v:V1}(ha:v.all p=true):v.all q=true:=by
 cases v with
 |one l=>exact ak.aD h ha
 |agg ls=>exact nH h ha
theorem xV{p q:Nat->Bool}(h:∀k,p k=true->q k=true):∀ {ls:List V1},dF p ls=true->dF q ls=true:=by
 intro ls;induction ls with
 |nil=>intro _;rfl
 |cons l ls ih=>simp only[dF,ao];exact fun ha=>⟨V1.aD h ha.1,ih ha.2⟩
theorem aT.aD{p q:Nat->Bool}(h:∀k,p k=true->q k=true){s:aT}(ha:s.all p=true):s.all q=true:=by
 simp only[aT.all,ao]at ha ⊢;refine⟨BE.aD h ha.1,?_⟩;cases hs:s.sv with
 |v x=>rw[hs]at ha;exact V1.aD h ha.2
 |Hc xs=>rw[hs]at ha;exact xV h ha.2
theorem iA.aD{p q:Nat->Bool}(h:∀k,p k=true->q k=true){b:iA}(ha:b.all p=true):b.all q=true:=by
 simp only[iA.all,ao]at ha ⊢;exact⟨h _ ha.1,nH h ha.2⟩
theorem Row.aD{p q:Nat->Bool}(h:∀k,p k=true->q k=true){r:Row}(ha:r.all p=true):r.all q=true:=by
 simp only[Row.all,ao]at ha ⊢;exact⟨h _ ha.1,h _ ha.2.1,BE.aD h ha.2.2⟩
theorem cy{st:St}{dst:Option Tmp}{s:aT}:(st.put dst s).has=st.has:=by
 cases dst<;>rfl
theorem bV{st:St}{dst:Option Tmp}{s:aT}:(st.put dst s).aX=st.aX:=by cases dst<;>rfl
theorem df{st:St}{dst:Option Tmp}{s:aT}:(st.put dst s).rows=st.rows:=by cases dst<;>rfl
theorem fS.put{ts:List (Option aT)}{tmps:Array Value}(h:fS ae ph ts tmps)(d:Nat)(s:aT):fS ae ph (ts.set d (some s)) (tmps.setIfInBounds d (s.af ae ph)):=by
 refine⟨by simpa using h.1,fun t s' ht=>?_⟩;rw[List.getElem?_set]at ht;rw[Array.getElem?_setIfInBounds];by_cases hd:d=t;subst hd;simp only[if_true]at ht ⊢;split at ht;rename_i cJ;simp only[ah]at ht;subst ht;rw[if_pos (by rw[<- h.1];exact cJ)];cases ht;simp only[hd,if_false]at ht ⊢;exact h.2 t s' ht
theorem nI{st:St}{a:Act}{dst:Option Tmp}{s:aT}{v:Value}(h:fS ae ph st.tmps a.tmps)(hv:v=s.af ae ph):fS ae ph (st.put dst s).tmps (a.put dst v).tmps:=by
 subst hv;cases dst with
 |none=>exact h
 |some d=>exact h.put d s
theorem gJ{st:St}{dst:Option Tmp}{s:aT}(h:∀(t:Nat) (s:aT),st.tmps[t]?=some (some s)->s.all st.has=true)(hs:s.all st.has=true) :
   ∀(t:Nat) (s':aT),(st.put dst s).tmps[t]?=some (some s')->s'.all (st.put dst s).has=true:=by
 intro t s' ht;rw[cy];cases dst with
 |none=>exact h t s' ht
 | some d=>
   simp only[St.put]at ht;rw[List.getElem?_set]at ht;split at ht;split at ht;simp only[ah]at ht;subst ht;exact hs;cases ht;exact h t s' ht
theorem cH{a:Act}{dst:Option Tmp}{v:Value}:(a.put dst v).defers=a.defers:=by cases dst<;>rfl
theorem KT{st:St}{dst:Option Tmp}{s:aT}:(st.put dst s).a8=st.a8:=by cases dst<;>rfl
theorem dX.aD{p q:Nat->Bool}(h:∀k,p k=true->q k=true){r:dX}(ha:r.all p=true):r.all q=true:=by
 simp only[dX.all,ao]at ha ⊢;exact⟨h _ ha.1,h _ ha.2.1,BE.aD h ha.2.2⟩
theorem dq.next{B:Nat}{st bc:St}{w w':World}{row:Option Nat}(h:dq B ae ph st w){aq:az}{aJ:Ph}(bL:bt st.has ae aq ph aJ)(hz:aJ.z=ph.z)(hm:∀k,st.has k=true->bc.has k=true)(hg:w.grownBy w' row)(bj:∀k,row=some k->¬ ph.z k/\∀n∈st.a8,n.own=true->(ph.val n.id).ownBlock≠some k)(hn:bc.a8=st.a8)
   (hb:∀b∈bc.aX,(∃b0∈st.aX,aJ.r b.id=ph.r b0.id)\/w.heap.size<=aJ.r b.id)
   (hr:∀r∈bc.rows,r.g.af aq=true->∀k,r.bU aq aJ=some k->(∃r0∈st.rows,(r.own=true->r0.own=true)/\r0.g.af ae=true/\r0.bU ae ph=some k)\/w.heap.size<=k\/row=some k\/(r.own=false/\ph.z k)):dq B aq aJ bc w':=by
 have hv:∀n∈st.a8,aJ.val n.id=ph.val n.id/\aq n.lv=ae n.lv/\n.g.af aq=n.g.af ae:=fun n hn=>by
   have:=h.nm n hn;simp only[dX.all,ao]at this;exact⟨by simp only[Ph.val,bL.v _ this.1],(bL.e _ this.2.1).symm,(BE.ar bL.e this.2.2).symm⟩
 refine⟨fun k hk=>DB (h.lt k (by rw[<- hz];exact hk)) hg.size,fun b Ci NG=>?_,fun r TN ho h1 k hk KU=>?_,fun n jF h1=>?_,fun n jF=>dX.aD hm (h.nm n (by rw[<- hn];exact jF)),fun n jF ho=>?_⟩;rw[hz]at NG;rcases hb b Ci with⟨b0,h0,e⟩|e;rw[e]at NG;exact h.bz b0 h0 NG;have:=h.lt _ NG;omega;rw[hz]at KU;rcases hr r TN h1 k hk with⟨r0,h0,h2,h3,h4⟩|e|e|⟨e,_⟩;exact h.rz r0 h0 (h2 ho) h3 k h4 KU;have:=h.lt _ KU;omega;exact(bj k e).1 KU;rw[e]at ho;cases ho;rw[hn]at jF;obtain⟨e1,e2,e3⟩:=hv n jF;obtain⟨h0,Bt⟩:=h.rd n jF (by rw[<- e3];exact h1);refine⟨h0,?_⟩;unfold ft at *;rw[hz,e1,e2];split;rename_i ho;rw[if_pos ho]at Bt;refine Bt.mL (fun k hk=>hg.block k (h.lt k hk.1) (fun e=>(bj k e.symm).1 hk.1)) (fun _ h=>h) (fun k hk=>hg.block k (h.oX jF ho hk).2 (fun e=>(bj k e.symm).2 n jF ho hk));rename_i ho;rw[if_neg ho]at Bt;exact Bt.mL (fun k hk=>hg.block k (h.lt k hk) (fun e=>(bj k e.symm).1 hk)) (fun _ h=>h);rw[hn]at jF;obtain⟨e1,e2,e3⟩:=hv n jF;obtain⟨h1,h2⟩:=h.oz n jF ho;refine⟨h1,fun k hk=>?_⟩;rw[e1]at hk;obtain⟨g1,g2,g3,g4⟩:=h2 k hk;have cJ:=(h.oX jF ho hk).2;refine⟨by rw[hz];exact g1,fun b Ci he=>?_,fun r TN il hf=>?_,fun n' kR ql cQ=>?_⟩;rcases hb b Ci with⟨b0,h0,e⟩|e;exact g2 b0 h0 (by rw[<- e];exact he);omega;rcases hr r TN il k hf with⟨r0,h0,_,h3,h4⟩|e|e|⟨_,e⟩;exact g3 r0 h0 h3 h4;omega;exact(bj k e).2 n jF ho hk;exact g1 e;rw[hn]at kR;rw[(hv n' kR).1];exact g4 n' kR ql cQ
theorem dq.same{B:Nat}{st bc:St}{w:World}(h:dq B ae ph st w)(hm:∀k,st.has k=true->bc.has k=true)(h1:bc.aX=st.aX)(h2:bc.rows=st.rows)(h3:bc.a8=st.a8):dq B ae ph bc w:=
 ⟨h.lt,by rw[h1];exact h.bz,by rw[h2];exact h.rz,by rw[h3];exact h.rd,by rw[h3];exact fun n hn=>dX.aD hm (h.nm n hn),by rw[h1,h2,h3];exact h.oz⟩
theorem dq.put{B:Nat}{st:St}{w:World}{dst:Option Tmp}{s:aT}(h:dq B ae ph st w):dq B ae ph (st.put dst s) w:=
 h.same (fun k hk=>by rw[cy];exact hk) bV df KT
theorem Sat.put{w0 w:World}{st:St}{a:Act}{dst:Option Tmp}{s:aT}{v:Value}(h:Sat w0 ae ph st a w)(hs:s.all st.has=true)(hv:v=s.af ae ph):Sat w0 ae ph (st.put dst s) (a.put dst v) w:=
 ⟨nI h.tmps hv,by rw[bV,df];exact h.mem,h.below,by rw[cH];exact h.defers,
   ⟨gJ h.names.tmps hs,by rw[bV,cy];exact h.names.aX,by rw[df,cy];exact h.names.rows⟩,h.nest.put⟩
theorem nJ:kf.af ae ph=undef:=rfl
theorem nK{p:Nat->Bool}:kf.all p=true:=rfl
end
section
open Go.RowKit
variable {ae:az}{ph:Ph}{P:Program}
theorem kg(g:Nat)(ty:TypeId)(off:Nat):∀(vs:List Value) (i:Nat) (cur:List Value) (w:World),w.heap[g]?=some (.cells cur.toArray ty (0,0))->off+i+vs.length<=cur.length->(∀v∈vs,v.oneCell'=true)->
   ∃w',(storeCells ⟨g,off,none⟩ vs i).run P w = .ok () w'/\w.grownBy w' (some g)/\w'.heap[g]?=some (.cells ((vs.zipIdx i).foldl (fun cs (x:Value×Nat)=>cs.set (off+x.2) x.1) cur).toArray ty (0,0)):=by
 intro vs;induction vs with
 |nil=>intro i cur w hg _ _;exact⟨w,rfl,iZ (cm w),hg⟩
 | cons v vs ih=>
   intro i cur w hg hl h1;simp only[yN]at hl;have cJ:off+i<cur.length:=by omega
   have mE:w.cell? ⟨g,off+i,none⟩=some cur[off+i]:=by
     rw[cell_of_row w g _ _ _ _ hg];simp[cJ]
   have hfz:=frozen_of_row w g (off+i) cur.toArray ty hg;have dV:(store ((⟨g,off,none⟩:Addr).add i) v).run P w = .ok () (w.setCell ⟨g,off+i,none⟩ v):=by
     rw[jr,run_store P w _ v _ (h1 v (aK ..))];simp[stored,mE,hfz]
   have zh:(w.setCell ⟨g,off+i,none⟩ v).heap[g]?=some (.cells (cur.set (off+i) v).toArray ty (0,0)):=by
     have:=heap_setCell_same w g (off+i) cur.toArray ty v hg;rw[this];simp
   obtain⟨w',hr,il,hh⟩:=ih (i+1) (cur.set (off+i) v) (w.setCell ⟨g,off+i,none⟩ v) zh (by simp;omega) (fun u hu=>h1 u (bl _ hu));refine⟨w',?_,?_,?_⟩;simp only[storeCells,eI,dV,eH,hr];have uK:w.grownBy (w.setCell ⟨g,off+i,none⟩ v) (some g):=⟨rfl,rfl,rfl,by simp,fun k _ hk=>heap_setCell_other w ⟨g,off+i,none⟩ k v (fun e=>hk (by rw[e]))⟩;exact oZ uK il;simpa[List.zipIdx_cons]using hh
theorem xW{t:TypeId}{g off:Nat}{ty:TypeId}{v:V1}{cs:List ak}{w:World}(hs:v.leaves.length=P.cellsOf t)(mK:0<P.cellsOf t)(hg:w.heap[g]?=some (.cells (cs.map (ak.af ae ph)).toArray ty (0,0)))
   (hl:off+v.leaves.length<=cs.length) :
   ∃w',(Instr.storeAt t (.pointer (some ⟨g,off,none⟩)) (v.af ae ph)).run P w = .ok () w'/\w.grownBy w' (some g)/\w'.heap[g]?=some (.cells ((iJ cs off v.leaves).map (ak.af ae ph)).toArray ty (0,0)):=by
 obtain⟨w',hr,il,hh⟩:=kg (P:=P) g ty off (v.leaves.map (ak.af ae ph)) 0 (cs.map (ak.af ae ph)) w hg (by simpa using hl) (fun u hu=>by
   obtain⟨l,_,rfl⟩:=jb.1 hu;exact ak.xU l)
 refine⟨w',?_,il,by rw[hh,mO]⟩;simp only[Instr.storeAt,Instr.sureAddr,eI,fK,eH,storeVar,cg mK,V1.fE];rw[if_neg (by simp[hs])];simpa using hr
theorem gk{b x:iA}:∀ {l:List iA},b∈mh x l↔b=x\/b∈l:=by
 intro l;induction l with
 |nil=>simp[mh]
 | cons y l ih=>
   simp only[mh];split;simp;simp only[bD,ih];constructor;rintro(h|h|h)<;>simp[h];rintro(h|h|h)<;>simp[h]
theorem dH{b x:Row}:∀ {l:List Row},b∈dr x l↔b=x\/b∈l:=by
 intro l;induction l with
 |nil=>simp[dr]
 | cons y l ih=>
   simp only[dr];split;simp;simp only[bD,ih];constructor;rintro(h|h|h)<;>simp[h];rintro(h|h|h)<;>simp[h]
structure Step(w0:World)(ae aq:az)(ph aJ:Ph)(st bc:St)(a':Act)(w w':World)(row:Option Nat):Prop where
 sat:Sat w0 aq aJ bc a' w'
 agree:bt st.has ae aq ph aJ
 grown:w.grownBy w' row
 mono:∀k,st.has k=true->bc.has k=true
 fresh:∀b∈bc.aX,(∃b0∈st.aX,b0.id=b.id)\/w.heap.size<=aJ.r b.id
theorem cC{p:Nat->Bool}:bt p ae ae ph ph:=⟨fun _ _=>rfl,fun _ _=>rfl,fun _ _=>rfl⟩
theorem zJ{w0 w:World}{st:St}{a:Act}{key:Nat}{e:TypeId}{ls:List ak}{dst:Option Tmp}{s:aT}{v:Value}(h:Sat w0 ae ph st a w)(aW:st.free key 1=true)(vx:bq st.has ls=true)
   (hsa:s.all (st.bB key 1).has=true) (hv:v=s.af ae (ph.o6 key w.heap.size)) :
   Step w0 ae ae ph (ph.o6 key w.heap.size) st ({st.bB key 1 with aX:=mh ⟨key,e,ls⟩ st.aX}.put dst s) (a.put dst v) w (w.alloc (.cells (ls.map (ak.af ae ph)).toArray e)) none:=by
   have uQ:st.has key=false:=cT aW (fu _) (by omega);have bL:bt st.has ae ae ph (ph.o6 key w.heap.size):=⟨fun _ _=>rfl,fun k hk=>by
     have:k≠key:=fun e=>by rw[e,uQ]at hk;cases hk
     simp[Ph.o6,this],fun _ _=>rfl⟩
   have ir:=h.congr bL;have il:w.grownBy (w.alloc (.cells (ls.map (ak.af ae ph)).toArray e)) none:=World.grownBy_alloc w _ none;have bO:∀k,st.has k=true->(st.bB key 1).has k=true:=fun k hk=>gI hk;have hB:w0.heap.size<=w.heap.size:=h.below.size;refine⟨⟨?_,?_,h.below.alloc hB _,by rw[cH];exact h.defers,?_,?_⟩,bL,il,fun k hk=>by rw[cy];exact bO k hk,fun b hb=>?_⟩
   rotate_right
   rw[bV]at hb;rcases gk.1 hb with rfl|hb;exact .inr (by simp[Ph.o6]);exact .inl ⟨b,hb,rfl⟩;refine nI (st:={st.bB key 1 with aX:=mh ⟨key,e,ls⟩ st.aX}) ir.tmps ?_;exact hv;rw[bV,df];have hm:=ir.mem.grown il;have anx:∀b∈st.aX,b.id≠key:=fun b hb e=>by
     have:=h.names.aX b hb;simp only[iA.all,ao]at this;rw[e,uQ]at this;simp at this
   refine⟨fun b hb=>?_,fun b hb b' nB cQ=>?_,hm.row,fun b hb r hr h1=>?_,hm.rr⟩;rcases gk.1 hb with rfl|hb;refine⟨by simp[Ph.o6];exact hB,?_⟩;simp only[Ph.o6,if_true,heap_alloc_new];have:=j7 bL vx;rw[this];rfl;exact hm.ny b hb;have cJ:∀b∈st.aX,(ph.o6 key w.heap.size).r b.id<w.heap.size:=fun b hb=>(ir.mem.ny b hb).lt;rcases gk.1 hb with rfl|hb<;>rcases gk.1 nB with rfl|nB;exact absurd rfl cQ;have:=cJ b' nB;simp only[Ph.o6,if_true]at this ⊢;omega;have:=cJ b hb;simp only[Ph.o6,if_true]at this ⊢;omega;exact hm.bb b hb b' nB cQ;rcases gk.1 hb with rfl|hb;intro abJ;simp only[Ph.o6,if_true]at abJ;have:=(ir.mem.row r hr h1).tv abJ;omega;exact hm.br b hb r hr h1;refine⟨?_,?_,?_⟩;refine gJ (st:={st.bB key 1 with aX:=mh ⟨key,e,ls⟩ st.aX}) (fun t s ht=>aT.aD bO (h.names.tmps t s ht)) hsa;rw[bV,cy];intro b hb;rcases gk.1 hb with rfl|hb;simp only[iA.all,ao];exact⟨ja (st:=st) (a:=key) (n:=1) (fu _) (by omega),nH bO vx⟩;exact iA.aD bO (h.names.aX b hb);rw[df,cy];exact fun r hr=>Row.aD bO (h.names.rows r hr)
   . refine dq.put (st:={st.bB key 1 with aX:=mh ⟨key,e,ls⟩ st.aX}) (h.nest.next bL rfl bO il (fun k hk=>by cases hk) rfl (fun b hb=>?_) (fun r hr h1 k hk=>?_));rcases gk.1 hb with rfl|hb;exact .inr (by simp[Ph.o6]);have:=h.names.aX b hb;simp only[iA.all,ao]at this;exact .inl ⟨b,hb,(bL.r _ this.1).symm⟩;have cO:r∈st.rows:=hr;have:=h.names.rows r cO;simp only[Row.all,ao]at this;refine .inl ⟨r,cO,id,h1,?_⟩;unfold Row.bU at hk ⊢;simp only[Ph.val,bL.v _ this.1];exact hk
theorem Cr{w0 w:World}{st:St}{a:Act}{key:Nat}{e:TypeId}{ls:List ak}{dst:Option Tmp}{dm:List Ev}{bc:St}(h:Sat w0 ae ph st a w)(ha:pK st key e ls dst=some (dm,bc)) :
   dm=[]/\Step w0 ae ae ph (ph.o6 key w.heap.size) st bc (a.put dst (.pointer (some ⟨w.heap.size,0,none⟩))) w (w.alloc (.cells (ls.map (ak.af ae ph)).toArray e)) none:=by
 unfold pK at ha;split at ha;rename_i hc;simp only[ao]at hc;obtain⟨aW,vx⟩:=hc;simp only[ah,ay]at ha;obtain⟨rfl,rfl⟩:=ha;refine⟨rfl,zJ h aW vx ?_ ?_⟩;simp only[aT.all,BE.all,SV.all,V1.all,ak.all,Bool.true_and];exact ja (fu _) (by omega);simp[aT.af,BE.af,SV.af,V1.af,ak.af,Ph.o6];cases ha
end
section
open Go.RowKit
variable {ae:az}{ph:Ph}{P:Program}
theorem vF{w0 w w':World}{st bc:St}{a:Act}{b:iA}{cs:List ak}{dst:Option Tmp}{dm:List Ev}(h:Sat w0 ae ph st a w)(hs:setCells st b cs dst=some (dm,bc))(hb:b∈st.aX)
   (hg:w.grownBy w' (some (ph.r b.id))) (hw:w'.heap[ph.r b.id]?=some (.cells (cs.map (ak.af ae ph)).toArray b.ty (0,0))) :
   dm=[]/\Step w0 ae ae ph ph st bc (a.put dst undef) w w' (some (ph.r b.id)):=by
 unfold setCells at hs;split at hs
 . rename_i jn;simp only[ah,ay]at hs;obtain⟨rfl,rfl⟩:=hs;have hB:=(h.mem.ny b hb).1;have mem_set:∀y∈(xd st {b with cells:=cs}).aX,(y = {b with cells:=cs})\/(y∈st.aX/\y.id≠b.id):=by
     intro y hy;simp only[xd,jb]at hy;obtain⟨x,hx,rfl⟩:=hy;split;exact .inl rfl;rename_i cQ;exact .inr ⟨hx,cQ⟩
   refine⟨rfl,⟨?_,?_,h.below.grown hg h.below.size (fun k hk=>by cases hk;exact hB),by rw[cH];exact h.defers,?_,?_⟩,cC,hg,fun k hk=>by rw[cy];exact hk,fun y hy=>?_⟩
   rotate_right
   rw[bV]at hy;rcases mem_set y hy with rfl|⟨hy,_⟩;exact .inl ⟨b,hb,rfl⟩;exact .inl ⟨y,hy,rfl⟩;exact nI (st:=xd st {b with cells:=cs}) h.tmps nJ.symm;rw[bV,df];refine⟨fun y hy=>?_,fun y hy y' To cQ=>?_,fun r hr h1=>?_,fun y hy r hr h1=>?_,h.mem.rr⟩;rcases mem_set y hy with rfl|⟨hy,cQ⟩;exact⟨hB,hw⟩;exact(h.mem.ny y hy).grown hg (fun e=>by
     simp only[ah]at e;exact h.mem.bb y hy b hb cQ e)
   rcases mem_set y hy with rfl|⟨hy,abK⟩<;>rcases mem_set y' To with rfl|⟨To,NH⟩;exact absurd rfl cQ;exact h.mem.bb b hb y' To cQ;exact h.mem.bb y hy b hb cQ;exact h.mem.bb y hy y' To cQ;exact(h.mem.row r hr h1).grown hg (fun k hk e=>by
     simp only[ah]at e;subst e;exact h.mem.br b hb r hr h1 hk)
   rcases mem_set y hy with rfl|⟨hy,_⟩;exact h.mem.br b hb r hr h1;exact h.mem.br y hy r hr h1;refine⟨gJ (st:=xd st {b with cells:=cs}) h.names.tmps nK,?_,?_⟩;rw[bV,cy];intro y hy;rcases mem_set y hy with rfl|⟨hy,_⟩;have:=h.names.aX b hb;simp only[iA.all,ao]at this ⊢;exact⟨this.1,jn⟩;exact h.names.aX y hy;rw[df,cy];exact h.names.rows
   . refine dq.put (st:=xd st {b with cells:=cs}) (h.nest.next cC rfl (fun _ h=>h) hg (fun k hk=>?_) rfl (fun y hy=>?_) (fun r hr h1 k hk=>.inl ⟨r,hr,id,h1,hk⟩));simp only[ah]at hk;subst hk;exact⟨h.nest.bz b hb,fun n hn ho e=>((h.nest.oz n hn ho).2 _ e).2.1 b hb rfl⟩;rcases mem_set y hy with rfl|⟨hy,_⟩;exact .inl ⟨b,hb,rfl⟩;exact .inl ⟨y,hy,rfl⟩
 cases hs
theorem xX(r:List Int)(j j':Nat)(x:Int):(nL r j x).getD j' 0=if j'=j then x else r.getD j' 0:=by
 unfold nL;split;rename_i h;by_cases e:j'=j;subst e;simp[List.getD,h];have e':j≠j':=fun h=>e h.symm;simp[List.getD,List.getElem?_set,e,e'];rename_i h;by_cases e:j'=j;subst e;simp only[if_true,List.getD];rw[pB (by omega),pB (by simp)];simp;simp only[e,if_false,List.getD];by_cases h1:j'<r.length;rw[mJ h1];rw[pB (by omega)];by_cases h2:j'<j;rw[mJ (by simp;omega)];simp[Fu,rZ (Nat.le_of_not_lt h1)];split<;>rfl;rw[pB (by simp;omega)];rw[rZ (by simp;omega),rZ (Nat.le_of_not_lt h1)]
theorem yO(ks:List CK):∀(j0 j:Nat) (r:List Int) (x:Int) (k:CK),ks[j]?=some k->bP ks j0 (nL r (j0+j) x)=(bP ks j0 r).set j (k.val x):=by
 intro j0 j r x k hk;apply List.ext_getElem?;intro j';rw[iX,List.getElem?_set,cx];have hj:j<ks.length:=(dc.1 hk).1;by_cases e:j=j';subst e;rw[hk];simp only[se,xX,if_true,hj];simp only[e,if_false];rw[iX];cases h:ks[j']? with
 |none=>rfl
 | some k'=>
   simp only[se,xX];rw[if_neg (by omega)]
theorem sf(ks:List CK):∀(xs:List (List Int)) (i j:Nat) (x:Int) (k:CK),i<xs.length->ks[j]?=some k->
   aB ks (setAt xs (i:Int) j x)=(aB ks xs).set (i*ks.length+j) (k.val x):=by
 intro xs;induction xs with
 |nil=>intro i j x k hi;simp at hi
 | cons r rs ih=>
   intro i j x k hi hk;have hj:j<ks.length:=(dc.1 hk).1;cases i with
   | zero=>
     simp only[setAt,qm,List.modify_zero_cons,aB,Nat.zero_mul,fC];have:=yO ks 0 j r x k hk;rw[fC]at this;rw[this,List.set_append_left _ _ (by rw[cx];exact hj)]
   | succ i=>
     have Ww:=ih i j x k (by simpa using hi) hk;simp only[setAt,qm]at Ww ⊢;simp only[List.modify_succ_cons,aB,Ww];have e:(i+1)*ks.length+j=(bP ks 0 r).length+(i*ks.length+j):=by rw[cx,la];omega
     rw[e,List.set_append_right _ _ (by omega)];simp
theorem vG(xs:List (List Int))(i:Int)(j:Nat)(x:Int):(setAt xs i j x).length=xs.length:=by simp[setAt]
theorem DC{w0 w w':World}{st:St}{a:Act}{key:Nat}{nr:Row}{xs:List (List Int)}{rows:List Row}{dst:Option Tmp}{row:Option Nat}{aJ:Ph}{s:aT}{v:Value}
   (h:Sat w0 ae ph st a w) (yP:nr.lv=key) (rS:nr.g.all st.has=true) (X2:nr.g.af ae=true) (aW:st.free key 1=true) (eJ:∀r∈rows,r∈st.rows) (hg:w.grownBy w' row)
   (bj:∀k,row=some k->w0.heap.size<=k/\¬ ph.z k/\∀n∈st.a8,n.own=true->(ph.val n.id).ownBlock≠some k)
   (bL:bt st.has ae (ae.set key (.l xs)) ph aJ) (hz:aJ.z=ph.z) (afS:(st.bB key 1).has nr.id=true)
   (kM:∀b∈st.aX,row≠some (ph.r b.id)) (gT:∀r∈rows,r.g.af ae=true->∀k,r.bU ae ph=some k->row≠some k)
   (gD:gA w0.heap.size (ae.set key (.l xs)) aJ nr w') (jc:∀k,nr.bU (ae.set key (.l xs)) aJ=some k->row=some k\/w.heap.size<=k)
   (hsa:s.all (st.bB key 1).has=true) (hv:v=s.af (ae.set key (.l xs)) aJ) :
   Step w0 ae (ae.set key (.l xs)) ph aJ st ({st.bB key 1 with rows:=dr nr rows}.put dst s) (a.put dst v) w w' row:=by
 have uQ:st.has key=false:=cT aW (fu _) (by omega);have ir:=h.congr bL hz;have bO:∀k,st.has k=true->(st.bB key 1).has k=true:=fun k hk=>gI hk;have mi:=fun(q:Row) (hq:q∈st.rows)=>by
   have:=h.names.rows q hq;simpa only[Row.all,ao]using this
 have eR:∀r∈st.rows,r.bU (ae.set key (.l xs)) aJ=r.bU ae ph:=fun r hr=>by
   unfold Row.bU;rw[<- bL.e _ (mi r hr).2.1];simp only[Ph.val,bL.v _ (mi r hr).1]
 have oA:∀r∈st.rows,r.g.af (ae.set key (.l xs))=r.g.af ae:=fun r hr=>(BE.ar bL.e (mi r hr).2.2).symm;have rL:∀b∈st.aX,aJ.r b.id=ph.r b.id:=fun b hb=>by
   have:=h.names.aX b hb;simp only[iA.all,ao]at this;exact(bL.r _ this.1).symm
 have zK:∀k,nr.bU (ae.set key (.l xs)) aJ=some k->(∀b∈st.aX,ph.r b.id≠k)/\(∀r∈rows,r.g.af ae=true->r.bU ae ph≠some k):=by
   intro k hk;rcases jc k hk with e|e;exact⟨fun b hb he=>kM b hb (by rw[e,he]),fun r hr h1 hf=>gT r hr h1 k hf e⟩;refine⟨fun b hb he=>?_,fun r hr h1 hf=>?_⟩;have:=(h.mem.ny b hb).lt;omega;have:=(h.mem.row r (eJ r hr) h1).tv hf;omega
 refine⟨⟨?_,?_,h.below.grown hg h.below.size (fun k hk=>(bj k hk).1),by rw[cH];exact h.defers,?_,?_⟩,bL,hg,fun k hk=>by rw[cy];exact bO k hk,fun b hb=>?_⟩;exact nI (st:={st.bB key 1 with rows:=dr nr rows}) ir.tmps hv;rw[bV,df];refine⟨fun b hb=>(ir.mem.ny b hb).grown hg (fun e=>kM b hb (by rw[<- e,rL b hb])),ir.mem.bb,fun r hr h1=>?_,fun b hb r hr h1=>?_,fun r hr r' cO kT ho h1 h2=>?_⟩;rcases dH.1 hr with rfl|hr;exact gD;have dZ:=eJ r hr;rw[oA r dZ]at h1;exact(ir.mem.row r dZ (by rw[oA r dZ];exact h1)).grown hg (fun k hk e=>by
   rw[eR r dZ]at hk;exact gT r hr h1 k hk e.symm)
 rcases dH.1 hr with rfl|hr;intro hk;rw[rL b hb]at hk;exact(zK _ hk).1 b hb rfl;exact ir.mem.br b hb r (eJ r hr) h1;rcases dH.1 hr with e1|q<;>rcases dH.1 cO with e2|q';exact absurd (by rw[e1,e2]) kT;intro k hk cY;rw[e1]at hk;rw[eR r' (eJ r' q')]at cY;rw[oA r' (eJ r' q')]at h2;exact(zK k hk).2 r' q' h2 cY;intro k hk cY;rw[e2]at cY;rw[eR r (eJ r q)]at hk;rw[oA r (eJ r q)]at h1;exact(zK k cY).2 r q h1 hk;exact ir.mem.rr r (eJ r q) r' (eJ r' q') kT ho h1 h2;refine⟨?_,?_,?_⟩;exact gJ (st:={st.bB key 1 with rows:=dr nr rows}) (fun t s ht=>aT.aD bO (h.names.tmps t s ht)) hsa;rw[bV,cy];exact fun b hb=>iA.aD bO (h.names.aX b hb);rw[df,cy];intro r hr;rcases dH.1 hr with rfl|hr;simp only[Row.all,ao];have:(st.bB key 1).has key=true:=ja (fu _) (by omega);exact⟨afS,by rw[yP];exact this,BE.aD bO rS⟩;exact Row.aD bO (h.names.rows r (eJ r hr))
 . refine dq.put (st:={st.bB key 1 with rows:=dr nr rows}) (h.nest.next bL hz bO hg (fun k hk=>(bj k hk).2) rfl (fun b hb=>.inl ⟨b,hb,rL b hb⟩) (fun r hr h1 k hk=>?_));rcases dH.1 hr with rfl|hr;rcases jc k hk with e|e;exact .inr (.inr (.inl e));exact .inr (.inl e);have dZ:=eJ r hr;exact .inl ⟨r,dZ,id,by rw[<- oA r dZ];exact h1,by rw[<- eR r dZ];exact hk⟩
 rw[bV]at hb;exact .inl ⟨b,hb,rfl⟩
theorem ll{w0 w w':World}{st:St}{a:Act}{key:Nat}{e:TypeId}{ks:List CK}{xs:List (List Int)}{rows:List Row}{dst:Option Tmp}{sl:Option Addr×Nat×Nat}{row:Option Nat}{G:BE}
   (h:Sat w0 ae ph st a w) (rS:G.all st.has=true) (X2:G.af ae=true) (aW:st.free key 1=true) (nA:0<ks.length) (eJ:∀r∈rows,r∈st.rows) (hg:w.grownBy w' row)
   (bj:∀k,row=some k->w0.heap.size<=k/\¬ ph.z k/\∀n∈st.a8,n.own=true->(ph.val n.id).ownBlock≠some k)
   (kM:∀b∈st.aX,row≠some (ph.r b.id)) (gT:∀r∈rows,r.g.af ae=true->∀k,r.bU ae ph=some k->row≠some k)
   (bM:w'.ownsRow w0.heap.size e ks.length (.slice sl.1 sl.2.1 sl.2.2) xs.length (aB ks xs)) (jc:(Value.slice sl.1 sl.2.1 sl.2.2).ownBlock=row\/(Value.slice sl.1 sl.2.1 sl.2.2).ownBlock=some w.heap.size\/(Value.slice sl.1 sl.2.1 sl.2.2).ownBlock=none) :
   Step w0 ae (ae.set key (.l xs)) ph (ph.vH key sl) st ({st.bB key 1 with rows:=dr ⟨key,e,ks,key,true,G⟩ rows}.put dst ⟨G,.v (.one (.s key))⟩)
     (a.put dst (.slice sl.1 sl.2.1 sl.2.2)) w w' row:=by
 have uQ:st.has key=false:=cT aW (fu _) (by omega);have cQ:∀k,st.has k=true->k≠key:=fun k hk e=>by rw[e,uQ]at hk;cases hk
 have bL:bt st.has ae (ae.set key (.l xs)) ph (ph.vH key sl):=⟨fun k hk=>by simp[az.set,cQ k hk],fun _ _=>rfl,fun k hk=>by simp[Ph.vH,cQ k hk]⟩;have fY:(ph.vH key sl).val key = .slice sl.1 sl.2.1 sl.2.2:=by simp[Ph.val,Ph.vH]
 have xY:(st.bB key 1).has key=true:=ja (fu _) (by omega);refine DC (nr:=⟨key,e,ks,key,true,G⟩) h rfl rS X2 aW eJ hg bj bL rfl xY kM gT ⟨nA,?_⟩ (fun k hk=>?_) ?_ ?_;simp only[if_true,fY,az.set,DV.list];exact bM;simp only[Row.bU,Bool.true_or,if_true,fY]at hk;rcases jc with e|e|e;exact .inl (by rw[<- e,hk]);rw[hk]at e;simp only[ah]at e;exact .inr (by omega);rw[hk]at e;cases e;simp only[aT.all,SV.all,V1.all,ak.all,ao];exact⟨BE.aD (fun k hk=>gI hk) rS,xY⟩;have afT:G.af (ae.set key (.l xs))=true:=by rw[<- BE.ar bL.e rS];exact X2
 simp[aT.af,afT,SV.af,V1.af,ak.af,fY]
theorem KV{w0 w:World}{st:St}{a:Act}{key:Nat}{e:TypeId}{ks:List CK}{xs:List (List Int)}{dst:Option Tmp}{G:BE}
   (h:Sat w0 ae ph st a w) (rS:G.all st.has=true) (hGf:G.af ae=false) (aW:st.free key 1=true) :
   Step w0 ae (ae.set key (.l xs)) ph ph st ({st.bB key 1 with rows:=dr ⟨key,e,ks,key,true,G⟩ st.rows}.put dst ⟨G,.v (.one (.s key))⟩) (a.put dst undef) w w none:=by
 have uQ:st.has key=false:=cT aW (fu _) (by omega);have cQ:∀k,st.has k=true->k≠key:=fun k hk e=>by rw[e,uQ]at hk;cases hk
 have bL:bt st.has ae (ae.set key (.l xs)) ph ph:=⟨fun k hk=>by simp[az.set,cQ k hk],fun _ _=>rfl,fun k hk=>rfl⟩;have ir:=h.congr bL;have bO:∀k,st.has k=true->(st.bB key 1).has k=true:=fun k hk=>gI hk;have Hh:G.af (ae.set key (.l xs))=false:=by rw[<- BE.ar bL.e rS];exact hGf
 have jc:(st.bB key 1).has key=true:=ja (fu _) (by omega);refine⟨⟨?_,?_,h.below,by rw[cH];exact h.defers,?_,?_⟩,bL,cm w,fun k hk=>by rw[cy];exact bO k hk,fun b hb=>.inl ⟨b,by rw[bV]at hb;exact hb,rfl⟩⟩;refine nI (st:={st.bB key 1 with rows:=dr ⟨key,e,ks,key,true,G⟩ st.rows}) ir.tmps ?_;simp only[aT.af,Hh];rfl;rw[bV,df];have hk:=ir.mem;have ho:∀r∈dr ⟨key,e,ks,key,true,G⟩ st.rows,r.g.af (ae.set key (.l xs))=true->r∈st.rows:=fun r hr h1=>by
   rcases dH.1 hr with rfl|hr;rw[Hh]at h1;cases h1;exact hr
 exact⟨hk.ny,hk.bb,fun r hr h1=>hk.row r (ho r hr h1) h1,fun b hb r hr h1=>hk.br b hb r (ho r hr h1) h1,fun r hr r' cO cQ hw h1 h2=>hk.rr r (ho r hr h1) r' (ho r' cO h2) cQ hw h1 h2⟩;refine⟨?_,?_,?_⟩;refine gJ (st:={st.bB key 1 with rows:=dr ⟨key,e,ks,key,true,G⟩ st.rows}) (fun t s ht=>aT.aD bO (h.names.tmps t s ht)) ?_;simp only[aT.all,SV.all,V1.all,ak.all,ao];exact⟨BE.aD bO rS,jc⟩;rw[bV,cy];exact fun b hb=>iA.aD bO (h.names.aX b hb);rw[df,cy];intro r hr;rcases dH.1 hr with rfl|hr;simp only[Row.all,ao];exact⟨jc,jc,BE.aD bO rS⟩;exact Row.aD bO (h.names.rows r hr)
 . refine dq.put (st:={st.bB key 1 with rows:=dr ⟨key,e,ks,key,true,G⟩ st.rows}) (ir.nest.next (cC (p:=st.has)) rfl bO (cm w) (fun k hk=>by cases hk) rfl (fun b hb=>.inl ⟨b,hb,rfl⟩) (fun r hr h1 k hk=>?_));rcases dH.1 hr with rfl|hr;rw[Hh]at h1;cases h1;exact .inl ⟨r,hr,id,h1,hk⟩
end
section
open Go.RowKit
variable {ae:az}{ph:Ph}{P:Program}
def DV.kind:CT->DV->Bool
 |.c (.i _),.i _=>true
 |.c .b,.b _=>true
 |.c .f,.i _=>true
 |.s _ _,.l _=>true
 |.n _ _,.l _=>true
 |_,_=>false
def kinds:List CT->List DV->Bool
 | [],[]=>true
 |c::cs,d::ds=>d.kind c&&kinds cs ds
 |_,_=>false
structure dg where
 sig:bR
 pre:List DV->Prop
 rel:List DV->List DV->Prop
 ne:∀ds,pre ds->∃rs,kinds (bI sig.res) rs=true/\rel ds rs
structure bS where
 get:FuncId->Option dg
 fl:Int->Prop
instance :CoeFun bS (fun _=>FuncId->Option dg):=⟨bS.get⟩
def bS.at(Γ:bS)(fl:Int->Prop):bS:=⟨Γ.get,fl⟩
def defs:List CT->List DV
 | []=>[]
 |.c (.i _)::cs=>.i 0::defs cs
 |.c .b::cs=>.b false::defs cs
 |.c .f::cs=>.i 0::defs cs
 |.s _ _::cs=>.l []::defs cs
 |.n _ _::cs=>.l []::defs cs
theorem iK:∀cs:List CT,kinds cs (defs cs)=true/\(defs cs).length=cs.length:=by
 intro cs;induction cs with
 |nil=>exact⟨rfl,rfl⟩
 | cons c cs ih=>
   cases c with
   |c k=>cases k<;>simp[defs,kinds,DV.kind,ih]
   |s e ks=>simp[defs,kinds,DV.kind,ih]
   |n e aN=>simp[defs,kinds,DV.kind,ih]
def Ev.holds(Γ:bS)(e:Ev)(k:az->Prop)(ae:az):Prop:=
 match e with
 |.aG p=>p.af ae=true/\k ae
 |.call f g args res base=>(g.af ae=true->∃c,Γ f=some c/\c.pre (args.map (DE.af ae))/\
     ∀rs,kinds (bI res) rs=true->c.rel (args.map (DE.af ae)) rs->k (ae.av base rs))/\(g.af ae=false->k (ae.av base (defs (bI res))))
 |.bW id op=>k (ae.set id (.l (op.af ae)))
 |.du p e=>(p.af ae=true->k ae)/\(p.af ae=false->Γ.fl (e.af ae))
theorem Ev.jL{Γ:bS}{e:Ev}{k k':az->Prop}{ae:az}(hk:∀ae,k ae->k' ae)(h:e.holds Γ k ae):e.holds Γ k' ae:=by
 cases e with
 |aG p=>exact⟨h.1,hk _ h.2⟩
 | call f g args res base=>
   refine⟨fun hg=>?_,fun hg=>hk _ (h.2 hg)⟩;obtain⟨c,h1,h2,h3⟩:=h.1 hg;exact⟨c,h1,h2,fun rs a b=>hk _ (h3 rs a b)⟩
 |bW id op=>exact hk _ h
 |du p e=>exact⟨fun hp=>hk _ (h.1 hp),h.2⟩
def aO(Γ:bS):List Ev->(az->Prop)->az->Prop
 | [],k,ae=>k ae
 |e::es,k,ae=>e.holds Γ (aO Γ es k) ae
theorem fG{Γ:bS}{k:az->Prop}:∀ {es Tp:List Ev} {ae:az},aO Γ (es++Tp) k ae=aO Γ es (aO Γ Tp k) ae:=by
 intro es;induction es with
 |nil=>intro Tp ae;rfl
 | cons e es ih=>
   intro Tp ae;have:aO Γ (es++Tp) k=aO Γ es (aO Γ Tp k):=funext fun _=>ih;simp only[qt,aO,this]
def uu(ph:Ph):ak->Option Nat
 |.p id _=>some (ph.r id)
 |.pi id _ _ _ _=>some (ph.r id)
 |.ep row _ _ _=>(ph.val row).ownBlock
 |_=>none
def rM(st:St)(ph:Ph):Op->Option Nat
 |.store _ a _=>(bA st (.c true) a).bind (uu ph)
 | .call {callee:=.builtin .append,args,..}=>match args.toList with
   | x::_=>match bA st (.c true) x with
     |some (.s row)=>(ph.val row).ownBlock
     |_=>none
   | []=>none
 | .call {callee:=.builtin .copy,args,..}=>match args.toList with
   | x::_=>match bA st (.c true) x with
     |some (.s row)=>(ph.val row).ownBlock
     |_=>none
   | []=>none
 | .call {callee:=.builtin .clear,args,..}=>match args.toList with
   | x::_=>match bA st (.c true) x with
     |some (.s row)=>(ph.val row).ownBlock
     |_=>none
   | []=>none
 |_=>none
def pL(o:Oper)(a a':Act):Next->Prop
 |.value v=>a'=a.put o.dst v
 |.skip=>a'=a.put o.dst undef
 |_=>False
def ou(Γ:bS)(P:Program)(w0:World)(ae:az)(ph:Ph)(st bc:St)(o:Oper)(a:Act)(w:World)(k:az->Prop):Prop:=
 ∃nx w' a' aq aJ,(execOp a.eval o).run P w = .ok nx w'/\pL o a a' nx/\Step w0 ae aq ph aJ st bc a' w w' (rM st ph o.op)/\k aq
theorem vI{cells:List ak}{o:Nat}{l m:ak}(hc:cells[o]?=some l)(h:m.af ae ph=l.af ae ph):(cells.set o m).map (ak.af ae ph)=cells.map (ak.af ae ph):=by
 rw[List.map_set,h];apply List.ext_getElem?;intro q;rw[List.getElem?_set];split;rename_i hm;subst hm;obtain⟨zH,pz⟩:=dc.1 hc;simp[zH,pz];rfl
theorem xZ{x:IE}{l:ak}{sz o j n:Nat}{cells r:List ak}(h:qz x l sz cells o j (n+1)=some r):∃c m,cells[o]?=some c/\qz x l sz (cells.set o m) (o+sz) (j+1) n=some r/\
   (x.af ae=(j:Int)->m.af ae ph=l.af ae ph)/\(x.af ae≠(j:Int)->m.af ae ph=c.af ae ph):=by
 simp only[qz]at h;split at h;rename_i k a k' b hc;split at h;rename_i hk;subst hk;exact⟨_,_,hc,h,fun e=>by simp[ak.af,IE.af,e],fun e=>by simp[ak.af,IE.af,e]⟩;cases h;rename_i p q hc;exact⟨_,_,hc,h,fun e=>by simp[ak.af,BE.af,IE.af,e],fun e=>by simp[ak.af,BE.af,IE.af,e]⟩;cases h
theorem Fv{x:IE}{l:ak}{sz:Nat}:∀ {n j:Nat} {cells r:List ak} {o:Nat},qz x l sz cells o j n=some r->x.af ae<(j:Int)->r.length=cells.length/\r.map (ak.af ae ph)=cells.map (ak.af ae ph):=by
 intro n;induction n with
 |zero=>intro j cells r o h _;simp only[qz,ah]at h;subst h;exact⟨rfl,rfl⟩
 | succ n ih=>
   intro j cells r o h cJ;obtain⟨c,m,hc,h',_,h2⟩:=xZ (ae:=ae) (ph:=ph) h;obtain⟨e1,e2⟩:=ih h' (by omega);exact⟨by simpa using e1,by rw[e2,vI hc (h2 (by omega))]⟩
theorem Fw{x:IE}{l:ak}{sz:Nat}:∀ {n j:Nat} {cells r:List ak} {o:Nat},qz x l sz cells o j n=some r->∀i:Nat,x.af ae=((j+i:Nat):Int)->i<n->
   r.length=cells.length/\o+i*sz<cells.length/\r.map (ak.af ae ph)=(cells.map (ak.af ae ph)).set (o+i*sz) (l.af ae ph):=by
 intro n;induction n with
 |zero=>intro j cells r o _ i _ hi;omega
 | succ n ih=>
   intro j cells r o h i hx hi;obtain⟨c,m,hc,h',h1,h2⟩:=xZ (ae:=ae) (ph:=ph) h;have cJ:o<cells.length:=(dc.1 hc).1;cases i with
   | zero=>
     simp only[gP]at hx;obtain⟨e1,e2⟩:=Fv (ae:=ae) (ph:=ph) h' (by omega);refine⟨by simpa using e1,by simpa using cJ,?_⟩;rw[e2,List.map_set,h1 hx];simp
   | succ i=>
     obtain⟨e1,e2,e3⟩:=ih h' i (by rw[hx];congr 1;omega) (by omega);have hs:o+(i+1)*sz=o+sz+i*sz:=by rw[la];omega
     refine⟨by simpa using e1,by simpa[hs]using e2,?_⟩;rw[e3,hs,vI hc (h2 (by omega))]
theorem BD{cells NI:List ak}(h:cells.map (ak.af ae ph)=NI.map (ak.af ae ph))(off:Nat)(ls:List ak):(iJ cells off ls).map (ak.af ae ph)=(iJ NI off ls).map (ak.af ae ph):=by
 rw[mO,mO,h]
theorem DF{x:IE}{sz n:Nat}{i:Nat}(hx:x.af ae=(i:Int))(hi:i<n):∀ {ls cells r:List ak} {off:Nat},vJ x sz n cells off ls=some r->
   r.length=cells.length/\(0<ls.length->off+i*sz+ls.length<=cells.length)/\r.map (ak.af ae ph)=(iJ cells (off+i*sz) ls).map (ak.af ae ph):=by
 intro ls;induction ls with
 |nil=>intro cells r off h;simp only[vJ,ah]at h;subst h;exact⟨rfl,fun h=>by simp at h,rfl⟩
 | cons l ls ih=>
   intro cells r off h;simp only[vJ]at h;split at h;rename_i cs jn;obtain⟨e1,e2,e3⟩:=Fw (ae:=ae) (ph:=ph) jn i (by rw[hx];simp) hi;obtain⟨f1,f2,f3⟩:=ih h;refine⟨by rw[f1,e1],fun _=>?_,?_⟩;rcases Nat.eq_zero_or_pos ls.length with h0|h0;simp only[yN,h0];omega;have:=f2 h0;simp only[yN];omega;rw[f3];simp only[iJ];rw[show off+1+i*sz=off+i*sz+1 by omega];exact BD (by rw[e3,List.map_set]) _ _;cases h
theorem jo{Γ:bS}{p:BE}{es:List Ev}{k:az->Prop}(h:aO Γ (.aG p::es) k ae):p.af ae=true/\aO Γ es k ae:=h
theorem cj:(BE.c true).af ae=true:=rfl
theorem nC{B:Nat}{w0 w:World}{st:St}{a:Act}(hs:Sat w0 ae ph st a w){r:Row}(bn:r∈st.rows)(bM:r.own=true)(lJ:r.g.af ae=true){k:Nat}(hk:(ph.val r.id).ownBlock=some k) :
   (w0.heap.size<=k/\¬ ph.z k/\∀n∈st.a8,n.own=true->(ph.val n.id).ownBlock≠some k)/\(∀b∈st.aX,some k≠some (ph.r b.id))/\∀q∈st.rows,q.id≠r.id->q.g.af ae=true->∀k',q.bU ae ph=some k'->some k≠some k':=by
 have eR:r.bU ae ph=some k:=by simp[Row.bU,bM,hk]
 have bj:=hs.mem.row r bn lJ;have cW:=bj.2;rw[if_pos bM]at cW;refine⟨⟨(cW.lt k hk).1,hs.nest.rz r bn bM lJ k eR,fun n hn ho e=>((hs.nest.oz n hn ho).2 _ e).2.2.1 r bn lJ eR⟩,fun b hb e=>?_,fun q hq cQ KW k' cY e=>?_⟩;simp only[ah]at e;exact hs.mem.br b hb r bn lJ (by rw[eR,e]);simp only[ah]at e;subst e;exact hs.mem.rr r bn q hq (fun e=>cQ e.symm) bM lJ KW k eR cY
theorem sh{w0 w w':World}{st:St}{a:Act}{dst:Option Tmp}{key:Nat}{r:Row}{mD:List (List Int)}{s:aT}{v:Value}(hs:Sat w0 ae ph st a w)(bn:r∈st.rows)(bM:r.own=true)(lJ:r.g.af ae=true)
   (aW:st.free key 1=true) (jc:w'.ownsRow w0.heap.size r.e r.ks.length (ph.val r.id) mD.length (aB r.ks mD)) (il:w.grownBy w' (ph.val r.id).ownBlock)
   (hsa:s.all (st.bB key 1).has=true) (hv:v=s.af (ae.set key (.l mD)) ph) :
   Step w0 ae (ae.set key (.l mD)) ph ph st ({st.bB key 1 with rows:=dr {r with lv:=key} (st.rows.filter fun z=>decide (z.id≠r.id)) }.put dst s) (a.put dst v) w w' (ph.val r.id).ownBlock:=by
 have uQ:st.has key=false:=cT aW (fu _) (by omega);have cQ:∀k,st.has k=true->k≠key:=fun k hk e=>by rw[e,uQ]at hk;cases hk
 have bL:bt st.has ae (ae.set key (.l mD)) ph ph:=⟨fun k hk=>by simp[az.set,cQ k hk],fun _ _=>rfl,fun _ _=>rfl⟩;have hn:=hs.names.rows r bn;simp only[Row.all,ao]at hn;have si:∀q∈st.rows.filter (fun z=>decide (z.id≠r.id)),q∈st.rows/\q.id≠r.id:=fun q hq=>by
   have:=jA.1 hq;exact⟨this.1,by simpa using this.2⟩
 refine DC (nr:={r with lv:=key}) hs rfl hn.2.2 lJ aW (fun q hq=>(si q hq).1) il (fun k hk=>(nC (B:=0) hs bn bM lJ hk).1) bL rfl (gI hn.1)
   (fun b hb e=>(nC (B:=0) hs bn bM lJ e).2.1 b hb rfl) (fun q hq KW k hk e=>(nC (B:=0) hs bn bM lJ e).2.2 q (si q hq).1 (si q hq).2 KW k hk rfl)
   ⟨(hs.mem.row r bn lJ).1,?_⟩ (fun k hk=>.inl ?_) hsa hv
 rw[if_pos bM];simp only[az.set,if_true,DV.list];exact jc;simpa[Row.bU,bM]using hk
theorem sj{Γ:bS}{w0 w w':World}{st:St}{a:Act}{o:Oper}{t:TypeId}{x y:Operand}{v:V1}{key:Nat}{k:az->Prop}{r:Row}{sz j g cap:Nat}{z:IE}{op:cU}{mD:List (List Int)}(hs:Sat w0 ae ph st a w)(ho:o.op = .store t x y)
   (hl:bA st (.c true) x=some (.ep r.id sz z j)) (bn:r∈st.rows) (bM:r.own=true) (lJ:r.g.af ae=true)
   (aW:st.free key 1=true) (bj:gA w0.heap.size ae ph r w) (fY:ph.val r.id = .slice (some ⟨g,0,none⟩) (ae r.lv).list.length cap) (hBg:w0.heap.size<=g) (DG:op.af ae=mD) (pC:mD.length=(ae r.lv).list.length)
   (dV:(Instr.storeAt t ((ak.ep r.id sz z j).af ae ph) (v.af ae ph)).run P w = .ok () w') (jc:w'.ownsRow w0.heap.size r.e r.ks.length (.slice (some ⟨g,0,none⟩) (ae r.lv).list.length cap) (ae r.lv).list.length (aB r.ks mD)) (il:w.grownBy w' (some g))
   (cF:∀w',(Instr.storeAt t ((ak.ep r.id sz z j).af ae ph) (v.af ae ph)).run P w = .ok () w'->(execOp a.eval o).run P w = .ok .skip w') (hk:aO Γ [.bW key op] k ae) :
   ou Γ P w0 ae ph st ({st.bB key 1 with rows:=dr {r with lv:=key} (st.rows.filter fun z=>decide (z.id≠r.id)) }.put o.dst kf) o a w k:=by
 have cY:k (ae.set key (.l mD)):=by rw[<- DG];exact hk
 have NJ:(ph.val r.id).ownBlock=some g:=by rw[fY];rfl
 have hW:rM st ph o.op=(ph.val r.id).ownBlock:=by simp[ho,rM,hl,uu]
 refine⟨.skip,_,_,ae.set key (.l mD),ph,cF _ dV,rfl,?_,cY⟩;rw[hW];exact sh hs bn bM lJ aW (by rw[fY,pC];exact jc) (by rw[NJ];exact il) nK nJ.symm
theorem Cs(x:Bool):Value.bool x=CK.b.val (if x=true then 1 else 0):=by cases x<;>rfl
theorem sk:∀ {ks:List CK} {ls:List ak} {xs:List (Sum IE BE)},eL ks ls=some xs->∀(pre:List Int) (j:Nat),pre.length=j->ls.map (ak.af ae ph)=bP ks j (pre++xs.map (b9 ae)):=by
 intro ks;induction ks with
 | nil=>intro ls xs h pre j hj;cases ls with
   |nil=>rfl
   |cons l ls=>simp[eL]at h
 | cons k ks ih=>intro ls xs h pre j hj;cases ls with
   |nil=>simp[eL]at h
   | cons l ls=>
     simp only[eL]at h;split at h;rename_i x mD hx pH;simp only[ah]at h;subst h;have h1:=ih pH (pre++[b9 ae x]) (j+1) (by simp[hj]);simp only[jK,bP];have e1:pre++b9 ae x::mD.map (b9 ae)=(pre++[b9 ae x])++mD.map (b9 ae):=by simp
     rw[e1,<- h1];congr 1;have e2:((pre++[b9 ae x])++mD.map (b9 ae)).getD j 0=b9 ae x:=by
       subst hj;simp[cq]
     rw[e2];unfold nM at hx;split at hx;split at hx;rename_i hk;subst hk;simp only[ah]at hx;subst hx;rfl;cases hx;simp only[ah]at hx;subst hx;rename_i b;exact Cs _;cases hx;cases h
theorem oC:∀ {ks:List CK} {ls:List ak} {xs:List (Sum IE BE)},eL ks ls=some xs->ls.length=ks.length/\xs.length=ks.length:=by
 intro ks;induction ks with
 | nil=>intro ls xs h;cases ls with
   |nil=>simp only[eL,ah]at h;subst h;exact⟨rfl,rfl⟩
   |cons l ls=>simp[eL]at h
 | cons k ks ih=>intro ls xs h;cases ls with
   |nil=>simp[eL]at h
   | cons l ls=>
     simp only[eL]at h;split at h;rename_i x mD hx pH;simp only[ah]at h;subst h;obtain⟨h1,h2⟩:=ih pH;exact⟨by simp[h1],by simp[h2]⟩;cases h
theorem qA{kd:CK}{l:ak}{x:Sum IE BE}(h:nM kd l=some x):l.af ae ph=kd.val (b9 ae x):=by
 unfold nM at h;split at h;split at h;rename_i hk;subst hk;simp only[ah]at h;subst h;rfl;cases h;simp only[ah]at h;subst h;exact Cs _;cases h
theorem Fx{Γ:bS}{w0 w:World}{st:St}{a:Act}{o:Oper}{t:TypeId}{x y:Operand}{v:V1}{key:Nat}{k:az->Prop}{r:Row}{sz j:Nat}{z:IE}{e:Sum IE BE}{kd:CK}{lf:ak}(hs:Sat w0 ae ph st a w)(ho:o.op = .store t x y)
   (hl:bA st (.c true) x=some (.ep r.id sz z j)) (hv:kS st (.c true) y=some v) (Ct:v.leaves=[lf]) (hlc:nM kd lf=some e) (hlen:v.leaves.length=P.cellsOf t) (bn:r∈st.rows) (bM:r.own=true) (lJ:r.g.af ae=true)
   (uR:r.ks.length=sz) (X3:r.ks[j]?=some kd) (aW:st.free key 1=true) (h0:0<=z.af ae) (h1:z.af ae<((ae r.lv).list.length:Int))
   (cF:∀w',(Instr.storeAt t ((ak.ep r.id sz z j).af ae ph) (v.af ae ph)).run P w = .ok () w'->(execOp a.eval o).run P w = .ok .skip w') (hk:aO Γ [.bW key (.set r.lv z j e)] k ae) :
   ou Γ P w0 ae ph st ({st.bB key 1 with rows:=dr {r with lv:=key} (st.rows.filter fun z=>decide (z.id≠r.id)) }.put o.dst kf) o a w k:=by
 subst uR;have bj:=hs.mem.row r bn lJ;have cW:=bj.2;rw[if_pos bM]at cW;obtain⟨ad,cap,jz,_⟩:=ju bj h0 h1;have fY:ph.val r.id = .slice (some ad) (ae r.lv).list.length cap:=by simp[Ph.val,jz]
 rw[fY]at cW;have had:∃g,ad=⟨g,0,none⟩/\w0.heap.size<=g:=by
   rcases cW.2 with⟨e1,_⟩|⟨g,pF,cur,e1,hg,_⟩;simp at e1;simp only[Value.slice.injEq,ah]at e1;exact⟨g,e1.1,hg⟩
 obtain⟨g,rfl,hBg⟩:=had;have hj:j<r.ks.length:=(dc.1 X3).1;obtain⟨i,hi⟩:∃i:Nat,z.af ae=(i:Int):=⟨(z.af ae).toNat,by omega⟩;have NL:i<(ae r.lv).list.length:=by omega
 have Hl:i*r.ks.length+j<(ae r.lv).list.length*r.ks.length:=by
   have:(i+1)*r.ks.length<=(ae r.lv).list.length*r.ks.length:=xf _ (by omega);rw[la]at this;omega
 have mE:=cW.cellAt (i*r.ks.length+j) Hl;have hfz:=cW.frozenAt (i*r.ks.length+j);obtain⟨jc,il⟩:=cW.stored (i*r.ks.length+j) (kd.val (b9 ae e));have jn:∃u,w.cell? ⟨g,i*r.ks.length+j,none⟩=some u:=by
   rw[mE];have:i*r.ks.length+j<(aB r.ks (ae r.lv).list).length:=by rw[bQ];exact Hl
   exact⟨_,dG this⟩
 obtain⟨u,hu⟩:=jn;have dV:(Instr.storeAt t ((ak.ep r.id r.ks.length z j).af ae ph) (v.af ae ph)).run P w = .ok () (w.setCell ⟨g,i*r.ks.length+j,none⟩ (kd.val (b9 ae e))):=by
   have tC:0<P.cellsOf t:=by rw[<- hlen,Ct];simp
   have kN:P.cellsOf t=1:=by rw[<- hlen,Ct];rfl
   simp only[Instr.storeAt,ak.af,jz,Instr.sureAddr,eI,fK,eH,storeVar,cg tC,V1.fE,Ct];rw[if_neg (by simp[kN])];simp only[jK,nN,qA (ae:=ae) (ph:=ph) hlc,storeCells,eI,hi,qm,hO,gP,jr,fC];rw[run_store P w _ _ _ (CK.ox _ _)];simp[stored,hu,hfz]
 refine sj hs ho hl bn bM lJ aW bj fY hBg (mD:=setAt (ae r.lv).list (z.af ae) j (b9 ae e)) rfl (vG ..) dV ?_ il cF hk;rw[hi,sf r.ks _ i j _ _ NL X3];exact jc
theorem zL{ks:List CK}{ls:List ak}{r:List (Sum IE BE)}(h:eL ks ls=some r):bP ks 0 (r.map (b9 ae))=ls.map (ak.af ae ph):=by
 have:=sk (ae:=ae) (ph:=ph) h [] 0 rfl;simpa using this.symm
theorem tD:∀(vs cells:List Value) (off k:Nat),off+k+vs.length<=cells.length->
   (vs.zipIdx k).foldl (fun cs (x:Value×Nat)=>cs.set (off+x.2) x.1) cells=cells.take (off+k)++vs++cells.drop (off+k+vs.length):=by
 intro vs;induction vs with
 |nil=>intro cells off k h;simp
 | cons v vs ih=>
   intro cells off k h;simp only[yN]at h;simp only[List.zipIdx_cons,wY];rw[ih _ off (k+1) (by simp;omega)];have e1:(cells.set (off+k) v).take (off+(k+1))=cells.take (off+k)++[v]:=by
     rw[show off+(k+1)=(off+k)+1 by omega,List.take_succ_eq_append_getElem (by simp;omega)];simp[List.take_set_of_le]
   have e2:(cells.set (off+k) v).drop (off+(k+1)+vs.length)=cells.drop (off+k+(vs.length+1)):=by
     rw[List.drop_set_of_lt (by omega)];congr 1;omega
   rw[e1,e2];simp
theorem yQ(ks:List CK)(row:List Int):∀(xs:List (List Int)) (i:Nat),i<xs.length->aB ks (xs.modify i (fun _=>row))=(aB ks xs).take (i*ks.length)++(bP ks 0 row++(aB ks xs).drop (i*ks.length+ks.length)):=by
 intro xs;induction xs with
 |nil=>intro i hi;simp at hi
 | cons r rs ih=>
   intro i hi;have hl:=cx ks 0 r;cases i with
   | zero=>
     simp only[List.modify_zero_cons,aB,Nat.zero_mul,List.take_zero,mP,fC];rw[Ht (by omega),vK (by omega),mP]
   | succ i=>
     simp only[List.modify_succ_cons,aB];rw[ih i (by simpa using hi)];have e:(i+1)*ks.length=ks.length+i*ks.length:=by rw[la];omega
     rw[e,List.take_append,List.drop_append,hl,show ks.length+i*ks.length-ks.length=i*ks.length by omega,show ks.length+i*ks.length+ks.length-ks.length=i*ks.length+ks.length by omega];rw[pI (l:=bP ks 0 r) (by omega),vK (l:=bP ks 0 r) (by omega)];simp
theorem xg(ks:List CK):∀(j:Nat) (r:List Int),∀u∈bP ks j r,u.oneCell'=true:=by
 induction ks with
 |nil=>intro j r u hu;simp[bP]at hu
 | cons k ks ih=>
   intro j r u hu;simp only[bP,bD]at hu;rcases hu with rfl|hu;exact CK.ox _ _;exact ih _ _ u hu
theorem DH{Γ:bS}{w0 w:World}{st:St}{a:Act}{o:Oper}{t:TypeId}{x y:Operand}{v:V1}{key:Nat}{k:az->Prop}{r:Row}{z:IE}{es:List (Sum IE BE)}(hs:Sat w0 ae ph st a w)(ho:o.op = .store t x y)
   (hl:bA st (.c true) x=some (.ep r.id r.ks.length z 0)) (hv:kS st (.c true) y=some v) (Fb:v.leaves.map (ak.af ae ph)=bP r.ks 0 (es.map (b9 ae))) (hlen:v.leaves.length=P.cellsOf t) (bn:r∈st.rows) (bM:r.own=true) (lJ:r.g.af ae=true)
   (aW:st.free key 1=true) (h0:0<=z.af ae) (h1:z.af ae<((ae r.lv).list.length:Int))
   (cF:∀w',(Instr.storeAt t ((ak.ep r.id r.ks.length z 0).af ae ph) (v.af ae ph)).run P w = .ok () w'->(execOp a.eval o).run P w = .ok .skip w') (hk:aO Γ [.bW key (.zM r.lv z es)] k ae) :
   ou Γ P w0 ae ph st ({st.bB key 1 with rows:=dr {r with lv:=key} (st.rows.filter fun z=>decide (z.id≠r.id)) }.put o.dst kf) o a w k:=by
 have bj:=hs.mem.row r bn lJ;have cW:=bj.2;rw[if_pos bM]at cW;obtain⟨ad,cap,jz,_⟩:=ju bj h0 h1;have fY:ph.val r.id = .slice (some ad) (ae r.lv).list.length cap:=by simp[Ph.val,jz]
 rw[fY]at cW;obtain⟨pC,⟨e1,_⟩|⟨g,pF,cur,e1,hg,hh,uI,KX,jn,sm⟩⟩:=cW;simp at e1;simp only[Value.slice.injEq,ah,true_and]at e1;obtain⟨rfl,rfl⟩:=e1;obtain⟨i,hi⟩:∃i:Nat,z.af ae=(i:Int):=⟨(z.af ae).toNat,by omega⟩;have NL:i<(ae r.lv).list.length:=by omega
 have sn:(bP r.ks 0 (es.map (b9 ae))).length=r.ks.length:=cx _ _ _;have xh:i*r.ks.length+r.ks.length<=(ae r.lv).list.length*r.ks.length:=by
   have:(i+1)*r.ks.length<=(ae r.lv).list.length*r.ks.length:=xf _ (by omega);rw[la]at this;omega
 have uS:(ae r.lv).list.length*r.ks.length<=cap*r.ks.length:=xf _ uI;have oq:cur.toList.length=cap*r.ks.length:=by simpa using jn
 obtain⟨w',hr,il,M8⟩:=kg (P:=P) g r.e (i*r.ks.length) (bP r.ks 0 (es.map (b9 ae))) 0 cur.toList w (by simpa using hh) (by rw[sn,oq];omega) (xg _ _ _);have qB:=tD (bP r.ks 0 (es.map (b9 ae))) cur.toList (i*r.ks.length) 0 (by rw[sn,oq];omega);simp only[gP]at qB;rw[qB]at M8;have dV:(Instr.storeAt t ((ak.ep r.id r.ks.length z 0).af ae ph) (v.af ae ph)).run P w = .ok () w':=by
   have hlk:P.cellsOf t=r.ks.length:=by
     have:=congrArg List.length Fb;rw[ot,sn]at this;omega
   have tC:0<P.cellsOf t:=by rw[hlk];exact bj.1
   simp only[Instr.storeAt,ak.af,jz,Instr.sureAddr,eI,fK,eH,storeVar,cg tC,V1.fE];rw[if_neg (by simp[hlen]),Fb];simp only[hi,qm,gP,jr,fC];exact hr
 refine sj hs ho hl bn bM lJ aW bj fY hg (mD:=(ae r.lv).list.modify i (fun _=>es.map (b9 ae))) (by simp only[cU.af,hi,qm]) (by simp) dV ?_ il cF hk;refine⟨by rw[bQ];simp,.inr ⟨g,cap,_,rfl,hg,M8,uI,KX,?_,?_⟩⟩;simp only[List.size_toArray,eY,ua,List.length_drop,sn,oq];omega;rw[yQ r.ks _ _ i NL,<- sm];apply List.ext_getElem?;intro m;simp only[zI,List.getElem?_append,ua,eY,sn,oq,List.getElem?_drop];grind
theorem xj(ks:List CK)(i:Nat):∀(cs:List (Sum IE BE)) (ls:List ak) (xs:List (List Int)) (j:Nat),i<xs.length->j+ls.length<=ks.length->eL ((ks.drop j).take ls.length) ls=some cs->
   aB ks (xs.modify i (fun r=>jG r j (cs.map (b9 ae))))=((ls.map (ak.af ae ph)).zipIdx 0).foldl (fun cur (x:Value×Nat)=>cur.set (i*ks.length+j+x.2) x.1) (aB ks xs):=by
 have gen:∀(cs:List (Sum IE BE)) (ls:List ak) (xs:List (List Int)) (j m:Nat),i<xs.length->j+m+ls.length<=ks.length->eL ((ks.drop (j+m)).take ls.length) ls=some cs->
     aB ks (xs.modify i (fun r=>jG r (j+m) (cs.map (b9 ae))))=((ls.map (ak.af ae ph)).zipIdx m).foldl (fun cur (x:Value×Nat)=>cur.set (i*ks.length+j+x.2) x.1) (aB ks xs):=by
   intro cs;induction cs with
   | nil=>
     intro ls xs j m hi hl h;have:=(oC h).2;have hll:=(oC h).1;have:ls=[]:=Dp (by simp at this;omega);subst this;simp only[nN,jG,List.zipIdx_nil,List.foldl_nil];congr 1;exact List.modify_id ..
   | cons c cs ih=>
     intro ls xs j m hi hl h;cases ls with
     |nil=>simp[eL]at h
     | cons l ls=>
       simp only[yN]at hl h;have hjm:j+m<ks.length:=by omega
       rw[List.drop_eq_getElem_cons hjm,List.take_succ_cons]at h;simp only[eL]at h;split at h;rename_i y ys hy hys;simp only[ah,List.cons.injEq]at h;obtain⟨rfl,rfl⟩:=h;simp only[jK,jG,List.zipIdx_cons,wY];have e:xs.modify i (fun r=>jG (nL r (j+m) (b9 ae y)) (j+m+1) (ys.map (b9 ae)))=(setAt xs (i:Int) (j+m) (b9 ae y)).modify i (fun r=>jG r (j+(m+1)) (ys.map (b9 ae))):=by
         simp only[setAt,qm,List.modify_modify_eq];rfl
       rw[e,ih ls _ j (m+1) (by rw[vG];exact hi) (by omega) hys,sf ks xs i (j+m) _ _ hi (dG hjm),qA (ae:=ae) (ph:=ph) hy,Nat.add_assoc];cases h
 intro cs ls xs j hi hl h;exact gen cs ls xs j 0 hi (by simpa using hl) (by simpa using h)
theorem zN(f:Nat->Nat)(n:Nat):∀(vs:List (Value×Nat)) (cur:List Value),(vs.foldl (fun cur x=>cur.set (f x.2) x.1) cur).take n=vs.foldl (fun cur x=>cur.set (f x.2) x.1) (cur.take n):=by
 intro vs;induction vs with
 |nil=>intro cur;rfl
 |cons v vs ih=>intro cur;simp only[wY];rw[ih,List.take_set]
theorem BF(f:Nat->Nat):∀(vs:List (Value×Nat)) (cur:List Value),(vs.foldl (fun cur x=>cur.set (f x.2) x.1) cur).length=cur.length:=by
 intro vs;induction vs with
 |nil=>intro cur;rfl
 |cons v vs ih=>intro cur;simp only[wY];rw[ih,List.length_set]
theorem DJ{Γ:bS}{w0 w:World}{st:St}{a:Act}{o:Oper}{t:TypeId}{x y:Operand}{v:V1}{key:Nat}{k:az->Prop}{r:Row}{j:Nat}{z:IE}{es:List (Sum IE BE)}(hs:Sat w0 ae ph st a w)(ho:o.op = .store t x y)
   (hl:bA st (.c true) x=some (.ep r.id r.ks.length z j)) (hv:kS st (.c true) y=some v) (Fb:eL ((r.ks.drop j).take v.leaves.length) v.leaves=some es) (hlen:v.leaves.length=P.cellsOf t) (mK:0<v.leaves.length) (He:j+v.leaves.length<=r.ks.length) (bn:r∈st.rows) (bM:r.own=true) (lJ:r.g.af ae=true)
   (aW:st.free key 1=true) (h0:0<=z.af ae) (h1:z.af ae<((ae r.lv).list.length:Int))
   (cF:∀w',(Instr.storeAt t ((ak.ep r.id r.ks.length z j).af ae ph) (v.af ae ph)).run P w = .ok () w'->(execOp a.eval o).run P w = .ok .skip w') (hk:aO Γ [.bW key (.BG r.lv z j es)] k ae) :
   ou Γ P w0 ae ph st ({st.bB key 1 with rows:=dr {r with lv:=key} (st.rows.filter fun z=>decide (z.id≠r.id)) }.put o.dst kf) o a w k:=by
 have bj:=hs.mem.row r bn lJ;have cW:=bj.2;rw[if_pos bM]at cW;obtain⟨ad,cap,jz,_⟩:=ju bj h0 h1;have fY:ph.val r.id = .slice (some ad) (ae r.lv).list.length cap:=by simp[Ph.val,jz]
 rw[fY]at cW;obtain⟨pC,⟨e1,_⟩|⟨g,pF,cur,e1,hg,hh,uI,KX,jn,sm⟩⟩:=cW;simp at e1;simp only[Value.slice.injEq,ah,true_and]at e1;obtain⟨rfl,rfl⟩:=e1;obtain⟨i,hi⟩:∃i:Nat,z.af ae=(i:Int):=⟨(z.af ae).toNat,by omega⟩;have NL:i<(ae r.lv).list.length:=by omega
 have xh:i*r.ks.length+r.ks.length<=(ae r.lv).list.length*r.ks.length:=by
   have:(i+1)*r.ks.length<=(ae r.lv).list.length*r.ks.length:=xf _ (by omega);rw[la]at this;omega
 have uS:(ae r.lv).list.length*r.ks.length<=cap*r.ks.length:=xf _ uI;have oq:cur.toList.length=cap*r.ks.length:=by simpa using jn
 obtain⟨w',hr,il,M8⟩:=kg (P:=P) g r.e (i*r.ks.length+j) (v.leaves.map (ak.af ae ph)) 0 cur.toList w (by simpa using hh) (by rw[ot,oq];omega) (fun u hu=>by
   obtain⟨l,_,rfl⟩:=jb.1 hu;exact ak.xU l)
 have dV:(Instr.storeAt t ((ak.ep r.id r.ks.length z j).af ae ph) (v.af ae ph)).run P w = .ok () w':=by
   have tC:0<P.cellsOf t:=by omega
   simp only[Instr.storeAt,ak.af,jz,Instr.sureAddr,eI,fK,eH,storeVar,cg tC,V1.fE];rw[if_neg (by simp[hlen])];simp only[hi,qm,jr,fC];exact hr
 refine sj hs ho hl bn bM lJ aW bj fY hg (mD:=(ae r.lv).list.modify i (fun r=>jG r j (es.map (b9 ae)))) (by simp only[cU.af,hi,qm]) (by simp) dV ?_ il cF hk;refine⟨by rw[bQ];simp,.inr ⟨g,cap,_,rfl,hg,M8,uI,KX,?_,?_⟩⟩;simp only[List.size_toArray];rw[BF (fun q=>i*r.ks.length+j+q),oq];rw[xj (ae:=ae) (ph:=ph) r.ks i es v.leaves _ j NL He Fb,<- sm];simp only[Ds];exact zN (fun q=>i*r.ks.length+j+q) _ _ _
theorem Hu{Γ:bS}{w0 w:World}{st bc:St}{a:Act}{o:Oper}{t:TypeId}{x y:Operand}{l:ak}{v:V1}{key:Nat}{dm:List Ev}{k:az->Prop}(hs:Sat w0 ae ph st a w)(ho:o.op = .store t x y)
   (hl:bA st (.c true) x=some l) (hv:kS st (.c true) y=some v) (hlen:v.leaves.length=P.cellsOf t) (mK:0<P.cellsOf t) (h:sq st l v.leaves key o.dst=some (dm,bc)) (hk:aO Γ dm k ae) :
   ou Γ P w0 ae ph st bc o a w k:=by
 have ex:=aA hl cj hs.tmps;have ey:=cG hv cj hs.tmps;have cF:∀w',(Instr.storeAt t (l.af ae ph) (v.af ae ph)).run P w = .ok () w'->(execOp a.eval o).run P w = .ok .skip w':=fun w' hr=>by
   simp only[execOp,ho,ex,ey,eI,hr,eH,fK]
 have hW:rM st ph o.op=uu ph l:=by simp[ho,rM,hl]
 unfold sq at h;split at h;rename_i id off;split at h;rename_i b hb;obtain⟨bn,rfl⟩:=eA hb;split at h;rename_i Hl;obtain⟨w',hr,hg,hh⟩:=xW (P:=P) (ae:=ae) (ph:=ph) (t:=t) (off:=off) hlen mK (hs.mem.ny b bn).2 Hl;obtain⟨rfl,eN⟩:=vF hs h bn hg hh;exact⟨.skip,w',_,ae,ph,cF w' hr,rfl,by rw[hW];exact eN,hk⟩;cases h;cases h;rename_i id off sz n z;split at h;rename_i b hb;obtain⟨bn,rfl⟩:=eA hb;split at h;rename_i cs jn;split at h;rename_i hn;split at h;rename_i yR KY qB;simp only[ah,ay]at h;obtain⟨rfl,rfl⟩:=h;obtain⟨h0,hk⟩:=jo hk;obtain⟨h1,hk⟩:=jo hk;have h0:=bY h0;have h1:=fi h1;simp only[IE.af]at h0 h1;obtain⟨e1,e2,e3⟩:=DF (ae:=ae) (ph:=ph) (x:=z) (i:=(z.af ae).toNat) (by omega) (by omega) jn;have X4:=(hs.mem.ny b bn).2;obtain⟨w',hr,hg,hh⟩:=xW (P:=P) (ae:=ae) (ph:=ph) (t:=t) (off:=off+(z.af ae).toNat*sz) hlen mK X4 (e2 hn.2.2);have M8:w'.heap[ph.r b.id]?=some (.cells (cs.map (ak.af ae ph)).toArray b.ty (0,0)):=by
   rw[hh,e3]
 obtain⟨rfl,eN⟩:=vF hs qB bn hg M8;exact⟨.skip,w',_,ae,ph,cF w' hr,rfl,by rw[hW];exact eN,hk⟩;cases h;cases h;cases h;cases h;rename_i row sz z j;split at h;rename_i r lf hr Ct;obtain⟨bn,rfl⟩:=aY hr;split at h;rename_i kj X3;split at h;rename_i y' hlc;split at h;rename_i hc;simp only[ao,aC]at hc;obtain⟨⟨⟨bM,ov⟩,uR⟩,aW⟩:=hc;simp only[ah,ay]at h;obtain⟨rfl,rfl⟩:=h;obtain⟨h0,hk⟩:=jo hk;obtain⟨h1,hk⟩:=jo hk;have h0:=bY h0;have h1:=fi h1;simp only[IE.af]at h0 h1;have lJ:r.g.af ae=true:=by rw[ov];rfl
 exact Fx hs ho hl hv Ct hlc hlen bn bM lJ uR X3 aW h0 h1 cF hk;cases h;cases h;cases h;rename_i ls r hr cQ;split at h;rename_i es Fb;obtain⟨bn,rfl⟩:=aY hr;split at h;rename_i hc;simp only[ao,aC]at hc;obtain⟨⟨⟨⟨⟨bM,ov⟩,uR⟩,hj0⟩,_⟩,aW⟩:=hc;subst hj0 uR;simp only[ah,ay]at h;obtain⟨rfl,rfl⟩:=h;obtain⟨h0,hk⟩:=jo hk;obtain⟨h1,hk⟩:=jo hk;have h0:=bY h0;have h1:=fi h1;simp only[IE.af]at h0 h1;have lJ:r.g.af ae=true:=by rw[ov];rfl
 have afU:=zL (ae:=ae) (ph:=ph) Fb;exact DH hs ho hl hv (by rw[<- afU]) hlen bn bM lJ aW h0 h1 cF hk;cases h;split at h;rename_i es Fb;obtain⟨bn,rfl⟩:=aY hr;split at h;rename_i hc;simp only[ao,aC]at hc;obtain⟨⟨⟨⟨⟨bM,ov⟩,uR⟩,He⟩,abL⟩,aW⟩:=hc;subst uR;simp only[ah,ay]at h;obtain⟨rfl,rfl⟩:=h;obtain⟨h0,hk⟩:=jo hk;obtain⟨h1,hk⟩:=jo hk;have h0:=bY h0;have h1:=fi h1;simp only[IE.af]at h0 h1;have lJ:r.g.af ae=true:=by rw[ov];rfl
 exact DJ hs ho hl hv Fb hlen abL He bn bM lJ aW h0 h1 cF hk;cases h;cases h;cases h;cases h
theorem KZ(ks:List CK):∀(n i:Nat) (ps:List (Nat×V1)) (rows:List (List (Sum IE BE))) (cells:List Value),oD ks n i ps=some rows->cells.length=(i+n)*ks.length->
   Instr.fill (fun i=>some (i*ks.length,ks.length)) cells.toArray (ps.map fun p=>(p.1,p.2.af ae ph))=some (cells.take (i*ks.length)++aB ks (rows.map fun r=>r.map (b9 ae))).toArray/\rows.length=n:=by
 intro n;induction n with
 | zero=>
   intro i ps rows cells h hl;cases ps with
   | nil=>
     simp only[oD,ah]at h;subst h;refine⟨?_,rfl⟩;simp only[nN,Instr.fill,aB,yS];rw[pI (by rw[hl,gP];exact fu _)]
   |cons p ps=>simp[oD]at h
 | succ n ih=>
   intro i ps rows cells h hl;cases ps with
   |nil=>simp[oD]at h
   | cons p ps=>
     obtain⟨j,v⟩:=p;simp only[oD]at h;split at h;rename_i DK;subst DK;split at h;rename_i r rs hr vz;simp only[ah]at h;subst h;have hlen:=(oC hr).1;have yP:(v.leaves.map (ak.af ae ph)).length=ks.length:=by rw[ot,hlen]
     have xl:(i+(n+1))*ks.length=i*ks.length+ks.length+n*ks.length:=by rw[la,la,Nat.one_mul];omega
     simp only[jK,Instr.fill,V1.fE];rw[if_neg (by simp[hlen,hl,xl]<;>omega)];have qB:=tD (v.leaves.map (ak.af ae ph)) cells (i*ks.length) 0 (by rw[yP,hl,xl];omega);have K2:((v.leaves.map (ak.af ae ph)).toArray.zipIdx.foldl (fun cs (x:Value×Nat)=>cs.setIfInBounds (i*ks.length+x.2) x.1) cells.toArray)=(cells.take (i*ks.length)++v.leaves.map (ak.af ae ph)++cells.drop (i*ks.length+ks.length)).toArray:=by
       apply ke;rw[wZ];simp only[Ds];rw[qB,yP,gP]
     obtain⟨e1,e2⟩:=ih (i+1) ps rs (cells.take (i*ks.length)++v.leaves.map (ak.af ae ph)++cells.drop (i*ks.length+ks.length)) vz (by
       simp only[eY,ua,List.length_drop,yP,hl,xl];rw[show i+1+n=i+(n+1)by omega,xl];omega)
     refine⟨?_,by simp[e2]⟩;refine(congrArg (fun c=>Instr.fill (fun i=>some (i*ks.length,ks.length)) c (ps.map fun p=>(p.1,p.2.af ae ph))) K2).trans ?_;rw[e1];have bj:=zL (ae:=ae) (ph:=ph) hr;simp only[aB,bj];congr 2;rw[show(i+1)*ks.length=i*ks.length+ks.length by rw[la,Nat.one_mul]];rw[DL (by simp only[eY,ua,yP,hl,xl];omega),pI (by simp only[eY,ua,yP,hl,xl];omega)];simp;cases h;cases h
theorem yT{Γ:bS}{w0 w:World}{st bc:St}{a:Act}{o:Oper}{t:TypeId}{n:Nat}{parts:Array (Nat×Operand)}{e:TypeId}{ps:List (Nat×V1)}{ks:List CK}{rows:List (List (Sum IE BE))}{key:Nat}{dm:List Ev}{k:az->Prop}{G:BE}
   (hs:Sat w0 ae ph st a w) (ho:o.op = .buildSlice t n parts) (hu:P.underlying t=some (.slice e)) (hG:G.af ae=true) (Fa:im st G parts.toList=some ps) (nA:0<ks.length) (hz:((P.info? e).bind (·.zero)).isSome=true)
   (kU:n*ks.length<=16777216) (hc:P.cellsOf e=ks.length) (gT:oD ks n 0 ps=some rows) (h:newRow st G key e ks [] (.lit rows) st.rows o.dst=some (dm,bc)) (hk:aO Γ dm k ae) :
   ou Γ P w0 ae ph st bc o a w k:=by
 have zO:=oY (a:=a) hG hs.tmps Fa;obtain⟨i,hi,z,M9⟩:∃i,P.info? e=some i/\∃z,i.zero=some z:=by
   cases hi:P.info? e with
   |none=>simp[hi]at hz
   |some i=>simp[hi]at hz;exact⟨i,rfl,zF.1 hz⟩
 have hzr:(zeroValue e).run P w = .ok z w:=by simp[zeroValue,typeInfo,hi,M9]
 obtain⟨z0,Na⟩:∃z0:Array Value,z0.size=(0+n)*ks.length/\(Instr.buildSlice t n (parts.map fun(i,x)=>(i,a.eval x))).run P w =
     (match Instr.fill (fun i=>some (i*ks.length,ks.length)) z0 (ps.map fun p=>(p.1,p.2.af ae ph))with
      |some cells=>.ok (.slice (some ⟨w.heap.size,0,none⟩) n n) (w.alloc (.cells cells e))
      |none=>.halt (.stuck "buildSlice: a part of the wrong size") w):=by
   by_cases hn:n*ks.length=0;refine⟨Array.map (fun x=>(#[]:Array Value)[x%(#[]:Array Value).size]!) (Array.range (n*ks.length)),by simp,?_⟩;simp only[Instr.buildSlice,eI,run_underlying hu,eH,cg (P:=P) (w:=w) (t:=e) (by omega),hc];rw[if_neg (by omega),if_pos hn];simp only[eI,fK,eH,Array.toList_map,zO];generalize Array.map _ (Array.range (n*ks.length))=zz;cases Instr.fill (fun i=>some (i*ks.length,ks.length)) zz (ps.map fun p=>(p.1,p.2.af ae ph))with
   |none=>rfl
   |some cells=>rfl
   refine⟨(Array.range (n*ks.length)).map (z.cells[· % z.cells.size]!),by simp,?_⟩;simp only[Instr.buildSlice,eI,run_underlying hu,eH,cg (P:=P) (w:=w) (t:=e) (by omega),hc];rw[if_neg (by omega),if_neg hn];simp only[eI,hzr,fK,eH,Array.toList_map,zO];generalize Array.map _ (Array.range (n*ks.length))=zz;cases Instr.fill (fun i=>some (i*ks.length,ks.length)) zz (ps.map fun p=>(p.1,p.2.af ae ph))with
   |none=>rfl
   |some cells=>rfl
 obtain⟨X5,cF⟩:=Na;obtain⟨hf,hrl⟩:=KZ (ae:=ae) (ph:=ph) ks n 0 ps rows z0.toList gT (by simpa using X5);simp only[Nat.zero_mul,List.take_zero,mP,Array.toArray_toList]at hf;rw[hf]at cF;obtain⟨xs,pH⟩:∃xs,xs=rows.map fun r=>r.map (b9 ae):=⟨_,rfl⟩;rw[<- pH]at cF;have pC:xs.length=n:=by rw[pH,ot,hrl]
 unfold newRow at h;split at h;rename_i aW;simp only[ao]at aW;obtain⟨aW,rS⟩:=aW;simp only[ah,ay]at h;obtain⟨rfl,rfl⟩:=h;have cY:k (ae.set key (.l xs)):=by rw[pH];exact hk
 have hB:w0.heap.size<=w.heap.size:=hs.below.size;have Wx:=bQ ks xs;have iq:n<=maxLen:=by
   have:n<=n*ks.length:=Nat.le_mul_of_pos_right n nA;unfold maxLen;omega
 have bM:(w.alloc (.cells (aB ks xs).toArray e)).ownsRow w0.heap.size e ks.length (.slice (some ⟨w.heap.size,0,none⟩) n n) xs.length (aB ks xs):=by
   refine⟨Wx,.inr ⟨w.heap.size,n,(aB ks xs).toArray,by rw[pC],hB,heap_alloc_new w _,by omega,iq,by simp[Wx,pC],?_⟩⟩;simp only[Ds];exact pI (by omega)
 have hW:rM st ph o.op=none:=by simp[ho,rM]
 have eN:=ll (ae:=ae) (ph:=ph) (dst:=o.dst) (sl:=(some ⟨w.heap.size,0,none⟩,n,n)) (row:=none) hs rS hG aW nA (fun r hr=>hr) (World.grownBy_alloc w (.cells (aB ks xs).toArray e) none) (fun k hk=>by cases hk)
   (fun b _=>by simp) (fun r _ _ k _=>by simp) bM (.inr (.inl rfl))
 refine⟨.value (.slice (some ⟨w.heap.size,0,none⟩) n n),_,_,_,_,?_,rfl,by rw[hW];exact eN,cY⟩;simp only[execOp,ho,eI,cF,eH,fK];cases h
end
section
open Go.RowKit
variable {ae:az}{ph:Ph}{P:Program}
theorem qC{t:TypeId}{i:TypeInfo}(h:P.info? t=some i):P.cellsOf t=i.size:=by simp[Program.cellsOf,h]
theorem lr{w:World}{B:Nat}{e:TypeId}{sz:Nat}{v:Value}{n:Nat}{xs:List Value}(h:w.ownsRow B e sz v n xs):∃sl:Option Addr×Nat×Nat,v = .slice sl.1 sl.2.1 sl.2.2:=by
 obtain⟨_,⟨rfl,_⟩|⟨g,cap,cur,rfl,_⟩⟩:=h;exact⟨(none,0,0),rfl⟩;exact⟨(_,_,_),rfl⟩
theorem sr{w:World}{B:Nat}{t ty e:TypeId}{room sz:Nat}{v y:Value}{n m:Nat}{xs news:List Value}(ht:P.underlying t=some (.slice e))(hr:lu P e=some room)(uR:P.cellsOf e=sz)
   (bM:w.ownsRow B e sz v n xs) (hy:Reads w y m news) (hl:news.length=m*sz) (h1:∀u∈news,u.oneCell'=true) (kU:n+m<=room) (hB:B<=w.heap.size) :
   ∃(sl:Option Addr×Nat×Nat) (w':World),(Builtin.append_ #[t,t] ty #[v,y]).run P w = .ok (.slice sl.1 sl.2.1 sl.2.2) w'/\w'.ownsRow B e sz (.slice sl.1 sl.2.1 sl.2.2) (n+m) (xs++news)/\w.grownBy w' v.ownBlock/\
     ((Value.slice sl.1 sl.2.1 sl.2.2).ownBlock=v.ownBlock\/(Value.slice sl.1 sl.2.1 sl.2.2).ownBlock=some w.heap.size):=by
 unfold lu at hr;cases hi:P.info? e with
 |none=>simp[hi]at hr
 | some i=>
   simp only[hi]at hr;cases hz:i.zero with
   |none=>simp[hz]at hr
   | some z=>
     simp only[hz]at hr;split at hr;rename_i hc;simp only[ao,aC]at hc;obtain⟨⟨lI,Cu⟩,hzs⟩:=hc;simp only[ah]at hr;subst hr;have X6:i.size=sz:=by rw[<- uR,qC hi]
     have hby:(n+m)*i.bytes<=140737488355328:=(Nat.le_div_iff_mul_le lI).1 kU;have Jm:n+m<=maxLen:=by
       have:n+m<=(n+m)*i.bytes:=Nat.le_mul_of_pos_right _ lI;unfold maxLen;omega
     obtain⟨base,cap,rfl,hm,uP,jn⟩:=hy;cases base with
     | none=>
       obtain⟨rfl,rfl⟩:=uP rfl;rw[Nat.zero_mul]at hl;have:=Dp hl;subst this;obtain⟨sl,rfl⟩:=lr bM;refine⟨sl,w,run_append_owned_none w B t ty e i sz ht hi _ n xs bM,by simpa using bM,⟨rfl,rfl,rfl,fu _,fun _ _ _=>rfl⟩,.inl rfl⟩
     | some a=>
       obtain⟨v',w',e1,e2,e3,_,e5⟩:=run_append_own_at (P:=P) w B t ty e i z sz i.bytes ht hi hz X6 rfl (by rw[hzs,X6]) (by omega) v n xs bM a m cap news hl
         (fun j u hj=>by obtain⟨a',e,h⟩:=jn j u hj;simp only[ah]at e;subst e;exact h) h1 Jm hby hB
       obtain⟨sl,rfl⟩:=lr e2;exact⟨sl,w',e1,e2,e3,e5⟩
     cases hr
theorem x9{Γ:bS}{w0 w:World}{st bc:St}{a:Act}{o:Oper}{t e:TypeId}{x y:Operand}{key room:Nat}{dm:List Ev}{k:az->Prop}{v:Value}{xs:List (List Int)}{rb:Row}{rows:List Row}{ne:BE}{op:cU}
   (hs:Sat w0 ae ph st a w) (ho:o.op = .call {callee:=.builtin .append,args:=#[x,y],argTypes:=#[t,t] }) (hu:P.underlying t=some (.slice e)) (hr:lu P e=some room)
   (hx:a.eval x=v) (hy:bA st (.c true) y=some (.s rb.id)) (BH:rb∈st.rows) (DM:rb.g = .c true) (pM:P.cellsOf e=rb.ks.length)
   (hv:w.ownsRow w0.heap.size e rb.ks.length v xs.length (aB rb.ks xs)) (hW:rM st ph o.op=v.ownBlock) (eJ:∀r∈rows,r∈st.rows)
   (X7:∀k,v.ownBlock=some k->¬ ph.z k/\∀n∈st.a8,n.own=true->(ph.val n.id).ownBlock≠some k) (kM:∀b∈st.aX,v.ownBlock≠some (ph.r b.id)) (gT:∀r∈rows,r.g.af ae=true->∀k,r.bU ae ph=some k->v.ownBlock≠some k)
   (mQ:op.af ae=xs++(ae rb.lv).list) (cQ:ne.af ae=true->xs.length+(ae rb.lv).list.length<=room)
   (h:newRow st (.c true) key e rb.ks [.aG ne] op rows o.dst=some (dm,bc)) (hk:aO Γ dm k ae) :
   ou Γ P w0 ae ph st bc o a w k:=by
 unfold newRow at h;split at h;rename_i aW;simp only[ao]at aW;obtain⟨aW,rS⟩:=aW;simp only[ah,ay]at h;obtain⟨rfl,rfl⟩:=h;obtain⟨hn,hk⟩:=jo (es:=[.bW key op]) hk;have cY:k (ae.set key (.l (xs++(ae rb.lv).list))):=by rw[<- mQ];exact hk
 have bj:=hs.mem.row rb BH (by rw[DM];rfl);have ey:=aA hy cj hs.tmps;simp only[ak.af]at ey;obtain⟨sl,w',e1,e2,e3,e5⟩:=sr (ty:=o.type) hu hr pM hv bj.reads (bQ _ _) (iY _ _) (cQ hn) hs.below.size;rw[<- mf,<- eY]at e2;have hvB:∀k,v.ownBlock=some k->w0.heap.size<=k/\¬ ph.z k/\∀n∈st.a8,n.own=true->(ph.val n.id).ownBlock≠some k:=fun k hk=>⟨(hv.lt k hk).1,X7 k hk⟩;have eN:=ll (dst:=o.dst) (sl:=sl) (row:=v.ownBlock) hs rS cj aW bj.1 eJ e3 hvB kM gT e2 (by
   rcases e5 with e5|e5;exact .inl e5;exact .inr (.inl e5))
 refine⟨.value (.slice sl.1 sl.2.1 sl.2.2),w',_,_,_,?_,rfl,by rw[hW];exact eN,cY⟩;simp only[execOp,ho,resolve,invoke,builtin,eI,fK,eH,List.map_toArray,jK,nN,hx,ey,e1];cases h
theorem zP{Γ:bS}{w0 w:World}{st bc:St}{a:Act}{o:Oper}{e:TypeId}{ls:List ak}{key:Nat}{dm:List Ev}{k:az->Prop}(hs:Sat w0 ae ph st a w)
   (hW:rM st ph o.op=none) (cF:(execOp a.eval o).run P w = .ok (.value (.pointer (some ⟨w.heap.size,0,none⟩))) (w.alloc (.cells (ls.map (ak.af ae ph)).toArray e)))
   (h:pK st key e ls o.dst=some (dm,bc)) (hk:aO Γ dm k ae):ou Γ P w0 ae ph st bc o a w k:=by
 obtain⟨rfl,eN⟩:=Cr hs h;exact⟨_,_,_,_,_,cF,rfl,by rw[hW];exact eN,hk⟩
theorem uw(ks:List CK):∀(xs:List (List Int)) (n:Nat),aB ks (xs.take n)=(aB ks xs).take (n*ks.length):=by
 intro xs;induction xs with
 |nil=>intro n;simp[aB]
 | cons r rs ih=>
   intro n;cases n with
   |zero=>simp[aB]
   | succ n=>
     simp only[List.take_succ_cons,aB,ih];have e:(n+1)*ks.length=ks.length+n*ks.length:=by rw[la];omega
     rw[e,List.take_append,cx,show ks.length+n*ks.length-ks.length=n*ks.length by omega,pI (l:=bP ks 0 r) (by rw[cx];omega)]
theorem NM{w:World}{B:Nat}{e:TypeId}{ks:List CK}{base:Option Addr}{n cap m:Nat}{xs:List (List Int)}(hn:n=xs.length)(h:w.ownsRow B e ks.length (.slice base n cap) n (aB ks xs))(hm:m<=n) :
   w.ownsRow B e ks.length (.slice base m cap) (xs.take m).length (aB ks (xs.take m)):=by
 have hl:(xs.take m).length=m:=by rw[ua];omega
 rw[hl];refine⟨by rw[bQ,hl],?_⟩;rcases h.2 with⟨e1,e2⟩|⟨g,pF,cur,e1,hg,hh,uI,KX,jn,sm⟩;simp only[Value.slice.injEq]at e1;obtain⟨rfl,h0,rfl⟩:=e1;have:m=0:=by omega
 subst this;exact .inl ⟨rfl,rfl⟩;simp only[Value.slice.injEq,true_and]at e1;obtain⟨rfl,rfl⟩:=e1;refine .inr ⟨g,cap,cur,rfl,hg,hh,by omega,KX,jn,?_⟩;rw[uw,<- sm,List.take_take];congr 1;have:=xf ks.length hm;omega
theorem su{t e:TypeId}{w:World}{base:Option Addr}{n cap:Nat}{k:IntKind}{m:Int}(hu:P.underlying t=some (.slice e))(hc:0<P.cellsOf e)(h0:0<=m)(h1:m<=(n:Int))(uI:n<=cap) :
   (Instr.slice t (.slice base n cap) none (some (.int k m)) none).run P w = .ok (.slice base m.toNat cap) w:=by
 have hm:0<=m/\m<=(cap:Int):=⟨h0,by omega⟩;simp only[Instr.slice,Instr.sliceBounds,Instr.sliceBound,asIntOf,eI,fK,eH,run_underlying hu];simp only[hm,and_self,if_true,eI,fK,eH,cg hc,Nat.sub_zero,Nat.zero_mul];congr 2;cases base with
 |none=>simp
 |some a=>simp[Addr.add_zero']
theorem K3{Γ:bS}{w0 w:World}{st bc:St}{a:Act}{o:Oper}{t e:TypeId}{x h':Operand}{key:Nat}{dm:List Ev}{k:az->Prop}{ra:Row}{kd:IntKind}{n:IE}
   (hs:Sat w0 ae ph st a w) (ho:o.op = .slice t x none (some h') none) (hu:P.underlying t=some (.slice e)) (hx:bA st (.c true) x=some (.s ra.id)) (hh:bA st (.c true) h'=some (.i kd n))
   (bn:ra∈st.rows) (bM:ra.own=true) (hg:ra.g = .c true) (he:ra.e=e) (pM:P.cellsOf e=ra.ks.length)
   (h:newRow st (.c true) key e ra.ks [.aG (BE.le (.c 0) n).mk,.aG (BE.le n (.len ra.lv)).mk] (.take ra.lv n) (st.rows.filter fun r=>decide (r.id≠ra.id)) o.dst=some (dm,bc)) (hk:aO Γ dm k ae) :
   ou Γ P w0 ae ph st bc o a w k:=by
 unfold newRow at h;split at h;rename_i aW;simp only[ao]at aW;obtain⟨aW,rS⟩:=aW;simp only[ah,ay]at h;obtain⟨rfl,rfl⟩:=h;obtain⟨h0,hk⟩:=jo (es:=[.aG (BE.le n (.len ra.lv)).mk,.bW key (.take ra.lv n)]) hk;obtain⟨h1,hk⟩:=jo (es:=[.bW key (.take ra.lv n)]) hk;have h0:=bY h0;have h1:=bY h1;simp only[IE.af]at h0 h1;have cY:k (ae.set key (.l ((ae ra.lv).list.take (n.af ae).toNat))):=hk;have Hv:ra.g.af ae=true:=by rw[hg];rfl
 have bj:=hs.mem.row ra bn Hv;have cW:=bj.2;rw[if_pos bM,he]at cW;have ex:=aA hx cj hs.tmps;have eh:=aA hh cj hs.tmps;simp only[ak.af]at ex eh;obtain⟨base,cap,hv,uI⟩:∃base cap,ph.val ra.id = .slice base (ae ra.lv).list.length cap/\(ae ra.lv).list.length<=cap:=by
   rcases cW.2 with⟨e1,e2⟩|⟨g,pF,cur,e1,_,_,uI,_⟩;exact⟨none,0,by rw[e1,e2],by omega⟩;exact⟨_,pF,e1,uI⟩
 rw[hv]at cW;have htk:=NM (m:=(n.af ae).toNat) rfl cW (by omega);have eR:ra.bU ae ph=(Value.slice base (ae ra.lv).list.length cap).ownBlock:=by rw[<- hv];simp[Row.bU,bM]
 have NJ:∀m m':Nat,(Value.slice base m cap).ownBlock=(Value.slice base m' cap).ownBlock:=fun _ _=>by cases base<;>rfl
 have eN:=ll (dst:=o.dst) (sl:=(base,(n.af ae).toNat,cap)) (row:=(Value.slice base (ae ra.lv).list.length cap).ownBlock) (rows:=st.rows.filter fun r=>decide (r.id≠ra.id)) hs rS cj aW bj.1 (fun r hr=>(jA.1 hr).1) (iZ (cm w)) (fun k hk=>(nC (B:=0) hs bn bM Hv (by rw[hv,hk])).1)
   (fun b hb e=>hs.mem.br b hb ra bn Hv (by rw[eR,e])) (fun r hr h1 k hk e=>by
     have hm:=jA.1 hr;exact hs.mem.rr ra bn r hm.1 (fun e=>by simp[e]at hm) bM Hv h1 k (by rw[eR,e]) hk) htk (.inl (NJ _ _))
 refine⟨.value (.slice base (n.af ae).toNat cap),w,_,_,_,?_,rfl,⟨eN.sat,eN.agree,?_,eN.mono,eN.fresh⟩,cY⟩;simp only[execOp,ho,Option.map_none,se,ex,eh,hv,eI,run_sliceAt_slice (P:=P) (w:=w) t _ _ _ _ (by simp[Program.elem,hu]),su hu (by rw[pM];exact bj.1) h0 h1 uI,eH,fK];rw[ho];exact cm w;cases h
theorem sw{t:TypeId}{v:V1}(h:pJ P t=some v):∃i z,P.info? t=some i/\i.zero=some z/\z.cells=(v.leaves.map (ak.af ae ph)).toArray:=by
 unfold pJ at h;cases hi:P.info? t with
 |none=>simp[hi]at h
 | some i=>
   cases hz:i.zero with
   |none=>simp[hi,hz]at h
   | some z=>
     refine⟨i,z,rfl,hz,?_⟩;have hw:Inhabited World:=⟨{heap:=#[],tape:=default,drawn:=0,os:=default,output:=default}⟩;have h2:=xa (P:=P) (ae:=ae) (ph:=ph) (w:=default) (t:=t) (v:=v) (by unfold pJ;exact h);simp[zeroValue,typeInfo,hi,hz]at h2;rw[h2,V1.fE]
theorem xm{ks:List CK}{z:Value}(hz:z.cells=((ks.map zeroOf).map (ak.af ae ph)).toArray)(n:Nat):(madeCells z.cells (n*ks.length)).toList=aB ks (List.replicate n (List.replicate ks.length 0)):=by
 apply List.ext_getElem?;intro j;by_cases hj:j<n*ks.length;have h0:0<ks.length:=by
   rcases Nat.eq_zero_or_pos ks.length with h|h;rw[h]at hj;omega;exact h
 have hd:j/ks.length<n:=(Nat.div_lt_iff_lt_mul h0).2 hj;have hm:=Nat.mod_lt j h0;have e:j=j/ks.length*ks.length+j%ks.length:=(Nat.div_add_mod' j ks.length).symm;have hf:=mH ks (List.replicate n (List.replicate ks.length 0)) (j/ks.length) (j%ks.length) (by simpa using hd) hm;rw[<- e]at hf;rw[hf];have hc:∀q:Nat,z.cells[q]?=(ks[q]?).map fun(k:CK)=>k.val 0:=fun q=>by
   rw[hz];simp only[List.getElem?_toArray,jt];cases ks[q]? with
   |none=>rfl
   |some k=>cases k<;>rfl
 have uR:z.cells.size=ks.length:=by rw[hz];simp
 have hl:(List.replicate n (List.replicate ks.length (0:Int))).getD (j/ks.length) []=List.replicate ks.length 0:=by
   simp[cq,hd]
 rw[hl];have zH:(List.replicate ks.length (0:Int)).getD (j%ks.length) 0=0:=by
   simp[cq,hm]
 rw[zH,<- hc];simp[madeCells,hj,uR];rw[Array.getElem?_eq_getElem (by rw[uR];exact hm),getElem!_pos z.cells (j%ks.length) (by rw[uR];exact hm)];rw[rZ (by simp[madeCells];omega),rZ (by rw[bQ];simp;omega)]
theorem BI(w:World)(base:Nat)(t e:TypeId)(i:TypeInfo)(z:Value)(size:Nat)(ht:P.underlying t=some (.slice e))(hi:P.info? e=some i)(hz:i.zero=some z)(Fy:i.size=size)
   (kl kc:IntKind) (n c:Nat) (uI:n<=c) (afV:i.bytes*c<=281474976710656) (Jm:c<=maxLen) (abM:base<=w.heap.size) :
   ∃w',(Instr.makeSlice t (.int kl (n:Int)) (.int kc (c:Int))).run P w = .ok (.slice (some ⟨w.heap.size,0,none⟩) n c) w'/\
     w'.ownsRow base e size (.slice (some ⟨w.heap.size,0,none⟩) n c) n (madeCells z.cells (n*size)).toList/\w.grownBy w' none:=by
 subst Fy;have afW:(c:Int)<=9223372036854775807:=by
   have h:=Jm;simp[maxLen]at h;omega
 have nB:(i.bytes:Int)*(c:Int)<=281474976710656:=by
   have h:((i.bytes*c:Nat):Int)<=281474976710656:=by omega
   rwa[Int.natCast_mul]at h
 have hr:=run_make (P:=P) w t e i z ht hi hz kl kc n c (by omega) (by omega) nB afW;simp only[qm]at hr;refine⟨_,hr,⟨?_,.inr ⟨w.heap.size,c,madeCells z.cells (c*i.size),rfl,abM,?_,uI,Jm,size_madeCells _ _,?_⟩⟩,World.grownBy_alloc w _ none⟩;simp[madeCells];exact heap_alloc_new w _;have:n*i.size<=c*i.size:=xf _ uI;simp only[madeCells,Array.toList_map,Array.toList_range,<- List.map_take,List.take_range,Nat.min_eq_left this]
theorem K4{Γ:bS}{w0 w:World}{st bc:St}{a:Act}{o:Oper}{t e:TypeId}{n c:Operand}{key room:Nat}{dm:List Ev}{k:az->Prop}{ks:List CK}{kd kd':IntKind}{x:IE}{z:V1}
   (hs:Sat w0 ae ph st a w) (ho:o.op = .makeSlice t n c) (hu:P.underlying t=some (.slice e)) (hn:bA st (.c true) n=some (.i kd x)) (hc:bA st (.c true) c=some (.i kd' x)) (hr:lu P e=some room) (hz:pJ P e=some z)
   (h0:0<ks.length) (pM:P.cellsOf e=ks.length) (Tq:z.leaves=ks.map zeroOf)
   (h:newRow st (.c true) key e ks [.aG (BE.le (.c 0) x).mk,.aG (BE.le x (.c (room:Int))).mk] (.rep x (List.replicate ks.length 0)) st.rows o.dst=some (dm,bc)) (hk:aO Γ dm k ae) :
   ou Γ P w0 ae ph st bc o a w k:=by
 unfold newRow at h;split at h;rename_i aW;simp only[ao]at aW;obtain⟨aW,rS⟩:=aW;simp only[ah,ay]at h;obtain⟨rfl,rfl⟩:=h;obtain⟨g0,hk⟩:=jo (es:=[.aG (BE.le x (.c (room:Int))).mk,.bW key (.rep x (List.replicate ks.length 0))]) hk;obtain⟨g1,hk⟩:=jo (es:=[.bW key (.rep x (List.replicate ks.length 0))]) hk;have g0:=bY g0;have g1:=bY g1;simp only[IE.af]at g0 g1;obtain⟨m,hm⟩:∃m:Nat,x.af ae=m:=⟨(x.af ae).toNat,by omega⟩;have cY:k (ae.set key (.l (List.replicate m (List.replicate ks.length 0)))):=by
   have:k (ae.set key (.l ((cU.rep x (List.replicate ks.length 0)).af ae))):=hk;simp only[cU.af,hm,qm]at this;exact this
 have en:=aA hn cj hs.tmps;have ec:=aA hc cj hs.tmps;simp only[ak.af,hm]at en ec;obtain⟨i,zv,hi,X8,gV⟩:=sw (ae:=ae) (ph:=ph) hz;unfold lu at hr;simp only[hi,X8]at hr;split at hr;rename_i nO;simp only[ao,aC]at nO;obtain⟨⟨lI,Cu⟩,jn⟩:=nO;simp only[ah]at hr;rw[Tq]at gV;have Fy:i.size=ks.length:=by rw[<- jn,gV];simp
 rw[hm]at g1;have kU:m<=140737488355328/i.bytes:=by rw[hr];omega
 have hby:i.bytes*m<=140737488355328:=kL (Nat.mul_le_mul_left _ kU) (Nat.mul_div_le _ _);have Jm:m<=maxLen:=by
   have:m<=i.bytes*m:=Nat.le_mul_of_pos_left _ lI;unfold maxLen;omega
 obtain⟨w',e1,e2,e3⟩:=run_make_full (P:=P) w w0.heap.size t e i zv ks.length hu hi X8 Fy kd kd' m (by omega) Jm hs.below.size;rw[xm gV]at e2;have hl:(List.replicate m (List.replicate ks.length (0:Int))).length=m:=by simp
 have eN:=ll (dst:=o.dst) (xs:=List.replicate m (List.replicate ks.length 0)) (sl:=(some ⟨w.heap.size,0,none⟩,m,m)) (row:=none) (rows:=st.rows) hs rS cj aW h0 (fun _ h=>h) e3 (fun _ h=>by cases h) (fun _ _=>by simp) (fun _ _ _ _ _=>by simp) (by rw[hl];exact e2) (.inr (.inl rfl));refine⟨.value (.slice (some ⟨w.heap.size,0,none⟩) m m),w',_,_,_,?_,rfl,⟨eN.sat,eN.agree,?_,eN.mono,eN.fresh⟩,cY⟩;simp only[execOp,ho,en,ec,eI,e1,eH,fK];rw[ho];exact eN.grown;cases hr;cases h
theorem zQ{Γ:bS}{w0 w:World}{st bc:St}{a:Act}{o:Oper}{t e:TypeId}{n c:Operand}{key room:Nat}{dm:List Ev}{k:az->Prop}{ks:List CK}{kd kd':IntKind}{x y:IE}{z:V1}
   (hs:Sat w0 ae ph st a w) (ho:o.op = .makeSlice t n c) (hu:P.underlying t=some (.slice e)) (hn:bA st (.c true) n=some (.i kd x)) (hc:bA st (.c true) c=some (.i kd' y)) (hr:lu P e=some room) (hz:pJ P e=some z)
   (h0:0<ks.length) (pM:P.cellsOf e=ks.length) (Tq:z.leaves=ks.map zeroOf)
   (h:newRow st (.c true) key e ks [.aG (BE.le (.c 0) x).mk,.aG (BE.le x y).mk,.aG (BE.le y (.c (room:Int))).mk] (.rep x (List.replicate ks.length 0)) st.rows o.dst=some (dm,bc)) (hk:aO Γ dm k ae) :
   ou Γ P w0 ae ph st bc o a w k:=by
 unfold newRow at h;split at h;rename_i aW;simp only[ao]at aW;obtain⟨aW,rS⟩:=aW;simp only[ah,ay]at h;obtain⟨rfl,rfl⟩:=h;obtain⟨g0,hk⟩:=jo (es:=[.aG (BE.le x y).mk,.aG (BE.le y (.c (room:Int))).mk,.bW key (.rep x (List.replicate ks.length 0))]) hk;obtain⟨g2,hk⟩:=jo (es:=[.aG (BE.le y (.c (room:Int))).mk,.bW key (.rep x (List.replicate ks.length 0))]) hk;obtain⟨g1,hk⟩:=jo (es:=[.bW key (.rep x (List.replicate ks.length 0))]) hk;have g0:=bY g0;have g1:=bY g1;have g2:=bY g2;simp only[IE.af]at g0 g1;obtain⟨m,hm⟩:∃m:Nat,x.af ae=m:=⟨(x.af ae).toNat,by omega⟩;obtain⟨q,hq⟩:∃q:Nat,y.af ae=q:=⟨(y.af ae).toNat,by omega⟩;have hmq:m<=q:=by omega
 have cY:k (ae.set key (.l (List.replicate m (List.replicate ks.length 0)))):=by
   have:k (ae.set key (.l ((cU.rep x (List.replicate ks.length 0)).af ae))):=hk;simp only[cU.af,hm,qm]at this;exact this
 have en:=aA hn cj hs.tmps;have ec:=aA hc cj hs.tmps;simp only[ak.af,hm,hq]at en ec;obtain⟨i,zv,hi,X8,gV⟩:=sw (ae:=ae) (ph:=ph) hz;unfold lu at hr;simp only[hi,X8]at hr;split at hr;rename_i nO;simp only[ao,aC]at nO;obtain⟨⟨lI,Cu⟩,jn⟩:=nO;simp only[ah]at hr;rw[Tq]at gV;have Fy:i.size=ks.length:=by rw[<- jn,gV];simp
 rw[hq]at g1;have kU:q<=140737488355328/i.bytes:=by rw[hr];omega
 have hby:i.bytes*q<=140737488355328:=kL (Nat.mul_le_mul_left _ kU) (Nat.mul_div_le _ _);have Jm:q<=maxLen:=by
   have:q<=i.bytes*q:=Nat.le_mul_of_pos_left _ lI;unfold maxLen;omega
 obtain⟨w',e1,e2,e3⟩:=BI (P:=P) w w0.heap.size t e i zv ks.length hu hi X8 Fy kd kd' m q hmq (by omega) Jm hs.below.size;rw[xm gV]at e2;have hl:(List.replicate m (List.replicate ks.length (0:Int))).length=m:=by simp
 have eN:=ll (dst:=o.dst) (xs:=List.replicate m (List.replicate ks.length 0)) (sl:=(some ⟨w.heap.size,0,none⟩,m,q)) (row:=none) (rows:=st.rows) hs rS cj aW h0 (fun _ h=>h) e3 (fun _ h=>by cases h) (fun _ _=>by simp) (fun _ _ _ _ _=>by simp) (by rw[hl];exact e2) (.inr (.inl rfl));refine⟨.value (.slice (some ⟨w.heap.size,0,none⟩) m q),w',_,_,_,?_,rfl,⟨eN.sat,eN.agree,?_,eN.mono,eN.fresh⟩,cY⟩;simp only[execOp,ho,en,ec,eI,e1,eH,fK];rw[ho];exact eN.grown;cases hr;cases h
theorem qD{α:Type}{a:Array α}{x y:α}(h:a.toList=[x,y]):a = #[x,y]:=ke (by simpa using h)
theorem qE{Γ:bS}{G:BE}{k:az->Prop}:∀ {ns:List BE},aO Γ (ry G ns) k ae->k ae/\(G.af ae=true->∀n∈ns,n.af ae=true):=by
 intro ns;induction ns with
 |nil=>intro h;exact⟨h,fun _ n hn=>by simp at hn⟩
 | cons n ns ih=>
   intro h;simp only[ry]at h;split at h;rename_i he;obtain⟨h1,h2⟩:=ih h;refine⟨h1,fun hG m hm=>?_⟩;rcases bD.1 hm with rfl|hm;exact BE.Cg hG (by rw[he];rfl);exact h2 hG m hm;obtain⟨h0,h⟩:=jo h;obtain⟨h1,h2⟩:=ih h;refine⟨h1,fun hG m hm=>?_⟩;rcases bD.1 hm with rfl|hm;exact BE.Cg hG h0;exact h2 hG m hm
theorem bN{r:Row}:∀ {rs l:List Row},r∈cZ rs l↔r∈rs\/r∈l:=by
 intro rs;induction rs with
 |nil=>intro l;simp[cZ]
 | cons x rs ih=>
   intro l;show r∈dr x (cZ rs l)↔_;rw[dH,ih,bD,or_assoc]
theorem ya{lv key:Nat}{i:IE}:∀ {aN:List NK} {j m:Nat},(fM lv i key j aN)[m]?=(aN[m]?).map (fun| .c k=>qv lv i (j+m) k| .s _ _=>.s (key+(j+m))):=by
 intro aN;induction aN with
 |nil=>intro j m;simp[fM]
 | cons nk aN ih=>
   intro j m;cases nk<;>cases m<;>simp[fM,ih,Nat.add_assoc,Nat.add_comm 1]
theorem Fz{lv key:Nat}{i:IE}:∀ {aN:List NK} {j:Nat},(fM lv i key j aN).length=aN.length:=by
 intro aN;induction aN with
 |nil=>intro j;rfl
 |cons nk aN ih=>intro j;cases nk<;>simp[fM,ih]
theorem Cv{G:BE}{key:Nat}{r:Row}:∀ {aN:List NK} {j:Nat},r∈ki G key j aN->∃m e k,aN[m]?=some (.s e k)/\r=⟨key+(j+m),e,[k],key+(j+m),false,G⟩:=by
 intro aN;induction aN with
 |nil=>intro j h;simp[ki]at h
 | cons nk aN ih=>
   intro j h;have up:r∈ki G key (j+1) aN->∃m e k,(nk::aN)[m]?=some (.s e k)/\r=⟨key+(j+m),e,[k],key+(j+m),false,G⟩:=fun h=>by
     obtain⟨m,e,k,h1,h2⟩:=ih h;exact⟨m+1,e,k,by simpa using h1,by rw[h2,show j+1+m=j+(m+1)by omega]⟩
   cases nk with
   |c k=>exact up h
   | s e k=>
     simp only[ki,bD]at h;rcases h with rfl|h;exact⟨0,e,k,rfl,rfl⟩;exact up h
theorem Cw{Γ:bS}{k:az->Prop}{lv key n:Nat}{i:IE}{all:List NK}{q:Nat->Bool}{aR:az}(yP:q lv=true)(hi:i.all q=true)(hq:∀x,key<=x->x<key+n->q x=false):∀ {aN:List NK} {j:Nat} {ae:az},j+aN.length<=n->(∀x,q x=true->ae x=aR x)->aO Γ (FA lv i key all j aN) k ae->
   ∃aq,k aq/\(∀x,q x=true->aq x=aR x)/\(∀x,x<key+j->aq x=ae x)/\∀m e kk,aN[m]?=some (.s e kk)->aq (key+(j+m)) = .l ((cU.sub lv i all (j+m)).af aR):=by
 intro aN;induction aN with
 |nil=>intro j ae _ he h;exact⟨ae,h,he,fun _ _=>rfl,fun m e kk hm=>by simp at hm⟩
 | cons nk aN ih=>
   intro j ae hn he h;simp only[yN]at hn;cases nk with
   | c kk0=>
     obtain⟨aq,h1,h2,h3,h4⟩:=ih (j:=j+1) (ae:=ae) (by omega) he h;refine⟨aq,h1,h2,fun x hx=>h3 x (by omega),fun m e kk hm=>?_⟩;cases m with
     |zero=>simp at hm
     |succ m=>have:=h4 m e kk (by simpa using hm);rw[show j+1+m=j+(m+1)by omega]at this;exact this
   | s e0 kk0=>
     have xn:(cU.sub lv i all j).af ae=(cU.sub lv i all j).af aR:=by
       simp only[cU.af,he lv yP,IE.ar he hi]
     obtain⟨aq,h1,h2,h3,h4⟩:=ih (j:=j+1) (ae:=ae.set (key+j) (.l ((cU.sub lv i all j).af ae))) (by omega) (fun x hx=>by
       have:x≠key+j:=fun e=>by rw[e,hq _ (by omega) (by omega)]at hx;cases hx
       simp only[az.set,this,if_false];exact he x hx) h
     refine⟨aq,h1,h2,fun x hx=>by rw[h3 x (by omega)];simp only[az.set];rw[if_neg (by omega)],fun m e kk hm=>?_⟩;cases m with
     | zero=>
       rw[gP,h3 _ (by omega),<- xn];simp[az.set]
     |succ m=>have:=h4 m e kk (by simpa using hm);rw[show j+1+m=j+(m+1)by omega]at this;exact this
def Ph.vL(ph:Ph)(key:Nat)(us:List Value):Ph:=
 { ph with v:=fun k=>if key<=k then(match us[k-key]? with
   |some (.slice a b c)=>(a,b,c)
   |_=>ph.v k)else ph.v k}
def mR(st:St)(G:BE)(key:Nat)(dst:Option Tmp)(n:dX)(v:V1):St:=
 {st.bB key n.aN.length with rows:=cZ (ki G key 0 n.aN) st.rows}.put dst ⟨G,.v v⟩
theorem yb{q:Nat->Bool}{lv key:Nat}{i:IE}{aN:List NK}(yP:q lv=true)(hi:i.all q=true)(hq:∀m,m<aN.length->q (key+m)=true):bq q (fM lv i key 0 aN)=true:=by
 have:∀ {ls:List ak},(∀l∈ls,l.all q=true)->bq q ls=true:=by
   intro ls;induction ls with
   |nil=>intro _;rfl
   |cons l ls ih=>intro h;simp only[bq,h l (aK ..),Bool.true_and];exact ih fun x hx=>h x (bl _ hx)
 refine this fun l hl=>?_;obtain⟨m,hm⟩:=List.getElem?_of_mem hl;rw[ya]at hm;simp only[fC,bJ]at hm;obtain⟨nk,K5,rfl⟩:=hm;have hml:=(dc.1 K5).1;cases nk with
 | c kk=>
   cases kk<;>simp only[qv,ak.all,BE.all,IE.all,ao]<;>exact⟨yP,hi⟩
 |s e kk=>exact hq m hml
theorem dq.cells{B:Nat}{st:St}{w:World}(h:dq B ae ph st w){n:dX}(hn:n∈st.a8)(hg:n.g.af ae=true):0<n.aN.length/\∃base cap,ph.val n.id = .slice base (ae n.lv).list.length cap/\(ae n.lv).list.length<=maxLen/\(base=none->(ae n.lv).list.length=0/\cap=0)/\
   ∀i r,(ae n.lv).list[i]?=some r->∃a,base=some a/\∀j nk,n.aN[j]?=some nk->∃u,w.cell? (a.add (i*n.aN.length+j))=some u/\rn ph.z w nk (r.getD j 0) (ew n.aN r j) u:=by
 obtain⟨h0,h1⟩:=h.rd n hn hg;refine⟨h0,?_⟩;unfold ft at h1;split at h1;obtain⟨base,cap,e1,e2,e3,e4⟩:=h1.reads (z':=fun _=>True) h0 (fun _ _=>trivial) (fun _ _=>trivial);obtain⟨cs,bM,hc⟩:=h1;refine⟨base,cap,e1,e2,e3,fun i r hi=>?_⟩;obtain⟨a,rfl,_,_⟩:=e4 i r hi;refine⟨a,rfl,fun j nk hj=>?_⟩;obtain⟨u,hu,uI⟩:=hc i r hi j nk hj;rw[e1]at bM;have had:a=⟨a.block,0,none⟩:=by
   obtain⟨_,⟨e,_⟩|⟨g,pF,cur,e,_⟩⟩:=bM;simp at e;simp only[Value.slice.injEq,ah]at e;rw[e.1]
 rw[had]at bM ⊢;exact⟨u,bM.cells (by simp[Value.ownBlock]) _ _ hu,uI.mL (fun _ _=>rfl) (fun _ h=>h.1)⟩;obtain⟨base,cap,e1,e2,e3,e4⟩:=h1;refine⟨base,cap,e1,e2,e3,fun i r hi=>?_⟩;obtain⟨a,e,_,jn⟩:=e4 i r hi;exact⟨a,e,jn⟩
theorem Hw{Γ:bS}{w0 w:World}{st:St}{a:Act}{o:Oper}{t:TypeId}{x:Operand}{key j:Nat}{k:az->Prop}{n:dX}{i:IE}{G:BE}{v:V1}
   (hs:Sat w0 ae ph st a w) (ho:o.op = .load t x) (hG:G.af ae=true) (hx:bA st G x=some (.ep n.id n.aN.length i j)) (bn:n∈st.a8) (mK:0<n.aN.length) (hg:G.iW n.g=true) (rS:G.all st.has=true) (aW:st.free key n.aN.length=true) (TU:i.all st.has=true) (DN:st.has n.lv=true)
   (pD:Looks P t v) (sn:∀jj l,v.leaves[jj]?=some l->(fM n.lv i key 0 n.aN)[j+jj]?=some l) (Cx:∀q:Nat->Bool,bq q (fM n.lv i key 0 n.aN)=true->v.all q=true)
   (hk:aO Γ (ry G [(BE.le (.c 0) i).mk,(BE.lt i (.len n.lv)).mk]++FA n.lv i key n.aN 0 n.aN) k ae):ou Γ P w0 ae ph st (mR st G key o.dst n v) o a w k:=by
   rw[fG]at hk;obtain⟨hk,pN⟩:=qE hk;have pN:=pN hG;have h0:=bY (pN _ (aK ..));have h1:=fi (pN _ (bl _ (aK ..)));simp only[IE.af]at h0 h1;have ov:n.g.af ae=true:=BE.cN hg hG;obtain⟨_,base,cap,hv,hlen,lI,Bt⟩:=hs.nest.cells bn ov;have hZ:(i.af ae).toNat<(ae n.lv).list.length:=by omega
   obtain⟨r,hr⟩:∃r,(ae n.lv).list[(i.af ae).toNat]?=some r:=⟨_,dG hZ⟩;obtain⟨ad,rfl,jn⟩:=Bt _ r hr;have abN:(ae n.lv).list.getD (i.af ae).toNat []=r:=by simp[List.getD,hr]
   obtain⟨us,hus⟩:∃us:List Value,us=(List.range n.aN.length).map fun j=>(w.cell? (ad.add ((i.af ae).toNat*n.aN.length+j))).getD undef:=⟨_,rfl⟩;have anC:us.length=n.aN.length:=by simp[hus]
   have M7:∀j nk,n.aN[j]?=some nk->∃u,us[j]?=some u/\w.cell? (ad.add ((i.af ae).toNat*n.aN.length+j))=some u/\rn ph.z w nk (r.getD j 0) (ew n.aN r j) u:=fun j nk hj=>by
     obtain⟨u,h1,h2⟩:=jn j nk hj;have He:=(dc.1 hj).1;refine⟨u,?_,h1,h2⟩;simp[hus,jt,List.getElem?_range He,h1]
   have jc:∀j,j<n.aN.length->st.has (key+j)=false:=fun j hj=>cT aW (by omega) (by omega);obtain⟨aq,TV,hE1,_,hE2⟩:=Cw (aR:=ae) (q:=st.has) DN TU (fun x a b=>cT aW a b) (by omega) (fun _ _=>rfl) hk;simp only[fC]at hE2;have bL:bt st.has ae aq ph (ph.vL key us):=by
     refine⟨fun x hx=>(hE1 x hx).symm,fun _ _=>rfl,fun x hx=>?_⟩;simp only[Ph.vL];split;rename_i hkx;rcases mS (x-key) n.aN.length with cJ|mF;have:=jc _ cJ;rw[show key+(x-key)=x by omega,hx]at this;cases this;rw[rZ (by omega)];rfl
   have ir:=hs.congr bL;have bO:∀k,st.has k=true->(st.bB key n.aN.length).has k=true:=fun k hk=>gI hk;have FB:∀(m:Nat) (e:TypeId) (kk:CK),n.aN[m]?=some (.s e kk)->∃u,us[m]?=some u/\(ph.vL key us).val (key+m)=u/\(aq (key+m)).list=(ew n.aN r m).map (fun x=>[x])/\Reads w u (ew n.aN r m).length (aB [kk] ((ew n.aN r m).map fun x=>[x]))/\(ew n.aN r m≠[]->∀b,u.ownBlock=some b->ph.z b):=fun m e kk hm=>by
     obtain⟨u,h1,_,h3,h4,h5⟩:=M7 m _ hm;refine⟨u,h1,?_,?_,h4,h5⟩;obtain⟨b0,c0,rfl,_⟩:=h4;simp[Ph.val,Ph.vL,h1];rw[hE2 m e kk hm];show((cU.sub n.lv i n.aN m).af ae)=_;simp only[cU.af,abN]
   have qn:∀r'∈ki G key 0 n.aN,∃(m:Nat) (e:TypeId) (kk:CK),n.aN[m]?=some (.s e kk)/\r'=⟨key+m,e,[kk],key+m,false,G⟩:=fun r' cO=>by
     obtain⟨m,e,kk,a,b⟩:=Cv cO;exact⟨m,e,kk,a,by rw[b,fC]⟩
   have X9:∀r'∈ki G key 0 n.aN,gA w0.heap.size aq (ph.vL key us) r' w/\r'.own=false/\∀b,r'.bU aq (ph.vL key us)=some b->ph.z b:=fun r' cO=>by
     obtain⟨m,e,kk,hm,rfl⟩:=qn r' cO;obtain⟨u,_,e1,e2,e3,e4⟩:=FB m e kk hm;refine⟨⟨by simp,?_⟩,rfl,fun b hb=>?_⟩;simp only[jy,if_false,e1,e2,ot];exact e3;simp only[Row.bU,Bool.false_or,e1,e2,ot,aC]at hb;split at hb;rename_i cQ;exact e4 (fun e=>cQ (by rw[e];rfl)) b hb;cases hb
   have ch:∀m,m<n.aN.length->(st.bB key n.aN.length).has (key+m)=true:=fun m hm=>ja (by omega) (by omega);have Hh:G.af aq=true:=by rw[<- BE.ar bL.e rS];exact hG
   have Dx:ph.v n.id=(some ad,(ae n.lv).list.length,cap):=by
     simp only[Ph.val,Value.slice.injEq]at hv;exact Prod.ext hv.1 (Prod.ext hv.2.1 hv.2.2)
   have cF:(execOp a.eval o).run P w = .ok (.value (v.af aq (ph.vL key us))) w:=by
     have ex:=aA hx hG hs.tmps;simp only[ak.af,Dx]at ex;simp only[execOp,ho,ex,Instr.loadAt,Instr.sureAddr,eI,fK,eH];rw[iI (ae:=aq) (ph:=ph.vL key us) pD fun jj lf hj=>?_];rfl;have hj:=sn jj lf hj;simp only[ya,fC,bJ]at hj;obtain⟨nk,K5,rfl⟩:=hj;rw[hO,Nat.add_assoc];cases nk with
     | c kk=>
       obtain⟨u,_,h2,h3⟩:=M7 (j+jj) _ K5;rw[h2];have h3:u=kk.val (r.getD (j+jj) 0):=h3;rw[h3,rY,<- bL.e _ DN,<- IE.ar bL.e TU];simp only[cellAt,abN]
     | s e kk=>
       obtain⟨u,h1,h2,_⟩:=M7 (j+jj) _ K5;obtain⟨u',uK,e1,_⟩:=FB (j+jj) e kk K5;rw[h1,ah]at uK;subst uK;rw[h2];simp only[ak.af,e1]
   have hW:rM st ph o.op=none:=by rw[ho];rfl
   have NN:bq (st.bB key n.aN.length).has (fM n.lv i key 0 n.aN)=true:=yb (bO _ DN) (IE.aD bO TU) ch;refine⟨_,w,_,aq,ph.vL key us,cF,rfl,?_,TV⟩;rw[hW];unfold mR;refine⟨⟨?_,?_,hs.below,by rw[cH];exact hs.defers,?_,?_⟩,bL,cm w,fun k hk=>by rw[cy];exact bO k hk,fun b hb=>.inl ⟨b,by rw[bV]at hb;exact hb,rfl⟩⟩;exact nI (st:={st.bB key n.aN.length with rows:=cZ (ki G key 0 n.aN) st.rows}) ir.tmps (by simp[aT.af,Hh,SV.af]);rw[bV,df];have hm:=ir.mem;refine⟨hm.ny,hm.bb,fun r' cO zh=>?_,fun b hb r' cO zh e=>?_,fun q hq q' Nb cQ Jn KW xo b hb nB=>?_⟩;rcases bN.1 cO with cO|cO;exact(X9 r' cO).1;exact hm.row r' cO zh;rcases bN.1 cO with cO|cO;exact ir.nest.bz b hb ((X9 r' cO).2.2 _ e);exact hm.br b hb r' cO zh e;rcases bN.1 hq with hq|hq;rw[(X9 q hq).2.1]at Jn;cases Jn;rcases bN.1 Nb with Nb|Nb;exact ir.nest.rz q hq Jn KW b hb ((X9 q' Nb).2.2 _ nB);exact hm.rr q hq q' Nb cQ Jn KW xo b hb nB;refine⟨?_,?_,?_⟩;refine gJ (st:={st.bB key n.aN.length with rows:=cZ (ki G key 0 n.aN) st.rows}) (fun t s ht=>aT.aD bO (hs.names.tmps t s ht)) ?_;simp only[aT.all,SV.all,ao];exact⟨BE.aD bO rS,Cx _ NN⟩;rw[bV,cy];exact fun b hb=>iA.aD bO (hs.names.aX b hb);rw[df,cy];intro r' cO;rcases bN.1 cO with cO|cO;obtain⟨m,e,kk,hm,rfl⟩:=qn r' cO;have:=ch m (dc.1 hm).1;simp only[Row.all,ao];exact⟨this,this,BE.aD bO rS⟩;exact Row.aD bO (hs.names.rows r' cO)
   . refine dq.put (st:={st.bB key n.aN.length with rows:=cZ (ki G key 0 n.aN) st.rows}) (ir.nest.next (cC (p:=st.has)) rfl bO (cm w) (fun k hk=>by cases hk) rfl (fun b hb=>.inl ⟨b,hb,rfl⟩) (fun r' cO h1 b hb=>?_));rcases bN.1 cO with cO|cO;exact .inr (.inr (.inr ⟨(X9 r' cO).2.1,(X9 r' cO).2.2 b hb⟩));exact .inl ⟨r',cO,id,h1,hb⟩
theorem NO{Γ:bS}{w0 w:World}{st:St}{a:Act}{dst:Option Tmp}{key:Nat}{k:az->Prop}{n:dX}{i:IE}{G:BE}{v:V1}
   (hs:Sat w0 ae ph st a w) (hG:G.af ae=false) (rS:G.all st.has=true) (aW:st.free key n.aN.length=true) (TU:i.all st.has=true) (DN:st.has n.lv=true) (Cx:∀q:Nat->Bool,bq q (fM n.lv i key 0 n.aN)=true->v.all q=true)
   (hk:aO Γ (ry G [(BE.le (.c 0) i).mk,(BE.lt i (.len n.lv)).mk]++FA n.lv i key n.aN 0 n.aN) k ae) :
   ∃aq,Step w0 ae aq ph ph st (mR st G key dst n v) (a.put dst undef) w w none/\k aq:=by
 rw[fG]at hk;obtain⟨hk,_⟩:=qE hk;obtain⟨aq,TV,hE1,_,_⟩:=Cw (aR:=ae) (q:=st.has) DN TU (fun x a b=>cT aW a b) (by omega) (fun _ _=>rfl) hk;have bL:bt st.has ae aq ph ph:=⟨fun x hx=>(hE1 x hx).symm,fun _ _=>rfl,fun _ _=>rfl⟩;have ir:=hs.congr bL;have Hh:G.af aq=false:=by rw[<- BE.ar bL.e rS];exact hG
 have bO:∀k,st.has k=true->(st.bB key n.aN.length).has k=true:=fun k hk=>gI hk;have ch:∀m,m<n.aN.length->(st.bB key n.aN.length).has (key+m)=true:=fun m hm=>ja (by omega) (by omega);have qn:∀r'∈ki G key 0 n.aN,∃(m:Nat) (e:TypeId) (kk:CK),n.aN[m]?=some (.s e kk)/\r'=⟨key+m,e,[kk],key+m,false,G⟩:=fun r' cO=>by
   obtain⟨m,e,kk,a,b⟩:=Cv cO;exact⟨m,e,kk,a,by rw[b,fC]⟩
 have NN:bq (st.bB key n.aN.length).has (fM n.lv i key 0 n.aN)=true:=yb (bO _ DN) (IE.aD bO TU) ch;have ho:∀r∈cZ (ki G key 0 n.aN) st.rows,r.g.af aq=true->r∈st.rows:=fun r hr h1=>by
   rcases bN.1 hr with hr|hr;obtain⟨m,e,kk,_,rfl⟩:=qn r hr;rw[Hh]at h1;cases h1;exact hr
 refine⟨aq,⟨⟨?_,?_,hs.below,by rw[cH];exact hs.defers,?_,?_⟩,bL,cm w,fun k hk=>by rw[mR,cy];exact bO k hk,fun b hb=>.inl ⟨b,by rw[mR,bV]at hb;exact hb,rfl⟩⟩,TV⟩;refine nI (st:={st.bB key n.aN.length with rows:=cZ (ki G key 0 n.aN) st.rows}) ir.tmps ?_;simp only[aT.af,Hh];rfl;rw[mR,bV,df];have hm:=ir.mem;exact⟨hm.ny,hm.bb,fun r hr h1=>hm.row r (ho r hr h1) h1,fun b hb r hr h1=>hm.br b hb r (ho r hr h1) h1,fun r hr r' cO cQ hw h1 h2=>hm.rr r (ho r hr h1) r' (ho r' cO h2) cQ hw h1 h2⟩;refine⟨?_,?_,?_⟩;refine gJ (st:={st.bB key n.aN.length with rows:=cZ (ki G key 0 n.aN) st.rows}) (fun t s ht=>aT.aD bO (hs.names.tmps t s ht)) ?_;simp only[aT.all,SV.all,ao];exact⟨BE.aD bO rS,Cx _ NN⟩;rw[mR,bV,cy];exact fun b hb=>iA.aD bO (hs.names.aX b hb);rw[mR,df,cy];intro r' cO;rcases bN.1 cO with cO|cO;obtain⟨m,e,kk,hm,rfl⟩:=qn r' cO;have:=ch m (dc.1 hm).1;simp only[Row.all,ao];exact⟨this,this,BE.aD bO rS⟩;exact Row.aD bO (hs.names.rows r' cO)
 . exact dq.put (st:={st.bB key n.aN.length with rows:=cZ (ki G key 0 n.aN) st.rows}) (ir.nest.next (cC (p:=st.has)) rfl bO (cm w) (fun k hk=>by cases hk) rfl (fun b hb=>.inl ⟨b,hb,rfl⟩) (fun r' cO h1 b hb=>.inl ⟨r',ho r' cO h1,id,h1,hb⟩))
end
section
open Go.RowKit
variable {ae:az}{ph:Ph}{P:Program}
theorem FG{w:World}{B:Nat}{t ty e:TypeId}{room sz:Nat}{a0:Option Addr}{y:Value}{n m:Nat}{xs news:List Value}(ht:P.underlying t=some (.slice e))(hr:lu P e=some room)(uR:P.cellsOf e=sz)
   (h0:a0=none->n=0) (pH:∀j u,xs[j]?=some u->∃a,a0=some a/\w.cell? (a.add j)=some u) (pC:xs.length=n*sz) (hy:Reads w y m news) (hl:news.length=m*sz) (h1:∀u∈news,u.oneCell'=true) (tB:0<m) (kU:n+m<=room) (hB:B<=w.heap.size) :
   ∃(sl:Option Addr×Nat×Nat) (w':World),(Builtin.append_ #[t,t] ty #[.slice a0 n n,y]).run P w = .ok (.slice sl.1 sl.2.1 sl.2.2) w'/\w'.ownsRow B e sz (.slice sl.1 sl.2.1 sl.2.2) (n+m) (xs++news)/\w.grownBy w' none/\
     ((Value.slice sl.1 sl.2.1 sl.2.2).ownBlock=none\/(Value.slice sl.1 sl.2.1 sl.2.2).ownBlock=some w.heap.size):=by
 cases a0 with
 | none=>
   have hn:=h0 rfl;subst hn;have:xs=[]:=Dp (by rw[pC,Nat.zero_mul]);subst this;obtain⟨sl,w',e1,e2,e3,e4⟩:=sr (ty:=ty) ht hr uR (World.ownsRow_nil w B e sz) hy hl h1 kU hB;exact⟨sl,w',e1,e2,e3,e4⟩
 | some b=>
   unfold lu at hr;cases hi:P.info? e with
   |none=>simp[hi]at hr
   | some i=>
     simp only[hi]at hr;cases hz:i.zero with
     |none=>simp[hz]at hr
     | some z=>
       simp only[hz]at hr;split at hr;rename_i hc;simp only[ao,aC]at hc;obtain⟨⟨lI,Cu⟩,hzs⟩:=hc;simp only[ah]at hr;subst hr;have X6:i.size=sz:=by rw[<- uR,qC hi]
       have hby:(n+m)*i.bytes<=140737488355328:=(Nat.le_div_iff_mul_le lI).1 kU;have Jm:n+m<=maxLen:=by
         have:n+m<=(n+m)*i.bytes:=Nat.le_mul_of_pos_right _ lI;unfold maxLen;omega
       obtain⟨base,cap,rfl,hm,uP,jn⟩:=hy;cases base with
       |none=>have:=(uP rfl).1;omega
       | some a=>
         have afY:0<sz:=by omega
         have hlen:(xs++news).length=(n+m)*sz:=by rw[eY,pC,hl,la]
         obtain⟨v',w',e1,e2,e3⟩:=run_append_arg_grows (P:=P) w t ty e i z sz i.bytes ht hi hz X6 rfl (by rw[hzs,X6]) afY b n n xs pC
           (fun j u hj=>by obtain⟨a',e,h⟩:=pH j u hj;simp only[ah]at e;subst e;exact h) a m cap news hl
           (fun j u hj=>by obtain⟨a',e,h⟩:=jn j u hj;simp only[ah]at e;subst e;exact h) (by omega) Jm hby
         obtain⟨sl,rfl⟩:=lr e2;refine⟨sl,w',e1,⟨e2.1,?_⟩,e3,?_⟩;rcases e2.2 with hh|⟨g,pF,cur,f1,f2,f3⟩;exact .inl hh;exact .inr ⟨g,pF,cur,f1,by omega,f3⟩;rcases e2.2 with⟨hh,_⟩|⟨g,pF,cur,f1,f2,f3,f4⟩;left;rw[hh];rfl
         ·
           right;have hr:=run_append_grow (P:=P) w t ty e i z ht hi hz b n n xs (by rw[pC,X6]) (fun j u hj=>by obtain⟨a',e,h⟩:=pH j u hj;simp only[ah]at e;subst e;exact h) a m cap news (by rw[hl,X6])
             (fun j u hj=>by obtain⟨a',e,h⟩:=jn j u hj;simp only[ah]at e;subst e;exact h) (by omega) (by unfold maxLen at Jm;omega) (growslice_fits (by omega) hby)
           rw[e1]at hr;simp only[Result.ok.injEq]at hr;rw[hr.1];rfl
       cases hr
theorem zS{Γ:bS}{w0 w:World}{st bc:St}{a:Act}{o:Oper}{t e:TypeId}{x y:Operand}{key room:Nat}{dm:List Ev}{k:az->Prop}{ra rb:Row}
   (hs:Sat w0 ae ph st a w) (ho:o.op = .call {callee:=.builtin .append,args:=#[x,y],argTypes:=#[t,t] }) (hu:P.underlying t=some (.slice e)) (hr:lu P e=some room)
   (hx:bA st (.c true) x=some (.cs ra.id)) (hy:bA st (.c true) y=some (.s rb.id)) (zT:ra∈st.rows) (BH:rb∈st.rows) (Le:ra.g = .c true) (DM:rb.g = .c true) (nA:ra.ks=rb.ks) (pM:P.cellsOf e=ra.ks.length)
   (h:newRow st (.c true) key e ra.ks [.aG (BE.lt (.c 0) (.len rb.lv)).mk,.aG (BE.le (IE.add (.len ra.lv) (.len rb.lv)).mk (.c (room:Int))).mk] (.app ra.lv rb.lv) st.rows o.dst=some (dm,bc)) (hk:aO Γ dm k ae) :
   ou Γ P w0 ae ph st bc o a w k:=by
 unfold newRow at h;split at h;rename_i aW;simp only[ao]at aW;obtain⟨aW,rS⟩:=aW;simp only[ah,ay]at h;obtain⟨rfl,rfl⟩:=h;obtain⟨h0,hk⟩:=jo (es:=[.aG (BE.le (IE.add (.len ra.lv) (.len rb.lv)).mk (.c (room:Int))).mk,.bW key (.app ra.lv rb.lv)]) hk;obtain⟨h1,hk⟩:=jo (es:=[.bW key (.app ra.lv rb.lv)]) hk;have h0:=fi h0;have h1:=bY h1;rw[IE.cn]at h1;simp only[IE.af]at h0 h1;have cY:k (ae.set key (.l ((ae ra.lv).list++(ae rb.lv).list))):=hk;have DP:=hs.mem.row ra zT (by rw[Le];rfl);have Ya:=hs.mem.row rb BH (by rw[DM];rfl);have ex:=aA hx cj hs.tmps;have ey:=aA hy cj hs.tmps;simp only[ak.af]at ex ey;obtain⟨base,cap,hv,hn,lI,jn⟩:=DP.reads;have jz:ph.v ra.id=(base,(ae ra.lv).list.length,cap):=by
   simp only[Ph.val,Value.slice.injEq]at hv;exact Prod.ext hv.1 (Prod.ext hv.2.1 hv.2.2)
 rw[jz]at ex;have abR:=Ya.reads;rw[<- nA]at abR;obtain⟨sl,w',e1,e2,e3,e5⟩:=FG (ty:=o.type) hu hr pM (fun e=>(lI e).1) jn (bQ _ _) abR (bQ _ _) (iY _ _) (by omega) (by omega) hs.below.size;rw[<- mf,<- eY]at e2;have eN:=ll (dst:=o.dst) (sl:=sl) (row:=none) (rows:=st.rows) hs rS cj aW DP.1 (fun _ h=>h) e3 (fun _ h=>by cases h) (fun _ _=>by simp) (fun _ _ _ _ _=>by simp) e2 (by
   rcases e5 with e5|e5;exact .inl e5;exact .inr (.inl e5))
 have hW:rM st ph o.op=none:=by simp[ho,rM,hx]
 refine⟨.value (.slice sl.1 sl.2.1 sl.2.2),w',_,_,_,?_,rfl,by rw[hW];exact eN,cY⟩;simp only[execOp,ho,resolve,invoke,builtin,eI,fK,eH,List.map_toArray,jK,nN,ex,ey,e1];cases h
theorem Cy{w:World}{B:Nat}{e:TypeId}{sz:Nat}{base:Option Addr}{n cap:Nat}{xs:List Value}(bM:w.ownsRow B e sz (.slice base n cap) n xs)(vs:List Value)(hl:vs.length<=n*sz)(h1:∀v∈vs,v.oneCell'=true) :
   ∃w',(∀a,base=some a->(storeCells a vs).run P w = .ok () w')/\(base=none->w'=w)/\w'.ownsRow B e sz (.slice base n cap) n (vs++xs.drop vs.length)/\w.grownBy w' (Value.slice base n cap).ownBlock:=by
 obtain⟨pC,⟨e1,iq⟩|⟨g,pF,cur,e1,hg,hh,uI,KX,jn,sm⟩⟩:=bM;simp only[Value.slice.injEq]at e1;obtain⟨rfl,rfl,rfl⟩:=e1;have mj:vs=[]:=Dp (by simpa using hl);have pH:xs=[]:=Dp (by simpa using pC);subst mj pH;exact⟨w,(by intro a h;cases h),(by intro _;rfl),World.ownsRow_nil _ _ _ _,iZ (cm w)⟩;simp only[Value.slice.injEq,true_and]at e1;obtain⟨rfl,rfl⟩:=e1;have oq:cur.toList.length=cap*sz:=by simpa using jn
 have hle:n*sz<=cap*sz:=xf _ uI;obtain⟨w',hr,il,M8⟩:=kg (P:=P) g e 0 vs 0 cur.toList w (by simpa using hh) (by rw[oq];omega) h1;have qB:=tD vs cur.toList 0 0 (by rw[oq];omega);rw[qB]at M8;simp only[fC,gP,List.take_zero,mP]at M8;refine⟨w',(by intro a ha;cases ha;exact hr),(by intro h;cases h),⟨?_,.inr ⟨g,cap,_,rfl,hg,M8,uI,KX,?_,?_⟩⟩,il⟩;simp only[eY,List.length_drop,pC];omega;simp only[List.size_toArray,eY,List.length_drop,oq];omega;simp only[Ds];rw[List.take_append,pI (by omega),<- sm];congr 1;rw[List.drop_take]
theorem BM(ks:List CK):∀(xs:List (List Int)) (n:Nat),aB ks (xs.drop n)=(aB ks xs).drop (n*ks.length):=by
 intro xs;induction xs with
 |nil=>intro n;simp[aB]
 | cons r rs ih=>
   intro n;cases n with
   |zero=>simp
   | succ n=>
     simp only[List.drop_succ_cons,aB,ih];rw[show(n+1)*ks.length=ks.length+n*ks.length by rw[la];omega,List.drop_append,cx,vK (l:=bP ks 0 r) (by rw[cx];omega),mP];congr 1;omega
theorem NU{w:World}{B:Nat}{r:Row}(h:gA B ae ph r w):∃base cap,ph.val r.id = .slice base (ae r.lv).list.length cap/\(base=none->(ae r.lv).list.length=0/\cap=0):=by
 obtain⟨base,cap,hv,_,lI,_⟩:=h.reads;exact⟨base,cap,hv,lI⟩
theorem Lg{e:TypeId}(h:(P.info? e).isSome=true):∃i,P.info? e=some i/\i.size=P.cellsOf e:=by
 obtain⟨i,hi⟩:=zF.1 h;exact⟨i,hi,(qC hi).symm⟩
theorem Lh{Γ:bS}{w0 w:World}{st:St}{a:Act}{o:Oper}{t e:TypeId}{x y:Operand}{key:Nat}{k:az->Prop}{ra rb:Row}
   (hs:Sat w0 ae ph st a w) (ho:o.op = .call {callee:=.builtin .copy,args:=#[x,y],argTypes:=#[t,t] }) (hu:P.underlying t=some (.slice e))
   (hx:bA st (.c true) x=some (.s ra.id)) (hy:bA st (.c true) y=some (.s rb.id)) (zT:ra∈st.rows) (BH:rb∈st.rows) (bM:ra.own=true) (Le:ra.g = .c true) (DM:rb.g = .c true) (nA:ra.ks=rb.ks) (pM:P.cellsOf e=ra.ks.length)
   (hi:(P.info? e).isSome=true) (aW:st.free key 1=true) (hk:aO Γ [.bW key (.Nc ra.lv rb.lv)] k ae) :
   ou Γ P w0 ae ph st ({st.bB key 1 with rows:=dr {ra with lv:=key} (st.rows.filter fun r=>decide (r.id≠ra.id)) }.put o.dst ⟨.c true,.v (.one (.i .i64 (.min (.len ra.lv) (.len rb.lv))))⟩) o a w k:=by
 have Hv:ra.g.af ae=true:=by rw[Le];rfl
 have DP:=hs.mem.row ra zT Hv;have Ya:=hs.mem.row rb BH (by rw[DM];rfl);have ex:=aA hx cj hs.tmps;have ey:=aA hy cj hs.tmps;simp only[ak.af]at ex ey;have cW:=DP.2;rw[if_pos bM]at cW;obtain⟨ba,ca,jz,hba⟩:=NU DP;obtain⟨bb,cb,hvb,hnb,hbb,hcb⟩:=Ya.reads;rw[jz]at cW;obtain⟨i,hii,his⟩:=Lg hi;obtain⟨m,hm⟩:∃m,m=Nat.min (ae rb.lv).list.length (ae ra.lv).list.length:=⟨_,rfl⟩;have vB:m<=(ae rb.lv).list.length:=by rw[hm];exact Nat.min_le_left _ _
 have Hd:m<=(ae ra.lv).list.length:=by rw[hm];exact Nat.min_le_right _ _
 obtain⟨vs,mj⟩:∃vs,vs=aB rb.ks ((ae rb.lv).list.take m):=⟨_,rfl⟩;have sn:vs.length=m*ra.ks.length:=by rw[mj,bQ,ua,nA];congr 1;omega
 have hlm:m*ra.ks.length<=(ae ra.lv).list.length*ra.ks.length:=xf _ Hd;obtain⟨w',dV,NV,jc,il⟩:=Cy (P:=P) cW vs (by omega) (by rw[mj];exact iY _ _);have xn:(cU.Nc ra.lv rb.lv).af ae=(ae rb.lv).list.take m++(ae ra.lv).list.drop m:=by
   simp only[cU.af];rw[hm];rcases Nat.le_total (ae rb.lv).list.length (ae ra.lv).list.length with hle|hle;rw[show Nat.min (ae rb.lv).list.length (ae ra.lv).list.length=(ae rb.lv).list.length from Nat.min_eq_left hle];rw[pI hle,pI (fu _)];rw[show Nat.min (ae rb.lv).list.length (ae ra.lv).list.length=(ae ra.lv).list.length from Nat.min_eq_right hle];rw[vK hle,vK (fu _)]
 obtain⟨mD,DG⟩:∃mD,mD=(ae rb.lv).list.take m++(ae ra.lv).list.drop m:=⟨_,rfl⟩;have cY:k (ae.set key (.l mD)):=by rw[DG,<- xn];exact hk
 have pC:mD.length=(ae ra.lv).list.length:=by rw[DG];simp only[eY,ua,List.length_drop];omega
 have hfr:aB ra.ks mD=vs++(aB ra.ks (ae ra.lv).list).drop vs.length:=by
   rw[DG,mf,mj,<- nA,BM,bQ];congr 2;rw[ua];congr 1;omega
 have hW:rM st ph o.op=(ph.val ra.id).ownBlock:=by simp[ho,rM,hx]
 have uQ:st.has key=false:=cT aW (fu _) (by omega);have mi:=fun(q:Row) (hq:q∈st.rows)=>by
   have:=hs.names.rows q hq;simpa only[Row.all,ao]using this
 have cQ:∀k,st.has k=true->k≠key:=fun k hk e=>by rw[e,uQ]at hk;cases hk
 refine⟨.value (goInt m),w',_,ae.set key (.l mD),ph,?_,rfl,?_,cY⟩;have hfc:∀sl:Option Addr,bb=sl->(Builtin.firstCells ra.ks.length m (.slice sl (ae rb.lv).list.length cb)).run P w = .ok vs.toArray w:=by
   intro sl FB;cases sl with
   | none=>
     have:=(hbb FB).1;have tB:m=0:=by omega
     rw[mj,tB];simp[Builtin.firstCells,aB]
   | some b=>
     have zH:=run_firstCells_some (P:=P) w ra.ks.length m b (ae rb.lv).list.length cb vs sn (fun j u hj=>by
       have:(aB rb.ks (ae rb.lv).list)[j]?=some u:=by
         rw[mj,uw]at hj;rw[zI]at hj;split at hj;exact hj;cases hj
       obtain⟨a',e,h⟩:=hcb j u this;rw[FB,ah]at e;subst e;exact h)
     exact zH
 have hfc:=hfc bb rfl;simp only[execOp,ho,resolve,invoke,builtin,eI,fK,eH,List.map_toArray,jK,nN,ex,ey,jz,hvb];have cF:(Builtin.copy_ #[t,t] o.type #[.slice ba (ae ra.lv).list.length ca,.slice bb (ae rb.lv).list.length cb]).run P w = .ok (goInt m) w':=by
   simp only[Builtin.copy_,List.getElem?_toArray,jZ,zy,eI,run_underlying hu,eH,Builtin.lenOf,fK,cg (P:=P) (t:=e) (by rw[pM];exact DP.1),pM,<- hm,hfc];cases Li:ba with
   |none=>simp[NV Li]
   |some b=>simp[dV b Li]
 rw[cF];rfl;rw[hW];refine sh hs zT bM Hv aW (by rw[jz,pC,hfr];exact jc) (by rw[jz];exact il) ?_ ?_;simp only[aT.all,BE.all,SV.all,V1.all,ak.all,IE.all,Bool.true_and,ao];exact⟨gI (mi ra zT).2.1,gI (mi rb BH).2.1⟩;simp only[aT.af,BE.af,if_true,SV.af,V1.af,ak.af,IE.af,az.set,cQ _ (mi ra zT).2.1,cQ _ (mi rb BH).2.1,if_false,goInt];congr 1;rw[hm];have:((Nat.min (ae rb.lv).list.length (ae ra.lv).list.length:Nat):Int)=min ((ae ra.lv).list.length:Int) ((ae rb.lv).list.length:Int):=by
   have:Nat.min (ae rb.lv).list.length (ae ra.lv).list.length=min (ae rb.lv).list.length (ae ra.lv).list.length:=rfl;rw[this];omega
 exact this
theorem Hz{Γ:bS}{w0 w:World}{st:St}{a:Act}{o:Oper}{t e:TypeId}{x:Operand}{key:Nat}{k:az->Prop}{ra:Row}{z:V1}
   (hs:Sat w0 ae ph st a w) (ho:o.op = .call {callee:=.builtin .clear,args:=#[x],argTypes:=#[t] }) (hu:P.underlying t=some (.slice e))
   (hx:bA st (.c true) x=some (.s ra.id)) (zT:ra∈st.rows) (bM:ra.own=true) (Le:ra.g = .c true) (pM:P.cellsOf e=ra.ks.length) (hz:pJ P e=some z) (Tq:z.leaves=ra.ks.map zeroOf)
   (aW:st.free key 1=true) (hk:aO Γ [.bW key (.rep (.len ra.lv) (List.replicate ra.ks.length 0))] k ae) :
   ou Γ P w0 ae ph st ({st.bB key 1 with rows:=dr {ra with lv:=key} (st.rows.filter fun r=>decide (r.id≠ra.id)) }.put o.dst ⟨.c true,.Hc []⟩) o a w k:=by
 have Hv:ra.g.af ae=true:=by rw[Le];rfl
 have DP:=hs.mem.row ra zT Hv;have ex:=aA hx cj hs.tmps;simp only[ak.af]at ex;have cW:=DP.2;rw[if_pos bM]at cW;obtain⟨ba,ca,jz,hba⟩:=NU DP;rw[jz]at cW;obtain⟨n,hn⟩:∃n,n=(ae ra.lv).list.length:=⟨_,rfl⟩;rw[<- hn]at cW jz hba;obtain⟨i,zv,hii,X8,gV⟩:=sw (ae:=ae) (ph:=ph) hz;rw[Tq]at gV;have hzs:zv.cells.size=ra.ks.length:=by rw[gV];simp
 have abS:=xm gV n;have Tr:(Builtin.zeroCells zv.cells n).toList=aB ra.ks (List.replicate n (List.replicate ra.ks.length 0)):=by
   rw[<- abS];simp only[Builtin.zeroCells,madeCells,hzs]
 obtain⟨vs,mj⟩:∃vs,vs=aB ra.ks (List.replicate n (List.replicate ra.ks.length 0)):=⟨_,rfl⟩;rw[<- mj]at Tr;have sn:vs.length=n*ra.ks.length:=by rw[mj,bQ,List.length_replicate]
 obtain⟨w',dV,NV,jc,il⟩:=Cy (P:=P) cW vs (by omega) (by rw[mj];exact iY _ _);have hd:(aB ra.ks (ae ra.lv).list).drop vs.length=[]:=vK (by rw[bQ,sn,hn];exact fu _);rw[hd,yS]at jc;obtain⟨mD,DG⟩:∃mD,mD=List.replicate n (List.replicate ra.ks.length (0:Int)):=⟨_,rfl⟩;have cY:k (ae.set key (.l mD)):=by
   have:k (ae.set key (.l ((cU.rep (.len ra.lv) (List.replicate ra.ks.length 0)).af ae))):=hk;simp only[cU.af,IE.af,<- hn,qm,<- DG]at this;exact this
 have hW:rM st ph o.op=(ph.val ra.id).ownBlock:=by simp[ho,rM,hx]
 refine⟨.value (.tuple #[]),w',_,ae.set key (.l mD),ph,?_,rfl,?_,cY⟩;simp only[execOp,ho,resolve,invoke,builtin,eI,fK,eH,List.map_toArray,jK,nN,ex,jz];have cF:(Builtin.clear_ #[t] o.type #[.slice ba n ca]).run P w = .ok (.tuple #[]) w':=by
   simp only[Builtin.clear_,List.getElem?_toArray,jZ,eI,run_underlying hu,eH];cases Li:ba with
   | none=>
     have:=NV Li;subst this;simp
   | some b=>
     cases o7:n with
     | zero=>
       have afZ:vs=[]:=Dp (by rw[sn,o7,Nat.zero_mul]);have:=dV b Li;rw[afZ]at this;simp only[storeCells,fK,Result.ok.injEq,true_and]at this;subst this;simp
     | succ n'=>
       rw[o7]at Tr;have hze:(zeroValue e).run P w = .ok zv w:=by simp[zeroValue,typeInfo,hii,X8]
       simp[hze,Tr,dV b Li]
 rw[cF];rfl;rw[hW];have uM:mD.length=n:=by rw[DG];simp
 refine sh hs zT bM Hv aW (by rw[jz,uM,DG,<- mj];exact jc) (by rw[jz];exact il) rfl rfl
end
section
open Go.RowKit
variable {ae:az}{ph:Ph}{P:Program}
theorem K9{Γ:bS}{w0 w:World}{st:St}{a:Act}{o:Oper}{src La e:TypeId}{x:Operand}{key:Nat}{k:az->Prop}{bs:List UInt8}
   (hs:Sat w0 ae ph st a w) (ho:o.op = .convert src La x) (X':P.underlying src=some .string) (hd:P.underlying La=some (.slice e)) (he:P.underlying e=some (.int .u8)) (hx:bA st (.c true) x=some (.str bs)) (hlen:bs.length<=4096)
   (aW:st.free key 1=true) (hk:aO Γ [.bW key (.lit (bs.map fun b=>[Sum.inl (IE.c (b.toNat:Int))]))] k ae) :
   ou Γ P w0 ae ph st ({st.bB key 1 with rows:=dr ⟨key,e,[.i .u8],key,false,.c true⟩ st.rows}.put o.dst ⟨.c true,.v (.one (.kb key bs))⟩) o a w k:=by
 have ex:=aA hx cj hs.tmps;simp only[ak.af]at ex;obtain⟨s,hsd⟩:∃s:ByteArray,s=⟨bs.toArray⟩:=⟨_,rfl⟩;rw[<- hsd]at ex;have hss:s.size=bs.length:=by rw[hsd];simp[ByteArray.size]
 have cF:=run_bytes_of_string (P:=P) w src La e s X' hd he;have mF:=grownCap_ge w s.size 0 e;obtain⟨cap,Nt⟩:∃cap,cap=grownCap w s.size 0 e:=⟨_,rfl⟩;rw[<- Nt]at cF mF;obtain⟨xs,pH⟩:∃xs:List (List Int),xs=bs.map fun b=>[(b.toNat:Int)]:=⟨_,rfl⟩;have cY:k (ae.set key (.l xs)):=by
   have:k (ae.set key (.l ((cU.lit (bs.map fun b=>[Sum.inl (IE.c (b.toNat:Int))])).af ae))):=hk;have e:(cU.lit (bs.map fun b=>[Sum.inl (IE.c (b.toNat:Int))])).af ae=xs:=by
     rw[pH];simp only[cU.af,List.map_map];apply rm;intro b _;rfl
   rw[e]at this;exact this
 have pC:xs.length=bs.length:=by rw[pH];simp
 have uQ:st.has key=false:=cT aW (fu _) (by omega);have cQ:∀k,st.has k=true->k≠key:=fun k hk e=>by rw[e,uQ]at hk;cases hk
 obtain⟨sl,FB⟩:∃sl:Option Addr×Nat×Nat,sl=(some ⟨w.heap.size,0,none⟩,bs.length,cap):=⟨_,rfl⟩;have bL:bt st.has ae (ae.set key (.l xs)) ph (ph.vH key sl):=⟨fun k hk=>by simp[az.set,cQ k hk],fun _ _=>rfl,fun k hk=>by simp[Ph.vH,cQ k hk]⟩;have fY:(ph.vH key sl).val key = .slice (some ⟨w.heap.size,0,none⟩) bs.length cap:=by simp[Ph.val,Ph.vH,FB]
 have xY:(st.bB key 1).has key=true:=ja (fu _) (by omega);have hW:rM st ph o.op=none:=by simp[ho,rM]
 obtain⟨W,hWd⟩:∃W,W=w.drew.alloc (.cells (bytesRow s cap) e ((bytesRow s cap).size,(bytesRow s cap).size+1)):=⟨_,rfl⟩;rw[<- hWd]at cF;have afX:w.grownBy W none:=by
   rw[hWd];exact⟨rfl,rfl,rfl,by simp,fun k hk _=>heap_alloc_old w.drew _ (show k<w.drew.heap.size from by simpa using hk)⟩
 refine⟨.value (.slice (some ⟨w.heap.size,0,none⟩) s.size cap),W,a.put o.dst (.slice (some ⟨w.heap.size,0,none⟩) s.size cap),ae.set key (.l xs),ph.vH key sl,?_,rfl,?_,cY⟩;simp only[execOp,ho,ex,eI,cF,eH,fK];rw[hW,hss];refine DC (nr:=⟨key,e,[.i .u8],key,false,.c true⟩) hs rfl rfl rfl aW (fun _ h=>h) afX (fun _ h=>by cases h) bL rfl xY (fun _ _=>by simp) (fun _ _ _ _ _=>by simp) ⟨by simp,?_⟩ (fun k hk=>?_) ?_ ?_;simp only[jy,if_false,fY,az.set,if_true,DV.list,pC];refine⟨_,cap,rfl,⟨by unfold maxLen;omega,by omega⟩,fun h=>by simp at h,fun j u hj=>⟨_,rfl,?_⟩⟩;have He:j<bs.length:=by
   have:=(dc.1 hj).1;rw[bQ,pC]at this;simpa using this
 have hf:=mH [.i .u8] xs j 0 (by omega) (by simp);simp only[List.length_singleton,Nat.mul_one,gP]at hf;rw[hf]at hj;have Lb:xs.getD j []=[((bs[j]'He).toNat:Int)]:=by simp[pH,List.getD,He]
 simp only[jZ,se,ah,Lb]at hj;subst hj;rw[jr];have hh:W.heap[w.heap.size]?=some (.cells (bytesRow s cap) e ((bytesRow s cap).size,(bytesRow s cap).size+1)):=by rw[hWd];exact heap_alloc_new w.drew _
 simp only[World.cell?,hh,fC];rw[hsd];simp[bytesRow,Array.getElem?_append,He,CK.val];simp only[Row.bU,Bool.false_or,fY,Value.ownBlock]at hk;split at hk;simp only[ah]at hk;exact .inr (by omega);cases hk;simp only[aT.all,BE.all,SV.all,V1.all,ak.all,Bool.true_and];exact xY;simp[aT.af,BE.af,SV.af,V1.af,ak.af,fY]
theorem Ld(sz:Nat):∀(n i:Nat) (ps:List (Nat×V1)) (ls:List ak) (cells:List Value),kn sz n i ps=some ls->cells.length=(i+n)*sz->
   Instr.fill (fun i=>some (i*sz,sz)) cells.toArray (ps.map fun p=>(p.1,p.2.af ae ph))=some (cells.take (i*sz)++ls.map (ak.af ae ph)).toArray/\ls.length=n*sz:=by
 intro n;induction n with
 | zero=>
   intro i ps ls cells h hl;cases ps with
   | nil=>
     simp only[kn,ah]at h;subst h;refine⟨?_,by simp⟩;simp only[nN,Instr.fill,yS];rw[pI (by rw[hl,gP];exact fu _)]
   |cons p ps=>simp[kn]at h
 | succ n ih=>
   intro i ps ls cells h hl;cases ps with
   |nil=>simp[kn]at h
   | cons p ps=>
     obtain⟨j,v⟩:=p;simp only[kn]at h;split at h;rename_i DK;obtain⟨rfl,sn⟩:=DK;simp only[bJ]at h;obtain⟨Jh,TX,rfl⟩:=h;have yP:(v.leaves.map (ak.af ae ph)).length=sz:=by rw[ot,sn]
     have xl:(i+(n+1))*sz=i*sz+sz+n*sz:=by rw[la,la,Nat.one_mul];omega
     simp only[jK,Instr.fill,V1.fE];rw[if_neg (by simp[sn,hl,xl]<;>omega)];have qB:=tD (v.leaves.map (ak.af ae ph)) cells (i*sz) 0 (by rw[yP,hl,xl];omega);have K2:((v.leaves.map (ak.af ae ph)).toArray.zipIdx.foldl (fun cs (x:Value×Nat)=>cs.setIfInBounds (i*sz+x.2) x.1) cells.toArray)=(cells.take (i*sz)++v.leaves.map (ak.af ae ph)++cells.drop (i*sz+sz)).toArray:=by
       apply ke;rw[wZ];simp only[Ds];rw[qB,yP,gP]
     obtain⟨e1,e2⟩:=ih (i+1) ps Jh (cells.take (i*sz)++v.leaves.map (ak.af ae ph)++cells.drop (i*sz+sz)) TX (by
       simp only[eY,ua,List.length_drop,yP,hl,xl];rw[show i+1+n=i+(n+1)by omega,xl];omega)
     refine⟨?_,by simp[sn,e2,la];omega⟩;refine(congrArg (fun c=>Instr.fill (fun i=>some (i*sz,sz)) c (ps.map fun p=>(p.1,p.2.af ae ph))) K2).trans ?_;rw[e1];congr 2;rw[show(i+1)*sz=i*sz+sz by rw[la,Nat.one_mul]];rw[DL (by simp only[eY,ua,yP,hl,xl];omega),pI (by simp only[eY,ua,yP,hl,xl];omega)];simp;cases h
theorem FF{w:World}{t e:TypeId}{n sz:Nat}{parts:Array (Nat×Operand)}{ps:List (Nat×V1)}{ls:List ak}{st:St}{a:Act}(hu:P.underlying t=some (.slice e))(ht:fS ae ph st.tmps a.tmps){G:BE}(hG:G.af ae=true)(Fa:im st G parts.toList=some ps)(h0:0<sz)(hz:((P.info? e).bind (·.zero)).isSome=true)
   (kU:n*sz<=16777216) (hc:P.cellsOf e=sz) (vx:kn sz n 0 ps=some ls) :
   (Instr.buildSlice t n (parts.map fun(i,x)=>(i,a.eval x))).run P w = .ok (.slice (some ⟨w.heap.size,0,none⟩) n n) (w.alloc (.cells (ls.map (ak.af ae ph)).toArray e))/\ls.length=n*sz:=by
 have zO:=oY (a:=a) hG ht Fa;obtain⟨i,hi,z,M9⟩:∃i,P.info? e=some i/\∃z,i.zero=some z:=by
   cases hi:P.info? e with
   |none=>simp[hi]at hz
   |some i=>simp[hi]at hz;exact⟨i,rfl,zF.1 hz⟩
 have hzr:(zeroValue e).run P w = .ok z w:=by simp[zeroValue,typeInfo,hi,M9]
 obtain⟨z0,Na⟩:∃z0:Array Value,z0.size=(0+n)*sz/\(Instr.buildSlice t n (parts.map fun(i,x)=>(i,a.eval x))).run P w =
     (match Instr.fill (fun i=>some (i*sz,sz)) z0 (ps.map fun p=>(p.1,p.2.af ae ph))with
      |some cells=>.ok (.slice (some ⟨w.heap.size,0,none⟩) n n) (w.alloc (.cells cells e))
      |none=>.halt (.stuck "buildSlice: a part of the wrong size") w):=by
   by_cases hn:n*sz=0;refine⟨Array.map (fun x=>(#[]:Array Value)[x%(#[]:Array Value).size]!) (Array.range (n*sz)),by simp,?_⟩;simp only[Instr.buildSlice,eI,run_underlying hu,eH,cg (P:=P) (w:=w) (t:=e) (by omega),hc];rw[if_neg (by omega),if_pos hn];simp only[eI,fK,eH,Array.toList_map,zO];generalize Array.map _ (Array.range (n*sz))=zz;cases Instr.fill (fun i=>some (i*sz,sz)) zz (ps.map fun p=>(p.1,p.2.af ae ph))with
   |none=>rfl
   |some cells=>rfl
   refine⟨(Array.range (n*sz)).map (z.cells[· % z.cells.size]!),by simp,?_⟩;simp only[Instr.buildSlice,eI,run_underlying hu,eH,cg (P:=P) (w:=w) (t:=e) (by omega),hc];rw[if_neg (by omega),if_neg hn];simp only[eI,hzr,fK,eH,Array.toList_map,zO];generalize Array.map _ (Array.range (n*sz))=zz;cases Instr.fill (fun i=>some (i*sz,sz)) zz (ps.map fun p=>(p.1,p.2.af ae ph))with
   |none=>rfl
   |some cells=>rfl
 obtain⟨X5,cF⟩:=Na;obtain⟨hf,hl⟩:=Ld (ae:=ae) (ph:=ph) sz n 0 ps ls z0.toList vx (by simpa using X5);simp only[Nat.zero_mul,List.take_zero,mP,Array.toArray_toList]at hf;rw[hf]at cF;exact⟨cF,hl⟩
theorem TZ{Γ:bS}{w0 w:World}{st:St}{a:Act}{o:Oper}{t e:TypeId}{n sz key:Nat}{parts:Array (Nat×Operand)}{ps:List (Nat×V1)}{ls:List ak}{k:az->Prop}
   (hs:Sat w0 ae ph st a w) (ho:o.op = .buildSlice t n parts) (hu:P.underlying t=some (.slice e)) (Fa:im st (.c true) parts.toList=some ps) (h0:0<sz) (hz:((P.info? e).bind (·.zero)).isSome=true)
   (kU:n*sz<=16777216) (hc:P.cellsOf e=sz) (vx:kn sz n 0 ps=some ls) (aW:st.free key 1=true) (hla:bq st.has ls=true) (hk:k ae) :
   ou Γ P w0 ae ph st ({st.bB key 1 with aX:=mh ⟨key,e,ls⟩ st.aX}.put o.dst ⟨.c true,.v (.one (.bs key n sz))⟩) o a w k:=by
 obtain⟨cF,_⟩:=FF (P:=P) (w:=w) (a:=a) hu hs.tmps cj Fa h0 hz kU hc vx;have hW:rM st ph o.op=none:=by simp[ho,rM]
 have dV:=zJ (a:=a) (e:=e) (dst:=o.dst) (s:=⟨.c true,.v (.one (.bs key n sz))⟩) (v:=.slice (some ⟨w.heap.size,0,none⟩) n n) hs aW hla ?_ ?_;refine⟨.value (.slice (some ⟨w.heap.size,0,none⟩) n n),_,_,ae,_,?_,rfl,by rw[hW];exact dV,hk⟩;simp only[execOp,ho,eI,cF,eH,fK];simp only[aT.all,BE.all,SV.all,V1.all,ak.all,Bool.true_and];exact ja (fu _) (by omega);simp[aT.af,BE.af,SV.af,V1.af,ak.af,Ph.o6]
end
section
open Go.RowKit
variable {ae:az}{ph:Ph}{P:Program}
theorem ia{b x:dX}:∀ {l:List dX},b∈uT x l↔b=x\/b∈l:=by
 intro l;induction l with
 |nil=>simp[uT]
 | cons y l ih=>
   simp only[uT];split;simp;simp only[bD,ih];constructor;rintro(h|h|h)<;>simp[h];rintro(h|h|h)<;>simp[h]
theorem zR{w0 w w':World}{st:St}{a:Act}{key:Nat}{e:TypeId}{aN:List NK}{xs:List (List Int)}{rows:List Row}{a8:List dX}{dst:Option Tmp}{sl:Option Addr×Nat×Nat}{row:Option Nat}{N:Nat->Prop}
   (h:Sat w0 ae ph st a w) (aW:st.free key 1=true) (K5:0<aN.length) (eJ:∀r∈rows,r∈st.rows) (yc:∀n∈a8,n∈st.a8) (hg:w.grownBy w' row)
   (bj:∀k,row=some k->w0.heap.size<=k/\¬ ph.z k/\∀n∈a8,n.own=true->(ph.val n.id).ownBlock≠some k)
   (kM:∀b∈st.aX,row≠some (ph.r b.id)) (gT:∀r∈rows,r.g.af ae=true->∀k,r.bU ae ph=some k->row≠some k)
   (hN:∀k,N k->k<w.heap.size/\(∀b∈st.aX,ph.r b.id≠k)/\(∀r∈rows,r.g.af ae=true->r.bU ae ph≠some k)/\(∀n∈a8,n.own=true->(ph.val n.id).ownBlock≠some k)/\row≠some k)
   (bM:Dq (fun k=>(ph.z k\/N k)/\w0.heap.size<=k) w' w0.heap.size e aN (.slice sl.1 sl.2.1 sl.2.2) xs)
   (jc:(Value.slice sl.1 sl.2.1 sl.2.2).ownBlock=row\/(Value.slice sl.1 sl.2.1 sl.2.2).ownBlock=some w.heap.size\/(Value.slice sl.1 sl.2.1 sl.2.2).ownBlock=none) :
   Step w0 ae (ae.set key (.l xs)) ph {ph.vH key sl with z:=fun k=>ph.z k\/N k} st ({st.bB key 1 with rows,a8:=uT ⟨key,e,aN,key,.c true,true⟩ a8}.put dst ⟨.c true,.v (.one (.s key))⟩)
     (a.put dst (.slice sl.1 sl.2.1 sl.2.2)) w w' row:=by
 obtain⟨aJ,NP⟩:∃aJ:Ph,aJ = {ph.vH key sl with z:=fun k=>ph.z k\/N k}:=⟨_,rfl⟩;rw[<- NP];have M9:∀k,aJ.z k↔(ph.z k\/N k):=fun k=>by rw[NP]
 have uQ:st.has key=false:=cT aW (fu _) (by omega);have cQ:∀k,st.has k=true->k≠key:=fun k hk e=>by rw[e,uQ]at hk;cases hk
 have bL:bt st.has ae (ae.set key (.l xs)) ph aJ:=⟨fun k hk=>by simp[az.set,cQ k hk],fun _ _=>by rw[NP];rfl,fun k hk=>by rw[NP];simp[Ph.vH,cQ k hk]⟩;have fY:aJ.val key = .slice sl.1 sl.2.1 sl.2.2:=by rw[NP];simp[Ph.val,Ph.vH]
 have xY:(st.bB key 1).has key=true:=ja (fu _) (by omega);have bO:∀k,st.has k=true->(st.bB key 1).has k=true:=fun k hk=>gI hk;have FC:=h.mem.congr bL h.names.aX h.names.rows;have mi:=fun(q:Row) (hq:q∈st.rows)=>by
   have:=h.names.rows q hq;simpa only[Row.all,ao]using this
 have eR:∀r∈st.rows,r.bU (ae.set key (.l xs)) aJ=r.bU ae ph:=fun r hr=>by
   unfold Row.bU;rw[<- bL.e _ (mi r hr).2.1];simp only[Ph.val,bL.v _ (mi r hr).1]
 have oA:∀r∈st.rows,r.g.af (ae.set key (.l xs))=r.g.af ae:=fun r hr=>(BE.ar bL.e (mi r hr).2.2).symm;have rL:∀b∈st.aX,aJ.r b.id=ph.r b.id:=fun b hb=>by
   have:=h.names.aX b hb;simp only[iA.all,ao]at this;exact(bL.r _ this.1).symm
 have hnv:∀n∈st.a8,aJ.val n.id=ph.val n.id/\(ae.set key (.l xs)) n.lv=ae n.lv/\n.g.af (ae.set key (.l xs))=n.g.af ae:=fun n hn=>by
   have:=h.nest.nm n hn;simp only[dX.all,ao]at this;exact⟨by simp only[Ph.val,bL.v _ this.1],(bL.e _ this.2.1).symm,(BE.ar bL.e this.2.2).symm⟩
 have FD:∀k,(Value.slice sl.1 sl.2.1 sl.2.2).ownBlock=some k->row=some k\/k=w.heap.size:=fun k hk=>by
   rcases jc with e|e|e;exact .inl (by rw[<- e,hk]);rw[hk]at e;simp only[ah]at e;exact .inr e;rw[hk]at e;cases e
 have abO:∀k,aJ.z k->k<w.heap.size:=fun k hk=>by
   rcases(M9 k).1 hk with hk|hk;exact h.nest.lt k hk;exact(hN k hk).1
 have abP:∀k,row=some k->¬ aJ.z k:=fun k hk KU=>by
   rcases(M9 k).1 KU with e|e;exact(bj k hk).2.1 e;exact(hN k e).2.2.2.2 hk
 refine⟨⟨?_,?_,h.below.grown hg h.below.size (fun k hk=>(bj k hk).1),by rw[cH];exact h.defers,?_,?_⟩,bL,hg,fun k hk=>by rw[cy];exact bO k hk,fun b hb=>.inl ⟨b,by rw[bV]at hb;exact hb,rfl⟩⟩;refine nI (st:={st.bB key 1 with rows,a8:=uT ⟨key,e,aN,key,.c true,true⟩ a8}) ⟨h.tmps.1,fun t s ht=>?_⟩ ?_;rw[<- aT.ar bL (h.names.tmps t s ht)];exact h.tmps.2 t s ht;simp[aT.af,BE.af,SV.af,V1.af,ak.af,fY];rw[bV,df];refine⟨fun b hb=>(FC.ny b hb).grown hg (fun e=>kM b hb (by rw[<- e,rL b hb])),FC.bb,fun r hr h1=>?_,fun b hb r hr h1=>FC.br b hb r (eJ r hr) h1,fun r hr r' cO kT ho h1 h2=>FC.rr r (eJ r hr) r' (eJ r' cO) kT ho h1 h2⟩;have dZ:=eJ r hr;exact(FC.row r dZ h1).grown hg (fun k hk e=>by
   rw[eR r dZ]at hk;rw[oA r dZ]at h1;exact gT r hr h1 k hk e.symm)
 refine⟨?_,?_,?_⟩;refine gJ (st:={st.bB key 1 with rows,a8:=uT ⟨key,e,aN,key,.c true,true⟩ a8}) (fun t s ht=>aT.aD bO (h.names.tmps t s ht)) ?_;simp only[aT.all,BE.all,SV.all,V1.all,ak.all,Bool.true_and];exact xY;rw[bV,cy];exact fun b hb=>iA.aD bO (h.names.aX b hb);rw[df,cy];exact fun r hr=>Row.aD bO (h.names.rows r (eJ r hr));refine dq.put (st:={st.bB key 1 with rows,a8:=uT ⟨key,e,aN,key,.c true,true⟩ a8}) ⟨fun k hk=>DB (abO k hk) hg.size,fun b hb NG=>?_,fun r hr ho h1 k hk KU=>?_,fun n hn h1=>?_,fun n hn=>?_,fun n hn ho=>?_⟩;rw[rL b hb]at NG;rcases(M9 _).1 NG with e|e;exact h.nest.bz b hb e;exact(hN _ e).2.1 b hb rfl;have dZ:=eJ r hr;rw[eR r dZ]at hk;rw[oA r dZ]at h1;rcases(M9 _).1 KU with e|e;exact h.nest.rz r dZ ho h1 k hk e;exact(hN _ e).2.2.1 r hr h1 hk;rcases ia.1 hn with rfl|hn;refine⟨K5,?_⟩;unfold ft;rw[if_pos rfl];simp only[fY,az.set,if_true,DV.list];refine bM.mL (fun _ _=>rfl) (fun k hk=>⟨(M9 k).2 hk.1,hk.2⟩) (fun _ _=>rfl);have iq:=yc n hn;obtain⟨e1,e2,e3⟩:=hnv n iq;obtain⟨h0,Bt⟩:=h.nest.rd n iq (by rw[<- e3];exact h1);refine⟨h0,?_⟩;unfold ft at *;rw[e1,e2];split;rename_i ho;rw[if_pos ho]at Bt;exact Bt.mL (fun k hk=>hg.block k (h.nest.lt k hk.1) (fun e=>(bj k e.symm).2.1 hk.1)) (fun k hk=>⟨(M9 k).2 (.inl hk.1),hk.2⟩) (fun k hk=>hg.block k (h.nest.oX iq ho hk).2 (fun e=>(bj k e.symm).2.2 n hn ho hk));rename_i ho;rw[if_neg ho]at Bt;exact Bt.mL (fun k hk=>hg.block k (h.nest.lt k hk) (fun e=>(bj k e.symm).2.1 hk)) (fun k hk=>(M9 k).2 (.inl hk));rcases ia.1 hn with rfl|hn;simp only[dX.all,BE.all,Bool.and_true];rw[show({st.bB key 1 with rows,a8:=uT ⟨key,e,aN,key,.c true,true⟩ a8}:St).has key=(st.bB key 1).has key from rfl,xY];rfl;exact dX.aD bO (h.nest.nm n (yc n hn));rcases ia.1 hn with rfl|hn;refine⟨rfl,fun k hk=>?_⟩;simp only[fY]at hk;have hnz:∀k',k=k'->¬ aJ.z k':=fun k' ek KU=>by
   subst ek;rcases FD k hk with e|e;exact abP k e KU;have:=abO k KU;omega
 refine⟨hnz k rfl,fun b hb he=>?_,fun r hr il hf=>?_,fun n' o7 ql kT=>?_⟩;rw[rL b hb]at he;rcases FD k hk with e|e;exact kM b hb (by rw[e,he]);have:=(h.mem.ny b hb).lt;omega;have dZ:=eJ r hr;rw[eR r dZ]at hf;rw[oA r dZ]at il;rcases FD k hk with e|e;exact gT r hr il k hf e;have:=(h.mem.row r dZ il).tv hf;omega;rcases ia.1 o7 with rfl|o7;exact absurd rfl kT;have iq:=yc n' o7;rw[(hnv n' iq).1];intro hf;rcases FD k hk with e|e;exact(bj k e).2.2 n' o7 ql hf;have:=(h.nest.oX iq ql hf).2;omega;have iq:=yc n hn;obtain⟨h1,h2⟩:=h.nest.oz n iq ho;refine⟨h1,fun k hk=>?_⟩;rw[(hnv n iq).1]at hk;obtain⟨g1,g2,g3,g4⟩:=h2 k hk;refine⟨fun KU=>?_,fun b hb he=>?_,fun r hr il hf=>?_,fun n' o7 ql kT=>?_⟩;rcases(M9 _).1 KU with e|e;exact g1 e;exact(hN _ e).2.2.2.1 n hn ho hk;rw[rL b hb]at he;exact g2 b hb he;have dZ:=eJ r hr;rw[eR r dZ]at hf;rw[oA r dZ]at il;exact g3 r dZ il hf;rcases ia.1 o7 with rfl|o7;simp only[fY];intro hf;rcases FD k hf with e|e;exact(bj k e).2.2 n hn ho hk;have:=(h.nest.oX iq ho hk).2;omega;rw[(hnv n' (yc n' o7)).1];exact g4 n' (yc n' o7) ql kT
def FE(z:Nat->Prop)(w:World)(aN:List NK)(cs:List Value)(xs:List (List Int)):Prop:=
 ∀i r,xs[i]?=some r->∀j nk,aN[j]?=some nk->∃u,cs[i*aN.length+j]?=some u/\rn z w nk (r.getD j 0) (ew aN r j) u
theorem FE.append{z:Nat->Prop}{w:World}{aN:List NK}{cs pO:List Value}{xs mD:List (List Int)}(hl:cs.length=xs.length*aN.length)(h:FE z w aN cs xs)(h':FE z w aN pO mD):FE z w aN (cs++pO) (xs++mD):=by
 intro i r hi j nk hj;have He:=(dc.1 hj).1;by_cases cJ:i<xs.length;rw[mJ cJ]at hi;obtain⟨u,hu,hc⟩:=h i r hi j nk hj;exact⟨u,by rw[mJ (dc.1 hu).1];exact hu,hc⟩;rw[pB (by omega)]at hi;obtain⟨u,hu,hc⟩:=h' _ r hi j nk hj;have e:i*aN.length=xs.length*aN.length+(i-xs.length)*aN.length:=by rw[<- la];congr 1;omega
 refine⟨u,?_,hc⟩;rw[pB (by rw[hl,e];omega),hl,e,<- hu];congr 1;omega
theorem FE.take{z:Nat->Prop}{w:World}{aN:List NK}{cs:List Value}{xs:List (List Int)}(h:FE z w aN cs xs)(m:Nat):FE z w aN (cs.take (m*aN.length)) (xs.take m):=by
 intro i r hi j nk hj;have He:=(dc.1 hj).1;rw[zI]at hi;split at hi;rename_i him;obtain⟨u,hu,hc⟩:=h i r hi j nk hj;refine⟨u,?_,hc⟩;have:(i+1)*aN.length<=m*aN.length:=xf _ him;rw[la]at this;rw[zI,if_pos (by omega)];exact hu;cases hi
theorem FE.TW{z:Nat->Prop}{w:World}{aN:List NK}{cs:List Value}{xs:List (List Int)}(hl:cs.length=xs.length*aN.length)(h:FE z w aN cs xs):∀u∈cs,u.oneCell'=true:=by
 intro u hu;obtain⟨q,hq⟩:=List.getElem?_of_mem hu;have Hf:=(dc.1 hq).1;rw[hl]at Hf;have h0:0<aN.length:=by
   rcases Nat.eq_zero_or_pos aN.length with e|e;rw[e]at Hf;omega;exact e
 have hd:q/aN.length<xs.length:=(Nat.div_lt_iff_lt_mul h0).2 Hf;have hm:=Nat.mod_lt q h0;obtain⟨v,hv,hc⟩:=h (q/aN.length) _ (dG hd) (q%aN.length) _ (dG hm);rw[Nat.div_add_mod']at hv;rw[hq,ah]at hv;subst hv;cases K5:aN[q%aN.length]with
 | c k=>
   rw[K5]at hc;rw[show u=k.val _ from hc];exact CK.ox _ _
 | s e k=>
   rw[K5]at hc;obtain⟨_,⟨b,c,rfl,_⟩,_⟩:=hc;rfl
theorem FE.mL{z z':Nat->Prop}{w w':World}{aN:List NK}{cs:List Value}{xs:List (List Int)}(h:FE z w aN cs xs)(hz:∀k,z k->w'.heap[k]?=w.heap[k]?)(Jc:∀k,z k->z' k):FE z' w' aN cs xs:=by
 intro i r hi j nk hj;obtain⟨u,hu,hc⟩:=h i r hi j nk hj;exact⟨u,hu,hc.mL hz Jc⟩
theorem yU(k:CK):∀xs:List (List Int),aB [k] ((xs.map fun r=>r.getD 0 0).map fun x=>[x])=aB [k] xs:=by
 intro xs;induction xs with
 |nil=>rfl
 |cons r rs ih=>simp only[jK,aB,ih];rfl
theorem Hx{w w':World}{B:Nat}{st:St}{z:Nat->Prop}(hm:jS B ae ph st.aX st.rows w)(hg:w.grownBy w' none):∀ {aN:List NK} {ls:List ak} {xs:List cc} {gone:List Nat},nP st aN ls=some (xs,gone)->(∀r∈st.rows,r.id∈gone->r.own=true->r.g = .c true->∀k,(ph.val r.id).ownBlock=some k->z k)->
   ls.length=aN.length/\xs.length=aN.length/\∀j nk,aN[j]?=some nk->∃l,ls[j]?=some l/\rn z w' nk ((xs.map (cc.head ae)).getD j 0) (o8 aN (xs.map (cc.head ae)) (xs.flatMap (cc.tail ae)) j) (l.af ae ph):=by
 intro aN;induction aN with
 | nil=>
   intro ls xs gone h _;cases ls with
   |nil=>simp only[nP,ah,ay]at h;obtain⟨rfl,rfl⟩:=h;exact⟨rfl,rfl,fun j nk hj=>by simp at hj⟩
   |cons l ls=>simp[nP]at h
 | cons nk aN ih=>
   intro ls xs gone h hz;cases ls with
   |nil=>cases nk<;>simp[nP]at h
   | cons l ls=>
     cases nk with
     | c k=>
       simp only[nP]at h;split at h;rename_i x mD gs hx pH;simp only[ah,ay]at h;obtain⟨rfl,rfl⟩:=h;obtain⟨e1,e2,e3⟩:=ih pH hz;refine⟨by simp[e1],by simp[e2],fun j nk hj=>?_⟩;cases j with
       | zero=>
         simp only[jZ,ah]at hj;subst hj;refine⟨l,rfl,?_⟩;show l.af ae ph=k.val _;rw[qA (ae:=ae) (ph:=ph) hx];rfl
       | succ j=>
         obtain⟨l',h1,h2⟩:=e3 j nk (by simpa using hj);refine⟨l',by simpa using h1,?_⟩;simp only[jK,List.getD_cons_succ,o8,List.tail_cons,List.flatMap_cons,cc.tail,mP];exact h2
       cases h
     | s e k=>
       have step:∀(c:cc) (mD:List cc) (gs:List Nat),nP st aN ls=some (mD,gs)->(∀r∈gs,r∈gone)->xs=c::mD->c.head ae=((c.tail ae).length:Int)->rn z w' (.s e k) (c.head ae) (c.tail ae) (l.af ae ph)->
           (l::ls).length=(NK.s e k::aN).length/\xs.length=(NK.s e k::aN).length/\∀j nk,(NK.s e k::aN)[j]?=some nk->∃l',(l::ls)[j]?=some l'/\rn z w' nk ((xs.map (cc.head ae)).getD j 0) (o8 (NK.s e k::aN) (xs.map (cc.head ae)) (xs.flatMap (cc.tail ae)) j) (l'.af ae ph):=by
         intro c mD gs pH hgs hx hh hc;subst hx;obtain⟨e1,e2,e3⟩:=ih pH (fun r hr K6=>hz r hr (hgs _ K6));refine⟨by simp[e1],by simp[e2],fun j nk hj=>?_⟩;cases j with
         | zero=>
           simp only[jZ,ah]at hj;subst hj;refine⟨l,rfl,?_⟩;simp only[jK,List.getD_cons_zero,o8,List.headD_cons,List.flatMap_cons,hh,qm,List.take_left];rw[<- hh];exact hc
         | succ j=>
           obtain⟨l',h1,h2⟩:=e3 j nk (by simpa using hj);refine⟨l',by simpa using h1,?_⟩;simp only[jK,List.getD_cons_succ,o8,List.tail_cons,List.headD_cons,List.flatMap_cons,hh,qm,List.drop_left];exact h2
       unfold nP at h;split at h;rename_i heq;cases heq;rename_i heq _;cases heq;rename_i e' k' abQ r Jh NQ NR;simp only[List.cons.injEq,NK.s.injEq]at NQ NR;obtain⟨⟨rfl,rfl⟩,rfl⟩:=NQ;obtain⟨rfl,rfl⟩:=NR;split at h;rename_i x mD gs hx pH;split at h;rename_i hc;simp only[ao,aC]at hc;obtain⟨⟨⟨bM,ov⟩,he⟩,nA⟩:=hc;simp only[ah,ay]at h;obtain⟨rfl,rfl⟩:=h;obtain⟨bn,rfl⟩:=aY hx;refine step (.s x.lv) mD gs pH (fun r hr=>bl _ hr) rfl (by simp[cc.head,cc.tail]) ?_;have Bt:=(hm.row x bn (by rw[ov];rfl)).reads;rw[nA]at Bt;refine⟨by simp[cc.head,cc.tail],?_,fun _ b hb=>hz x bn (aK ..) bM ov b hb⟩;simp only[cc.tail,ot];rw[yU];exact Bt.grown hg (fun _ _ _=>by simp);cases h;cases h;rename_i e' k' abQ Jh NQ NR;simp only[List.cons.injEq,NK.s.injEq]at NQ NR;obtain⟨⟨rfl,rfl⟩,rfl⟩:=NQ;obtain⟨rfl,rfl⟩:=NR;split at h;rename_i mD gs pH;simp only[ah,ay]at h;obtain⟨rfl,rfl⟩:=h;refine step .nil mD gs pH (fun r hr=>hr) rfl (by simp[cc.head,cc.tail]) ⟨rfl,⟨none,0,rfl,⟨Nat.zero_le _,Nat.zero_le _⟩,fun _=>⟨rfl,rfl⟩,fun j u hj=>?_⟩,fun cQ=>absurd rfl cQ⟩;simp[cc.tail,aB]at hj;cases h;cases h
theorem vM{w w':World}{B:Nat}{st:St}{z:Nat->Prop}(hm:jS B ae ph st.aX st.rows w)(hg:w.grownBy w' none){aN:List NK}:∀ {n i:Nat} {ps:List (Nat×V1)} {rows:List (List cc)} {gone:List Nat},lS st aN n i ps=some (rows,gone)->(∀r∈st.rows,r.id∈gone->r.own=true->r.g = .c true->∀k,(ph.val r.id).ownBlock=some k->z k)->
   ∃ls,kn aN.length n i ps=some ls/\rows.length=n/\FE z w' aN (ls.map (ak.af ae ph)) (rows.map fun r=>r.map (cc.head ae)++r.flatMap (cc.tail ae)):=by
 intro n;induction n with
 | zero=>
   intro i ps rows gone h _;cases ps with
   | nil=>
     simp only[lS,ah,ay]at h;obtain⟨rfl,rfl⟩:=h;exact⟨[],rfl,rfl,fun i r hi=>by simp at hi⟩
   |cons p ps=>simp[lS]at h
 | succ n ih=>
   intro i ps rows gone h hz;cases ps with
   |nil=>simp[lS]at h
   | cons p ps=>
     obtain⟨j,v⟩:=p;simp only[lS]at h;split at h;rename_i DK;subst DK;split at h;rename_i r g rs gs hr vz;simp only[ah,ay]at h;obtain⟨rfl,rfl⟩:=h;obtain⟨e1,e2,e3⟩:=Hx (z:=z) hm hg hr (fun r hr K6=>hz r hr (yV _ K6));obtain⟨ls,f1,f2,f3⟩:=ih vz (fun r hr K6=>hz r hr (BJ _ K6));refine⟨v.leaves++ls,by simp[kn,e1,f1],by simp[f2],?_⟩;have h1:FE z w' aN (v.leaves.map (ak.af ae ph)) [r.map (cc.head ae)++r.flatMap (cc.tail ae)]:=by
       intro i' r' DO j nk hj;cases i' with
       | zero=>
         simp only[jZ,ah]at DO;subst DO;obtain⟨l,h1,h2⟩:=e3 j nk hj;have He:=(dc.1 hj).1;refine⟨l.af ae ph,by simp[h1],?_⟩;have hl:(r.map (cc.head ae)).length=aN.length:=by simp[e2]
         have a1:(r.map (cc.head ae)++r.flatMap (cc.tail ae)).getD j 0=(r.map (cc.head ae)).getD j 0:=by
           simp only[cq];rw[mJ (by omega)]
         have a2:ew aN (r.map (cc.head ae)++r.flatMap (cc.tail ae)) j=o8 aN (r.map (cc.head ae)) (r.flatMap (cc.tail ae)) j:=by
           unfold ew;rw[List.take_left' hl,List.drop_left' hl]
         rw[a1,a2];exact h2
       |succ i'=>simp at DO
     have:=h1.append (by simp[e1]) f3;simpa using this;cases h;cases h
theorem K7{Γ:bS}{w0 w:World}{st bc:St}{a:Act}{o:Oper}{t:TypeId}{n:Nat}{parts:Array (Nat×Operand)}{e:TypeId}{ps:List (Nat×V1)}{aN:List NK}{rows:List (List cc)}{gone:List Nat}{key:Nat}{dm:List Ev}{k:az->Prop}
   (hs:Sat w0 ae ph st a w) (ho:o.op = .buildSlice t n parts) (hu:P.underlying t=some (.slice e)) (Fa:im st (.c true) parts.toList=some ps) (hz:((P.info? e).bind (·.zero)).isSome=true)
   (kU:n*aN.length<=16777216) (hc:P.cellsOf e=aN.length) (gT:lS st aN n 0 ps=some (rows,gone)) (h:BK st key e aN [] (.BL rows) (st.rows.filter fun r=>!gone.contains r.id) st.a8 o.dst=some (dm,bc)) (hk:aO Γ dm k ae) :
   ou Γ P w0 ae ph st bc o a w k:=by
 unfold BK at h;split at h;rename_i nO;simp only[ao,aC]at nO;obtain⟨aW,h0⟩:=nO;simp only[ah,ay]at h;obtain⟨rfl,rfl⟩:=h;obtain⟨N,hN⟩:∃N:Nat->Prop,N=fun k=>∃r∈st.rows,r.id∈gone/\r.own=true/\r.g = .c true/\(ph.val r.id).ownBlock=some k:=⟨_,rfl⟩;have hNz:∀k,N k->w0.heap.size<=k/\k<w.heap.size:=fun k hk=>by
   rw[hN]at hk;obtain⟨r,hr,_,Jn,NS,hb⟩:=hk;have bj:=(hs.mem.row r hr (by rw[NS];rfl)).2;rw[if_pos Jn]at bj;exact bj.lt k hb
 obtain⟨ls,vx,hrl,_⟩:=vM (z:=fun _=>True) (ae:=ae) (ph:=ph) hs.mem (cm w) gT (fun _ _ _ _ _ _ _=>trivial);obtain⟨cF,hll⟩:=FF (P:=P) (w:=w) (a:=a) hu hs.tmps cj Fa h0 hz kU hc vx;have il:w.grownBy (w.alloc (.cells (ls.map (ak.af ae ph)).toArray e)) none:=World.grownBy_alloc w _ none;obtain⟨Jh,TX,_,jn⟩:=vM (z:=fun k=>(ph.z k\/N k)/\w0.heap.size<=k) (ae:=ae) (ph:=ph) hs.mem il gT (fun r hr K6 Jn NS k hb=>by
   have:N k:=by rw[hN];exact⟨r,hr,K6,Jn,NS,hb⟩
   exact⟨.inr this,(hNz k this).1⟩)
 rw[vx,ah]at TX;subst TX;obtain⟨xs,pH⟩:∃xs,xs=rows.map fun r=>r.map (cc.head ae)++r.flatMap (cc.tail ae):=⟨_,rfl⟩;rw[<- pH]at jn;have pC:xs.length=n:=by rw[pH,ot,hrl]
 have cY:k (ae.set key (.l xs)):=by rw[pH];exact hk
 have iq:n<=maxLen:=by
   have:n<=n*aN.length:=Nat.le_mul_of_pos_right n h0;unfold maxLen;omega
 have bM:(w.alloc (.cells (ls.map (ak.af ae ph)).toArray e)).ownsRow w0.heap.size e aN.length (.slice (some ⟨w.heap.size,0,none⟩) n n) xs.length (ls.map (ak.af ae ph)):=by
   refine⟨by rw[ot,hll,pC],.inr ⟨w.heap.size,n,(ls.map (ak.af ae ph)).toArray,by rw[pC],hs.below.size,heap_alloc_new w _,by omega,iq,by simp[hll],?_⟩⟩;simp only[Ds];exact pI (by rw[ot,hll,pC];exact fu _)
 have si:∀q∈st.rows.filter (fun r=>!gone.contains r.id),q∈st.rows/\q.id∉gone:=fun q hq=>by
   have:=jA.1 hq;exact⟨this.1,by simpa using this.2⟩
 have eN:=zR (ae:=ae) (ph:=ph) (dst:=o.dst) (key:=key) (e:=e) (aN:=aN) (xs:=xs) (rows:=st.rows.filter fun r=>!gone.contains r.id) (a8:=st.a8) (sl:=(some ⟨w.heap.size,0,none⟩,n,n)) (row:=none) (N:=N) hs aW h0 (fun q hq=>(si q hq).1) (fun _ h=>h) il (fun k hk=>by cases hk)
   (fun b _=>by simp) (fun r _ _ k _=>by simp) (fun k hk=>by
     have cJ:=(hNz k hk).2;rw[hN]at hk;obtain⟨r,hr,K6,Jn,NS,hb⟩:=hk;have lJ:r.g.af ae=true:=by rw[NS];rfl
     obtain⟨⟨_,_,a1⟩,a2,a3⟩:=nC (B:=0) hs hr Jn lJ hb;exact⟨cJ,fun b nB e=>a2 b nB (by rw[e]),fun q hq KW hf=>a3 q (si q hq).1 (fun e=>(si q hq).2 (by rw[e];exact K6)) KW k hf rfl,a1,by simp⟩) ⟨_,bM,jn⟩ (.inr (.inl rfl))
 have hW:rM st ph o.op=none:=by simp[ho,rM]
 refine⟨.value (.slice (some ⟨w.heap.size,0,none⟩) n n),_,_,_,_,?_,rfl,by rw[hW];exact eN,cY⟩;simp only[execOp,ho,eI,cF,eH,fK];cases h
theorem vN{Γ:bS}{w0 w:World}{st bc:St}{a:Act}{o:Oper}{t e:TypeId}{x y:Operand}{key room:Nat}{dm:List Ev}{k:az->Prop}{v:Value}{xs:List (List Int)}{cs:List Value}{rb:dX}{a8:List dX}{ne:BE}{op:cU}
   (hs:Sat w0 ae ph st a w) (ho:o.op = .call {callee:=.builtin .append,args:=#[x,y],argTypes:=#[t,t] }) (hu:P.underlying t=some (.slice e)) (hr:lu P e=some room)
   (hx:a.eval x=v) (hy:bA st (.c true) y=some (.s rb.id)) (BH:rb∈st.a8) (NJ:rb.own=true) (pM:P.cellsOf e=rb.aN.length)
   (hv:w.ownsRow w0.heap.size e rb.aN.length v xs.length cs) (jn:FE (fun k=>ph.z k/\w0.heap.size<=k) w rb.aN cs xs) (hW:rM st ph o.op=v.ownBlock) (yc:∀n∈a8,n∈st.a8)
   (X7:∀k,v.ownBlock=some k->¬ ph.z k/\(∀n∈a8,n.own=true->(ph.val n.id).ownBlock≠some k)/\(∀b∈st.aX,ph.r b.id≠k)/\∀r∈st.rows,r.g.af ae=true->r.bU ae ph≠some k)
   (mQ:op.af ae=xs++(ae rb.lv).list) (cQ:ne.af ae=true->xs.length+(ae rb.lv).list.length<=room)
   (h:BK st key e rb.aN [.aG ne] op st.rows a8 o.dst=some (dm,bc)) (hk:aO Γ dm k ae) :
   ou Γ P w0 ae ph st bc o a w k:=by
 unfold BK at h;split at h;rename_i nO;simp only[ao,aC]at nO;obtain⟨aW,h0⟩:=nO;simp only[ah,ay]at h;obtain⟨rfl,rfl⟩:=h;obtain⟨hn,hk⟩:=jo (es:=[.bW key op]) hk;have cY:k (ae.set key (.l (xs++(ae rb.lv).list))):=by rw[<- mQ];exact hk
 obtain⟨DM,_,csb,Wy,TY⟩:=hs.nest.own BH NJ;have ey:=aA hy cj hs.tmps;simp only[ak.af]at ey;have TY:FE (fun k=>ph.z k/\w0.heap.size<=k) w rb.aN csb (ae rb.lv).list:=TY;have hlb:=Wy.1;obtain⟨sl,w',e1,e2,e3,e5⟩:=sr (ty:=o.type) hu hr pM hv (oW Wy) hlb (TY.TW hlb) (cQ hn) hs.below.size;rw[<- eY]at e2;have hzw:∀k,(ph.z k/\w0.heap.size<=k)->w'.heap[k]?=w.heap[k]? :=fun k hk=>e3.block k (hs.nest.lt k hk.1) (fun e=>(X7 k e.symm).1 hk.1);have hcc:=((jn.append hv.1 TY).mL (z':=fun k=>(ph.z k\/False)/\w0.heap.size<=k) hzw (fun k hk=>⟨.inl hk.1,hk.2⟩));have eN:=zR (ae:=ae) (ph:=ph) (dst:=o.dst) (key:=key) (e:=e) (aN:=rb.aN) (rows:=st.rows) (a8:=a8) (sl:=sl) (row:=v.ownBlock) (N:=fun _=>False) hs aW h0 (fun _ h=>h) yc e3 (fun k hk=>⟨(hv.lt k hk).1,(X7 k hk).1,(X7 k hk).2.1⟩)
   (fun b hb e=>(X7 _ e).2.2.1 b hb rfl) (fun r hr hr1 k hk e=>(X7 _ e).2.2.2 r hr hr1 hk) (fun k hk=>hk.elim) ⟨_,e2,hcc⟩ (by
     rcases e5 with e5|e5;exact .inl e5;exact .inr (.inl e5))
 refine⟨.value (.slice sl.1 sl.2.1 sl.2.2),w',_,_,_,?_,rfl,by rw[hW];exact eN,cY⟩;simp only[execOp,ho,resolve,invoke,builtin,eI,fK,eH,List.map_toArray,jK,nN,hx,ey,e1];cases h
theorem K8{w:World}{B:Nat}{e:TypeId}{sz:Nat}{base:Option Addr}{n cap m:Nat}{cs:List Value}(h:w.ownsRow B e sz (.slice base n cap) n cs)(hm:m<=n) :
   w.ownsRow B e sz (.slice base m cap) m (cs.take (m*sz)):=by
 have hle:m*sz<=n*sz:=xf _ hm;refine⟨by rw[ua,h.1];omega,?_⟩;rcases h.2 with⟨e1,e2⟩|⟨g,pF,cur,e1,hg,hh,uI,KX,jn,sm⟩;simp only[Value.slice.injEq]at e1;obtain⟨rfl,h0,rfl⟩:=e1;have:m=0:=by omega
 subst this;exact .inl ⟨rfl,rfl⟩;simp only[Value.slice.injEq,true_and]at e1;obtain⟨rfl,rfl⟩:=e1;refine .inr ⟨g,cap,cur,rfl,hg,hh,by omega,KX,jn,?_⟩;rw[<- sm,List.take_take];congr 1;omega
theorem Hy{Γ:bS}{w0 w:World}{st bc:St}{a:Act}{o:Oper}{t e:TypeId}{x h':Operand}{key:Nat}{dm:List Ev}{k:az->Prop}{ra:dX}{kd:IntKind}{n:IE}
   (hs:Sat w0 ae ph st a w) (ho:o.op = .slice t x none (some h') none) (hu:P.underlying t=some (.slice e)) (hx:bA st (.c true) x=some (.s ra.id)) (hh:bA st (.c true) h'=some (.i kd n))
   (bn:ra∈st.a8) (bM:ra.own=true) (he:ra.e=e) (pM:P.cellsOf e=ra.aN.length)
   (h:BK st key e ra.aN [.aG (BE.le (.c 0) n).mk,.aG (BE.le n (.len ra.lv)).mk] (.take ra.lv n) st.rows (st.a8.filter fun r=>decide (r.id≠ra.id)) o.dst=some (dm,bc)) (hk:aO Γ dm k ae) :
   ou Γ P w0 ae ph st bc o a w k:=by
 unfold BK at h;split at h;rename_i nO;simp only[ao,aC]at nO;obtain⟨aW,K5⟩:=nO;simp only[ah,ay]at h;obtain⟨rfl,rfl⟩:=h;obtain⟨h0,hk⟩:=jo (es:=[.aG (BE.le n (.len ra.lv)).mk,.bW key (.take ra.lv n)]) hk;obtain⟨h1,hk⟩:=jo (es:=[.bW key (.take ra.lv n)]) hk;have h0:=bY h0;have h1:=bY h1;simp only[IE.af]at h0 h1;have cY:k (ae.set key (.l ((ae ra.lv).list.take (n.af ae).toNat))):=hk;obtain⟨ov,_,cs,cW,jn⟩:=hs.nest.own bn bM;have jn:FE (fun k=>ph.z k/\w0.heap.size<=k) w ra.aN cs (ae ra.lv).list:=jn;rw[he]at cW;have ex:=aA hx cj hs.tmps;have eh:=aA hh cj hs.tmps;simp only[ak.af]at ex eh;obtain⟨base,cap,hv,uI⟩:∃base cap,ph.val ra.id = .slice base (ae ra.lv).list.length cap/\(ae ra.lv).list.length<=cap:=by
   rcases cW.2 with⟨e1,e2⟩|⟨g,pF,cur,e1,_,_,uI,_⟩;exact⟨none,0,by rw[e1,e2],by omega⟩;exact⟨_,pF,e1,uI⟩
 rw[hv]at cW;have hm:(n.af ae).toNat<=(ae ra.lv).list.length:=by omega
 have htk:=K8 cW hm;have hl:((ae ra.lv).list.take (n.af ae).toNat).length=(n.af ae).toNat:=by rw[ua];omega
 have NJ:∀m m':Nat,(Value.slice base m cap).ownBlock=(Value.slice base m' cap).ownBlock:=fun _ _=>by cases base<;>rfl
 obtain⟨_,NT⟩:=hs.nest.oz ra bn bM;have si:∀q∈st.a8.filter (fun r=>decide (r.id≠ra.id)),q∈st.a8/\q.id≠ra.id:=fun q hq=>by
   have:=jA.1 hq;exact⟨this.1,by simpa using this.2⟩
 have hcc:=(jn.take (n.af ae).toNat).mL (z':=fun k=>(ph.z k\/False)/\w0.heap.size<=k) (fun _ _=>rfl) (fun k hk=>⟨.inl hk.1,hk.2⟩);have eN:=zR (ae:=ae) (ph:=ph) (dst:=o.dst) (key:=key) (e:=e) (aN:=ra.aN) (rows:=st.rows) (a8:=st.a8.filter fun r=>decide (r.id≠ra.id)) (sl:=(base,(n.af ae).toNat,cap)) (row:=(Value.slice base (ae ra.lv).list.length cap).ownBlock) (N:=fun _=>False) hs aW K5 (fun _ h=>h) (fun q hq=>(si q hq).1) (iZ (cm w))
   (fun k hk=>⟨(cW.lt k hk).1,(NT k (by rw[hv,hk])).1,fun q hq ql=>(NT k (by rw[hv,hk])).2.2.2 q (si q hq).1 ql (si q hq).2⟩)
   (fun b hb e=>(NT _ (by rw[hv,e])).2.1 b hb rfl) (fun r hr hr1 k hk e=>(NT _ (by rw[hv,e])).2.2.1 r hr hr1 hk) (fun k hk=>hk.elim) ⟨_,by rw[hl];exact htk,hcc⟩ (.inl (NJ _ _))
 refine⟨.value (.slice base (n.af ae).toNat cap),w,_,_,_,?_,rfl,⟨eN.sat,eN.agree,?_,eN.mono,eN.fresh⟩,cY⟩;simp only[execOp,ho,Option.map_none,se,ex,eh,hv,eI,run_sliceAt_slice (P:=P) (w:=w) t _ _ _ _ (by simp[Program.elem,hu]),su hu (by rw[pM];exact K5) h0 h1 uI,eH,fK];rw[ho];exact cm w;cases h
end
section
open Go.RowKit
variable {ae:az}{ph:Ph}{P:Program}
theorem zU{α:Type}{a:Array α}{x:α}(h:a.toList=[x]):a = #[x]:=ke (by simpa using h)
theorem Lj{Γ:bS}{w0 w:World}{st bc:St}{a:Act}{o:Oper}{key:Nat}{dm:List Ev}{k:az->Prop}(hs:Sat w0 ae ph st a w)(h:NW P st key o.dst o.op=some (dm,bc))(hk:aO Γ dm k ae) :
   ou Γ P w0 ae ph st bc o a w k:=by
 obtain⟨op,ho⟩:∃op,op=o.op:=⟨_,rfl⟩;rw[<- ho]at h;unfold NW at h;split at h;rename_i e;split at h;rename_i z hz;refine zP hs (by rw[<- ho];rfl) ?_ h hk;simp only[execOp,<- ho,Instr.alloc,eI,xa (ph:=ph) (ae:=ae) hz,newVar,Go.newRow,run_newObj_alloc,fK,eH,V1.fE];cases h;rename_i e x;split at h;rename_i v hv;refine zP hs (by rw[<- ho];rfl) ?_ h hk;have ex:=cG hv cj hs.tmps;simp only[execOp,<- ho,ex,Instr.box,eI,newVar,Go.newRow,run_newObj_alloc,fK,eH,V1.fE];cases h;rename_i t x y;split at h;rename_i l v hl hv;split at h;rename_i hc;exact Hu hs ho.symm hl hv hc.1 hc.2 h hk;cases h;cases h;rename_i t n c;split at h;rename_i e kd x kd' y hu hn hc;split at h;rename_i room ks z hr Tl hz;split at h;rename_i nO;simp only[ao,aC]at nO;obtain⟨⟨h0,pM⟩,Tq⟩:=nO;split at h;rename_i hxy;subst hxy;exact K4 hs ho.symm hu hn hc hr hz h0 pM Tq h hk;exact zQ hs ho.symm hu hn hc hr hz h0 pM Tq h hk;cases h;cases h;cases h;rename_i t x h';split at h;rename_i e a1 kd n hu hx hh;split at h;rename_i ra zT;obtain⟨bn,rfl⟩:=aY zT;split at h;rename_i hc;simp only[ao,aC]at hc;obtain⟨⟨⟨bM,hg⟩,he⟩,pM⟩:=hc;exact K3 hs ho.symm hu hx hh bn bM hg he pM h hk;cases h;split at h;rename_i ra zT;obtain⟨bn,rfl⟩:=da zT;split at h;rename_i hc;simp only[ao,aC]at hc;obtain⟨⟨bM,he⟩,pM⟩:=hc;exact Hy hs ho.symm hu hx hh bn bM he pM h hk;cases h;cases h;cases h;rename_i args argTypes;split at h;rename_i x y t t' ff zV;have ff:=qD ff;have zV:=qD zV;split at h;rename_i htt;subst htt;subst ff zV;split at h;rename_i e hu;split at h;rename_i room b hr hx hy;split at h;rename_i rb BH;obtain⟨bn,rfl⟩:=aY BH;split at h;rename_i hc;simp only[ao,aC]at hc;obtain⟨⟨hg,he⟩,pM⟩:=hc;have ex:=aA hx cj hs.tmps;refine x9 (v:=.slice none 0 0) (xs:=[]) hs ho.symm hu hr ex hy bn hg pM (World.ownsRow_nil _ _ _ _) ?_ (fun _ h=>h) (fun k hk=>by simp[Value.ownBlock]at hk) (fun _ _=>by simp[Value.ownBlock]) (fun _ _ _ _ _=>by simp[Value.ownBlock]) ?_ ?_ h hk;rw[<- ho];simp[rM,hx,Value.ownBlock];simp[cU.af];intro hn;have:=bY hn;simp only[IE.af]at this;simp;omega;cases h;split at h;rename_i rb BH;obtain⟨bn,rfl⟩:=da BH;split at h;rename_i hc;simp only[ao,aC]at hc;obtain⟨⟨NJ,he⟩,pM⟩:=hc;have ex:=aA hx cj hs.tmps;refine vN (v:=.slice none 0 0) (xs:=[]) (cs:=[]) hs ho.symm hu hr ex hy bn NJ pM (World.ownsRow_nil _ _ _ _) (fun i r hi=>by simp at hi) ?_ (fun _ h=>h) (fun k hk=>by simp[Value.ownBlock]at hk) ?_ ?_ h hk;rw[<- ho];simp[rM,hx,Value.ownBlock];simp[cU.af];intro hn;have:=bY hn;simp only[IE.af]at this;simp;omega;cases h;cases h;rename_i room a1 b hr hx hy;split at h;rename_i ra rb zT BH;obtain⟨sx,rfl⟩:=aY zT;obtain⟨bn,rfl⟩:=aY BH;split at h;rename_i hc;simp only[ao,aC]at hc;obtain⟨⟨⟨⟨⟨Le,DM⟩,hea⟩,heb⟩,nA⟩,pM⟩:=hc;exact zS hs ho.symm hu hr hx hy sx bn Le DM nA pM h hk;cases h;cases h;rename_i room a1 b hr hx hy;split at h;rename_i ra rb zT BH;obtain⟨sx,rfl⟩:=aY zT;obtain⟨bn,rfl⟩:=aY BH;split at h;rename_i hc;simp only[ao,aC]at hc;obtain⟨⟨⟨⟨⟨⟨⟨bM,Le⟩,DM⟩,hea⟩,heb⟩,nA⟩,hab⟩,pM⟩:=hc;have ex:=aA hx cj hs.tmps;simp only[ak.af]at ex;have Hv:ra.g.af ae=true:=by rw[Le];rfl
 have bj:=hs.mem.row ra sx Hv;have cW:=bj.2;rw[if_pos bM,hea]at cW;have eR:ra.bU ae ph=(ph.val ra.id).ownBlock:=by simp[Row.bU,bM]
 rw[nA]at h cW pM;refine x9 (v:=ph.val ra.id) (xs:=(ae ra.lv).list) hs ho.symm hu hr ex hy bn DM pM cW ?_ (fun r hr=>(jA.1 hr).1) (fun k hk=>(nC (B:=0) hs sx bM Hv hk).1.2) (fun b hb e=>hs.mem.br b hb ra sx Hv (by rw[eR,e])) (fun r hr h1 k hk e=>?_) ?_ ?_ h hk;rw[<- ho];simp[rM,hx];have hm:=jA.1 hr;exact hs.mem.rr ra sx r hm.1 (fun e=>by simp[e]at hm) bM Hv h1 k (by rw[eR,e]) hk;rfl;intro hn;have:=bY hn;rw[IE.cn]at this;simp only[IE.af]at this;omega;cases h;split at h;rename_i ra rb zT BH;obtain⟨sx,rfl⟩:=da zT;obtain⟨bn,rfl⟩:=da BH;split at h;rename_i hc;simp only[ao,aC]at hc;obtain⟨⟨⟨⟨⟨⟨hoa,NJ⟩,hea⟩,heb⟩,nA⟩,hab⟩,pM⟩:=hc;have ex:=aA hx cj hs.tmps;simp only[ak.af]at ex;obtain⟨_,_,cs,cW,jn⟩:=hs.nest.own sx hoa;obtain⟨_,NT⟩:=hs.nest.oz ra sx hoa;rw[hea,nA]at cW;rw[nA]at jn h pM;refine vN (v:=ph.val ra.id) (xs:=(ae ra.lv).list) (cs:=cs) hs ho.symm hu hr ex hy bn NJ pM cW jn ?_ (fun r hr=>(jA.1 hr).1) (fun k hk=>⟨(NT k hk).1,fun n hn pP=>(NT k hk).2.2.2 n (jA.1 hn).1 pP (by simpa using(jA.1 hn).2),(NT k hk).2.1,(NT k hk).2.2.1⟩) ?_ ?_ h hk;rw[<- ho];simp[rM,hx];rfl;intro hn;have:=bY hn;rw[IE.cn]at this;simp only[IE.af]at this;omega;cases h;cases h;cases h;cases h;cases h;cases h;cases h;rename_i args argTypes;split at h;rename_i x y t t' ff zV;have ff:=qD ff;have zV:=qD zV;split at h;rename_i htt;subst htt;subst ff zV;split at h;rename_i e a1 b1 hu hx hy;split at h;rename_i ra rb zT BH;obtain⟨sx,rfl⟩:=aY zT;obtain⟨bn,rfl⟩:=aY BH;split at h;rename_i hc;simp only[ao,aC]at hc;obtain⟨⟨⟨⟨⟨⟨⟨bM,Le⟩,DM⟩,nA⟩,hab⟩,pM⟩,hi⟩,aW⟩:=hc;simp only[ah,ay]at h;obtain⟨rfl,rfl⟩:=h;exact Lh hs ho.symm hu hx hy sx bn bM Le DM nA pM hi aW hk;cases h;cases h;cases h;cases h;cases h;rename_i args argTypes;split at h;rename_i x t ff zV;have ff:=zU ff;have zV:=zU zV;subst ff zV;split at h;rename_i e a1 hu hx;split at h;rename_i ra z zT hz;obtain⟨bn,rfl⟩:=aY zT;split at h;rename_i hc;simp only[ao,aC]at hc;obtain⟨⟨⟨⟨⟨bM,Le⟩,pM⟩,hi⟩,Tq⟩,aW⟩:=hc;simp only[ah,ay]at h;obtain⟨rfl,rfl⟩:=h;exact Hz hs ho.symm hu hx bn bM Le pM hz Tq aW hk;cases h;cases h;cases h;cases h;rename_i src La x;split at h;rename_i e bs X' hd hx;split at h;rename_i he;split at h;rename_i hc;simp only[ao,aC]at hc;obtain⟨⟨⟨hi,pM⟩,hlen⟩,aW⟩:=hc;simp only[ah,ay]at h;obtain⟨rfl,rfl⟩:=h;exact K9 hs ho.symm X' hd he hx hlen aW hk;cases h;cases h;cases h;cases h
end
section
open Go.RowKit
variable {ae aq:az}{ph aJ:Ph}{P:Program}
theorem az.bd:∀ {ds:List DV} {ae:az} {k j:Nat},j<k->ae.av k ds j=ae j:=by
 intro ds;induction ds with
 |nil=>intro ae k j _;rfl
 | cons d ds ih=>
   intro ae k j h;rw[az.av,ih (by omega),az.set,if_neg (by omega)]
theorem az.c8:∀ {ds:List DV} {ae:az} {k i:Nat} {d:DV},ds[i]?=some d->ae.av k ds (k+i)=d:=by
 intro ds;induction ds with
 |nil=>intro ae k i d h;simp at h
 | cons x ds ih=>
   intro ae k i d h;cases i with
   | zero=>
     simp only[jZ,ah]at h;subst h;rw[az.av,gP,az.bd (by omega)];simp[az.set]
   | succ i=>
     rw[zy]at h;have:=ih (ae:=ae.set k x) (k:=k+1) h;rw[az.av,show k+(i+1)=k+1+i by omega];exact this
theorem az.fg:∀ {ds:List DV} {ae:az} {k j:Nat},k+ds.length<=j->ae.av k ds j=ae j:=by
 intro ds;induction ds with
 |nil=>intro ae k j _;rfl
 | cons d ds ih=>
   intro ae k j h;simp only[yN]at h;rw[az.av,ih (by omega),az.set,if_neg (by omega)]
abbrev gK:=TypeId->List CK ⊕ List NK->Value->List (List Int)->Prop
def ky(R:gK):CT->Value->DV->Prop
 |.c (.i k),v,.i n=>v = .int k n
 |.c .b,v,.b b=>v = .bool b
 |.c .f,v,.i n=>v = .float .f64 n.toNat
 |.s e ks,v,.l xs=>R e (.inl ks) v xs
 |.n e aN,v,.l xs=>R e (.inr aN) v xs
 |_,_,_=>False
def fitAll(R:gK):List CT->List Value->List DV->Prop
 | [],[],[]=>True
 |c::cs,v::vs,d::ds=>ky R c v d/\fitAll R cs vs ds
 |_,_,_=>False
def rB:Value->Value
 |.slice base _ _=>.pointer base
 |_=>undef
def bZ:List VT->List Value->List Value
 | [],_=>[]
 |.one _::ts,cs=>cs.headD undef::bZ ts cs.tail
 |.agg ks::ts,cs=>.agg (cs.take ks.length).toArray::bZ ts (cs.drop ks.length)
 |.ptr _ _::ts,cs=>rB (cs.headD undef)::bZ ts cs.tail
 |.fn g ks::ts,cs=>.func (.func g) #[] ((cs.take ks.length).map rB).toArray::bZ ts (cs.drop ks.length)
def mo(w:World):gK:=fun _ ks v xs=>match ks with
 |.inl ks=>0<ks.length/\Reads w v xs.length (aB ks xs)
 |.inr aN=>0<aN.length/\rT (fun k=>k<w.heap.size) w aN v xs
def kV(w:World)(B:Nat):gK:=fun e ks v xs=>match ks with
 |.inl ks=>0<ks.length/\w.ownsRow B e ks.length v xs.length (aB ks xs)
 |.inr aN=>0<aN.length/\∃zi:Nat->Prop,(∀k,zi k->B<=k/\k<w.heap.size)/\(∀k,v.ownBlock=some k->¬ zi k)/\Dq zi w B e aN v xs
def gM(bT:List Value):Prop:=∀(i j:Nat) (u v:Value),i≠j->bT[i]?=some u->bT[j]?=some v->∀k,u.ownBlock=some k->v.ownBlock≠some k
def packed:List Value->Value
 | [v]=>v
 |vs=>.tuple vs.toArray
def Ae(w:World)(args:List VT)(vs:List Value)(ds:List DV):Prop:=∃bT,vs=bZ args bT/\fitAll (mo w) (bI args) bT ds
def Af(P:Program)(f:FuncId)(c:dg):Prop:=
 (∀w args,(callFunc f args).run P w = .ok (.enter f args) w)/\
 ∀w vs ds,Ae w c.sig.args vs ds->c.pre ds->Calls P f vs.toArray w (fun e w'=>∃bT gG,e = .returned (packed (bZ c.sig.res bT))/\Below w.heap.size w w'/\
   fitAll (kV w' w.heap.size) (bI c.sig.res) bT gG/\gM bT/\c.rel ds gG)
theorem BO{R:gK}:∀ {cs pO:List CT} {vs Nf:List Value} {ds lz:List DV},fitAll R cs vs ds->fitAll R pO Nf lz->fitAll R (cs++pO) (vs++Nf) (ds++lz):=by
 intro cs;induction cs with
 |nil=>intro pO vs Nf ds lz h h';cases vs<;>cases ds<;>simp_all[fitAll]
 | cons c cs ih=>
   intro pO vs Nf ds lz h h';cases vs with
   |nil=>simp[fitAll]at h
   | cons v vs=>cases ds with
     |nil=>simp[fitAll]at h
     |cons d ds=>exact⟨h.1,ih h.2 h'⟩
theorem nW{R:gK}:∀ {cs:List CT} {vs:List Value} {ds:List DV},fitAll R cs vs ds->vs.length=cs.length/\ds.length=cs.length:=by
 intro cs;induction cs with
 |nil=>intro vs ds h;cases vs<;>cases ds<;>simp_all[fitAll]
 | cons c cs ih=>
   intro vs ds h;cases vs with
   |nil=>simp[fitAll]at h
   | cons v vs=>cases ds with
     |nil=>simp[fitAll]at h
     |cons d ds=>simp[ih h.2]
theorem jM{R:gK}:∀ {cs:List CT} {vs:List Value} {ds:List DV} {i:Nat} {c:CT},fitAll R cs vs ds->cs[i]?=some c->∃v d,vs[i]?=some v/\ds[i]?=some d/\ky R c v d:=by
 intro cs;induction cs with
 |nil=>intro vs ds i c _ h;simp at h
 | cons c cs ih=>
   intro vs ds i c' h hi;cases vs with
   |nil=>simp[fitAll]at h
   | cons v vs=>cases ds with
     |nil=>simp[fitAll]at h
     | cons d ds=>
       cases i with
       |zero=>simp at hi;subst hi;exact⟨v,d,rfl,rfl,h.1⟩
       |succ i=>simpa using ih h.2 (by simpa using hi)
theorem je{R:gK}:∀ {cs:List CT} {vs:List Value} {ds:List DV},fitAll R cs vs ds->kinds cs ds=true:=by
 intro cs;induction cs with
 |nil=>intro vs ds h;cases vs<;>cases ds<;>simp_all[fitAll,kinds]
 | cons c cs ih=>
   intro vs ds h;cases vs with
   |nil=>simp[fitAll]at h
   | cons v vs=>cases ds with
     |nil=>simp[fitAll]at h
     | cons d ds=>
       simp only[kinds,ih h.2,Bool.and_true];have:=h.1;cases c with
       |c k=>cases k<;>cases d<;>simp_all[ky,DV.kind]
       |s e ks=>cases d<;>simp_all[ky,DV.kind]
       |n e aN=>cases d<;>simp_all[ky,DV.kind]
theorem nX(G:BE):∀(cs pO:List CT) (id:Nat),aH G id (cs++pO)=((aH G id cs).1++(aH G (id+cs.length) pO).1,(aH G id cs).2++(aH G (id+cs.length) pO).2):=by
 intro cs;induction cs with
 |nil=>intro pO id;simp[aH]
 | cons c cs ih=>
   intro pO id;simp only[qt,aH,ih,yN,List.append_assoc];rw[show id+1+cs.length=id+(cs.length+1)by omega]
theorem y5(G:BE):∀(cs:List CT) (id:Nat),(aH G id cs).1.length=cs.length:=by
 intro cs;induction cs with
 |nil=>intro id;rfl
 |cons c cs ih=>intro id;simp[aH,ih]
theorem Ag(G:BE):∀(cs:List (TypeId×IntKind)) (id:Nat),(iu G id cs).2=(aH G id (cs.map fun c=>CT.s c.1 [.i c.2])).2:=by
 intro cs;induction cs with
 |nil=>intro id;rfl
 |cons c cs ih=>intro id;simp[iu,aH,cP,ih]
theorem BP(G:BE):∀(cs:List (TypeId×IntKind)) (id:Nat),(iu G id cs).1.map (mc ph)=((aH G id (cs.map fun c=>CT.s c.1 [.i c.2])).1.map (ak.af ae ph)).map rB:=by
 intro cs;induction cs with
 |nil=>intro id;rfl
 |cons c cs ih=>intro id;simp[iu,aH,cP,ih (id+1),mc,ak.af,Ph.val,rB]
theorem BQ{q:Nat->Bool}(G:BE):∀(cs:List (TypeId×IntKind)) (id:Nat),(∀i,i<cs.length->q (id+i)=true)->((iu G id cs).1.all fun c=>q c.2)=true:=by
 intro cs;induction cs with
 |nil=>intro id _;rfl
 | cons c cs ih=>
   intro id h;have h0:q id=true:=by have:=h 0 (by simp);simpa using this
   simp only[iu,List.all_cons,h0,Bool.true_and];exact ih (id+1) fun i hi=>by rw[show id+1+i=id+(i+1)by omega];exact h (i+1) (by simpa using hi)
theorem eU(G:BE):∀(ts:List VT) (id:Nat),(cd G id ts).2=(aH G id (bI ts)).2:=by
 intro ts;induction ts with
 |nil=>intro id;rfl
 | cons t ts ih=>
   intro id;have e:bI (t::ts)=t.bI++bI ts:=by simp[bI]
   rw[e,nX];simp only[cd,ih];congr 1;cases t with
   |one c=>simp[jH,VT.bI,aH]
   |agg cs=>simp[jH,VT.bI]
   |ptr e k=>simp[jH,VT.bI,aH,cP]
   |fn g cs=>exact Ag G cs id
theorem qL(G:BE):∀(ts:List VT) (id:Nat) (bT:List Value),(aH G id (bI ts)).1.map (ak.af ae ph)=bT->(cd G id ts).1.map (V1.af ae ph)=bZ ts bT:=by
 intro ts;induction ts with
 |nil=>intro id bT _;rfl
 | cons t ts ih=>
   intro id bT h;have e:bI (t::ts)=t.bI++bI ts:=by simp[bI]
   rw[e,nX,ml]at h;subst h;have hl:(aH G id t.bI).1.length=t.bI.length:=y5 G _ _;simp only[cd,jK];rw[ih (id+t.bI.length) _ rfl];cases t with
   |one c=>simp[jH,VT.bI,aH,bZ,V1.af]
   | ptr e k=>
     simp only[jH,VT.bI,aH,cP,bZ,V1.af,jK,nN,qt,mP,List.headD_cons,List.tail_cons,ak.af,Ph.val,rB,IE.af];congr 1;cases(ph.v id).1 with
     |none=>rfl
     |some a=>simp[Addr.add_zero']
   | fn g cs=>
     simp only[VT.bI,ot]at hl;simp only[jH,VT.bI,bZ,V1.af,ak.af,BP (ae:=ae) G cs id];rw[DL (by simp[hl]),pI (by simp[hl]),Ht (by simp[hl]),vK (by simp[hl])];simp
   | agg cs=>
     simp only[VT.bI]at hl;simp only[jH,VT.bI,bZ,V1.af];rw[DL (by simp[hl]),pI (by simp[hl]),Ht (by simp[hl]),vK (by simp[hl])];simp
theorem vb{R:gK}(own:Bool)(G:BE):∀(cs:List CT) (id:Nat) (bT:List Value) (gG:List DV),fitAll R cs bT gG->(∀(i:Nat) (d:DV),gG[i]?=some d->ae (id+i)=d)->
   (∀(i:Nat) (v:Value),bT[i]?=some v->∀e ks,(cs[i]?=some (.s e ks)\/∃aN,cs[i]?=some (.n e aN))->ph.val (id+i)=v)->
   (aH G id cs).1.map (ak.af ae ph)=bT/\(∀r∈(aH G id cs).2,∃i:Nat,i<cs.length/\r=⟨id+i,r.e,r.ks,id+i,true,G⟩/\bT[i]?=some (ph.val r.id)/\R r.e (.inl r.ks) (ph.val r.id) (ae r.lv).list)/\
     (∀n∈ei own G id cs,∃i:Nat,i<cs.length/\n=⟨id+i,n.e,n.aN,id+i,G,own⟩/\bT[i]?=some (ph.val n.id)/\R n.e (.inr n.aN) (ph.val n.id) (ae n.lv).list/\cs[i]?=some (.n n.e n.aN)):=by
 intro cs;induction cs with
 |nil=>intro id bT gG h _ _;cases bT<;>cases gG<;>simp_all[fitAll,aH,ei]
 | cons c cs ih=>
   intro id bT gG h he hp;cases bT with
   |nil=>simp[fitAll]at h
   | cons v vs=>cases gG with
     |nil=>simp[fitAll]at h
     | cons d ds=>
       obtain⟨e1,e2,e4⟩:=ih (id+1) vs ds h.2 (fun i d hd=>by rw[show id+1+i=id+(i+1)by omega];exact he (i+1) d (by simpa using hd))
         (fun i v hv e ks hc=>by rw[show id+1+i=id+(i+1)by omega];exact hp (i+1) v (by simpa using hv) e ks (by simpa using hc))
       have Bv:ae id=d:=by have:=he 0 d rfl;simpa using this
       have hf:=h.1;have zC:∀r∈(aH G (id+1) cs).2,∃i:Nat,i<(c::cs).length/\r=⟨id+i,r.e,r.ks,id+i,true,G⟩/\(v::vs)[i]?=some (ph.val r.id)/\R r.e (.inl r.ks) (ph.val r.id) (ae r.lv).list:=fun r hr=>by
         obtain⟨i,h1,h2,h3,h4⟩:=e2 r hr;refine⟨i+1,by simpa using h1,?_,by simpa using h3,h4⟩;rw[show id+(i+1)=id+1+i by omega];exact h2
       have HF:∀n∈ei own G (id+1) cs,∃i:Nat,i<(c::cs).length/\n=⟨id+i,n.e,n.aN,id+i,G,own⟩/\(v::vs)[i]?=some (ph.val n.id)/\R n.e (.inr n.aN) (ph.val n.id) (ae n.lv).list/\(c::cs)[i]?=some (.n n.e n.aN):=fun n hn=>by
         obtain⟨i,h1,h2,h3,h4,h5⟩:=e4 n hn;refine⟨i+1,by simpa using h1,?_,by simpa using h3,h4,by simpa using h5⟩;rw[show id+(i+1)=id+1+i by omega];exact h2
       cases c with
       | n e aN=>
         have hv:ph.val id=v:=by have:=hp 0 v rfl e [] (.inr ⟨aN,rfl⟩);simpa using this
         refine⟨?_,fun r hr=>zC r (by simpa[aH,cP]using hr),fun n hn=>?_⟩;simp only[aH,jK,e1,cP,ak.af,hv]
         . simp only[ei,bD]at hn;rcases hn with rfl|hn
           . refine⟨0,by simp,by simp,by simp[hv],?_,by simp⟩;simp only[hv,Bv];cases d<;>simp_all[ky,DV.list]
           exact HF n hn
       | c k=>
         refine⟨?_,?_,fun n hn=>HF n (by simpa[ei]using hn)⟩
         . simp only[aH,jK,e1];congr 1;cases k<;>cases d<;>simp_all[ky,cP,ak.af,IE.af,BE.af,DV.int,DV.bool]
         intro r hr;have:r∈(aH G (id+1) cs).2:=by cases k<;>simpa[aH,cP]using hr
         exact zC r this
       | s e ks=>
         have hv:ph.val id=v:=by have:=hp 0 v rfl e ks (.inl rfl);simpa using this
         refine⟨?_,?_,fun n hn=>HF n (by simpa[ei]using hn)⟩;simp only[aH,jK,e1,cP,ak.af,hv]
         . intro r hr;simp only[aH,cP,qt,mP,bD]at hr;rcases hr with rfl|hr
           . refine⟨0,by simp,by simp,by simp[hv],?_⟩;simp only[hv,Bv];cases d<;>simp_all[ky,DV.list]
           exact zC r hr
theorem ie{q:Nat->Bool}(G:BE)(hG:G.all q=true):∀(cs:List CT) (id:Nat),(∀i,i<cs.length->q (id+i)=true)->bq q (aH G id cs).1=true/\∀r∈(aH G id cs).2,r.all q=true:=by
 intro cs;induction cs with
 |nil=>intro id _;simp[aH,bq]
 | cons c cs ih=>
   intro id h;obtain⟨e1,e2⟩:=ih (id+1) (fun i hi=>by rw[show id+1+i=id+(i+1)by omega];exact h (i+1) (by simpa using hi));have h0:q id=true:=by have:=h 0 (by simp);simpa using this
   cases c with
   |c k=>cases k<;>simp_all[aH,cP,bq,ak.all,IE.all,BE.all]
   |n e aN=>simp_all[aH,cP,bq,ak.all]
   | s e ks=>
     refine⟨by simp_all[aH,cP,bq,ak.all],?_⟩;intro r hr;simp only[aH,cP,qt,mP,bD]at hr;rcases hr with rfl|hr;simp[Row.all,h0,hG];exact e2 r hr
theorem vd{q:Nat->Bool}(own:Bool)(G:BE)(hG:G.all q=true):∀(cs:List CT) (id:Nat),(∀i,i<cs.length->q (id+i)=true)->∀n∈ei own G id cs,n.all q=true:=by
 intro cs;induction cs with
 |nil=>intro id _ n hn;simp[ei]at hn
 | cons c cs ih=>
   intro id h n hn;have hr:=ih (id+1) (fun i hi=>by rw[show id+1+i=id+(i+1)by omega];exact h (i+1) (by simpa using hi)) n;have h0:q id=true:=by have:=h 0 (by simp);simpa using this
   cases c with
   |c k=>exact hr (by simpa[ei]using hn)
   |s e ks=>exact hr (by simpa[ei]using hn)
   | n e aN=>
     simp only[ei,bD]at hn;rcases hn with rfl|hn;simp[dX.all,h0,hG];exact hr hn
theorem mU{q:Nat->Bool}(G:BE)(hG:G.all q=true):∀(ts:List VT) (id:Nat),(∀i,i<(bI ts).length->q (id+i)=true)->dF q (cd G id ts).1=true:=by
 intro ts;induction ts with
 |nil=>intro id _;rfl
 | cons t ts ih=>
   intro id h;have e:bI (t::ts)=t.bI++bI ts:=by simp[bI]
   rw[e,eY]at h;have h1:=(ie G hG t.bI id (fun i hi=>h i (by omega))).1;have h2:=ih (id+t.bI.length) (fun i hi=>by rw[Nat.add_assoc];exact h _ (by omega));simp only[cd,dF,h2,Bool.and_true];cases t with
   |one c=>simpa[jH,VT.bI,aH,bq,V1.all]using h1
   |ptr e k=>simpa[jH,VT.bI,aH,cP,bq,V1.all,ak.all,IE.all]using h1
   | fn g cs=>
     simp only[jH,V1.all,ak.all];exact BQ G cs id fun i hi=>h i (by simp[VT.bI];omega)
   |agg cs=>simpa[jH,VT.bI,V1.all]using h1
end
section
open Go.RowKit
variable {ae aq:az}{ph aJ:Ph}{P:Program}
def Ph.dI(ph:Ph)(key:Nat)(bT:List Value):Ph:=
 { ph with v:=fun k=>if key<=k then(match bT[k-key]? with
   |some (.slice a b c)=>(a,b,c)
   |_=>ph.v k)else ph.v k}
theorem tI{ph:Ph}{key i:Nat}{bT:List Value}{a:Option Addr}{b c:Nat}(h:bT[i]?=some (.slice a b c)):(ph.dI key bT).val (key+i) = .slice a b c:=by
 simp[Ph.val,Ph.dI,h]
theorem qM{w:World}{B B':Nat}{e:TypeId}{sz:Nat}{v:Value}{n:Nat}{xs:List Value}(h:w.ownsRow B' e sz v n xs)(hb:B<=B'):w.ownsRow B e sz v n xs:=by
 obtain⟨h1,h2|⟨g,cap,cur,e1,e2,e3⟩⟩:=h;exact⟨h1,.inl h2⟩;exact⟨h1,.inr ⟨g,cap,cur,e1,kL hb e2,e3⟩⟩
theorem tJ{vs:List V1}:(pQ vs).af ae ph=packed (vs.map (V1.af ae ph)):=by
 match vs with
 | []=>rfl
 | [v]=>rfl
 |_::_::_=>rfl
theorem pU{q:Nat->Bool}{G:BE}{vs:List V1}(hG:G.all q=true)(h:dF q vs=true):(⟨G,pQ vs⟩:aT).all q=true:=by
 match vs with
 | []=>simp[aT.all,hG,pQ,SV.all,dF]
 | [v]=>simpa[aT.all,hG,pQ,SV.all,dF]using h
 |_::_::_=>simpa[aT.all,hG,pQ,SV.all]using h
def Ph.mq(ph:Ph)(cs:List CT)(own:Bool)(bT:List Value)(lo hi:Nat):Ph:={ph with z:=fun k=>ph.z k\/(cs.any CT.wM=true/\lo<=k/\k<hi/\(own=true->∀v∈bT,v.ownBlock≠some k)) }
theorem jf{r:dX}:∀ {rs l:List dX},r∈rA rs l↔r∈rs\/r∈l:=by
 intro rs;induction rs with
 |nil=>intro l;simp[rA]
 | cons x rs ih=>
   intro l;show r∈uT x (rA rs l)↔_;rw[ia,ih,bD,or_assoc]
theorem BR(G:BE):∀(cs:List CT) (id:Nat),∀r∈(aH G id cs).2,cs.any CT.isS=true:=by
 intro cs;induction cs with
 |nil=>intro id r hr;simp[aH]at hr
 | cons c cs ih=>
   intro id r hr;cases c with
   |s e ks=>simp[CT.isS]
   |c k=>simp only[List.any_cons,ih (id+1) r (by cases k<;>simpa[aH,cP]using hr),Bool.or_true]
   |n e aN=>simp only[List.any_cons,ih (id+1) r (by simpa[aH,cP]using hr),Bool.or_true]
theorem pV(own:Bool)(G:BE):∀(cs:List CT) (id:Nat),∀r∈ei own G id cs,r.g=G/\r.own=own:=by
 intro cs;induction cs with
 |nil=>intro id r hr;simp[ei]at hr
 | cons c cs ih=>
   intro id r hr;cases c with
   |c k=>exact ih _ r (by simpa[ei]using hr)
   |s e ks=>exact ih _ r (by simpa[ei]using hr)
   | n e aN=>
     simp only[ei,bD]at hr;rcases hr with rfl|hr;exact⟨rfl,rfl⟩;exact ih _ r hr
theorem N7:∀ {cs:List CT} {i j:Nat} {c d:CT},cs.countP CT.wM<=1->cs[i]?=some c->cs[j]?=some d->c.wM=true->d.wM=true->i=j:=by
 intro cs;induction cs with
 |nil=>intro i j c d _ h;simp at h
 | cons x cs ih=>
   intro i j c d hc hi hj h1 h2;have WD:∀ {j:Nat} {d:CT},x.wM=true->cs[j]?=some d->d.wM=true->False:=fun hx hj hd=>by
     have:0<cs.countP CT.wM:=List.countP_pos_iff.2 ⟨_,rN hj,hd⟩;rw[List.countP_cons_of_pos hx]at hc;omega
   cases i with
   | zero=>
     simp only[jZ,ah]at hi;cases j with
     |zero=>rfl
     |succ j=>exact(WD (by rw[hi];exact h1) (by simpa using hj) h2).elim
   | succ i=>
     cases j with
     | zero=>
       simp only[jZ,ah]at hj;exact(WD (by rw[hj];exact h2) (by simpa using hi) h1).elim
     | succ j=>
       have:=ih (i:=i) (j:=j) (kL (List.Sublist.countP_le (List.sublist_cons_self ..)) hc) (by simpa using hi) (by simpa using hj) h1 h2;omega
theorem FN{w0 w w':World}{st:St}{a:Act}{key:Nat}{G:BE}{res:List VT}{bT:List Value}{gG:List DV}{dst:Option Tmp}(h:Sat w0 ae ph st a w)(aW:st.free key (width res)=true)(DZ:qG (bI res)=true)(hG:G.all st.has=true)
   (X2:G.af ae=true) (hb:Below w.heap.size w w') (hf:fitAll (kV w' w.heap.size) (bI res) bT gG) (Tt:gM bT) :
   Step w0 ae (ae.av key gG) ph ((ph.dI key bT).mq (bI res) (decide (G=BE.c true)) bT w.heap.size w'.heap.size) st ({st.bB key (width res)with rows:=cZ (cd G key res).2 st.rows,a8:=rA (ei (decide (G=BE.c true)) G key (bI res)) st.a8}.put dst ⟨G,pQ (cd G key res).1⟩) (a.put dst (packed (bZ res bT))) w w' none:=by
 obtain⟨Ct,zH⟩:=nW hf;have hw:width res=(bI res).length:=rfl;have ve:∀k,st.has k=true->k<key\/key+(bI res).length<=k:=fun k hk=>by
   rcases mS k key with h1|h1;exact .inl h1;rcases mS k (key+(bI res).length)with h2|h2;rw[cT aW h1 h2]at hk;cases hk;exact .inr h2
 have bL:bt st.has ae (ae.av key gG) ph ((ph.dI key bT).mq (bI res) (decide (G=BE.c true)) bT w.heap.size w'.heap.size):=by
   refine⟨fun k hk=>?_,fun _ _=>rfl,fun k hk=>?_⟩;rcases ve k hk with h1|h1;rw[az.bd h1];rw[az.fg (by omega)];rcases ve k hk with h1|h1;simp only[Ph.mq,Ph.dI];rw[if_neg (by omega)];simp only[Ph.mq,Ph.dI];rw[if_pos (by omega),rZ (by omega)]
 have af1:bt st.has ae (ae.av key gG) ph (ph.dI key bT):=⟨bL.e,bL.r,bL.v⟩;have Cu:=h.congr af1;have abW:bt st.has (ae.av key gG) (ae.av key gG) (ph.dI key bT) ((ph.dI key bT).mq (bI res) (decide (G=BE.c true)) bT w.heap.size w'.heap.size):=⟨fun _ _=>rfl,fun _ _=>rfl,fun _ _=>rfl⟩;have Tr:∀k,((ph.dI key bT).mq (bI res) (decide (G=BE.c true)) bT w.heap.size w'.heap.size).z k->ph.z k\/(w.heap.size<=k/\k<w'.heap.size/\(bI res).any CT.wM=true/\((decide (G=BE.c true))=true->∀v∈bT,v.ownBlock≠some k)):=fun k hk=>hk.imp (fun h=>h) (fun h=>⟨h.2.1,h.2.2.1,h.1,h.2.2.2⟩);have ir:jS w0.heap.size (ae.av key gG) ((ph.dI key bT).mq (bI res) (decide (G=BE.c true)) bT w.heap.size w'.heap.size) st.aX st.rows w:=jS.congr abW h.names.aX h.names.rows Cu.mem;have ht':fS (ae.av key gG) ((ph.dI key bT).mq (bI res) (decide (G=BE.c true)) bT w.heap.size w'.heap.size) st.tmps a.tmps:=⟨Cu.tmps.1,fun t s ht=>by rw[Cu.tmps.2 t s ht,aT.ar abW (h.names.tmps t s ht)]⟩;have Hh:G.af (ae.av key gG)=true:=by rw[<- BE.ar bL.e hG];exact X2
 obtain⟨e1,e2,e2N⟩:=vb (ae:=ae.av key gG) (ph:=(ph.dI key bT).mq (bI res) (decide (G=BE.c true)) bT w.heap.size w'.heap.size) (decide (G=BE.c true)) G (bI res) key bT gG hf (fun i d hd=>az.c8 hd) (fun i v hv e ks hc=>by
   have Yg:∃a b c,v = .slice a b c:=by
     rcases hc with hc|⟨aN,hc⟩;obtain⟨v',d,vy,hd,dJ⟩:=jM hf hc;rw[hv]at vy;simp only[ah]at vy;subst vy;cases d with
     |i n=>simp[ky]at dJ
     |b x=>simp[ky]at dJ
     | l xs=>
       obtain⟨_,ho⟩:=dJ;obtain⟨sl,rfl⟩:=lr ho;exact⟨_,_,_,rfl⟩
     obtain⟨v',d,vy,hd,dJ⟩:=jM hf hc;rw[hv]at vy;simp only[ah]at vy;subst vy;cases d with
     |i n=>simp[ky]at dJ
     |b x=>simp[ky]at dJ
     | l xs=>
       obtain⟨_,zi,_,_,cs,ho,_⟩:=dJ;obtain⟨sl,rfl⟩:=lr ho;exact⟨_,_,_,rfl⟩
   obtain⟨a0,b0,c0,rfl⟩:=Yg;exact tI (ph:=ph) hv)
 rw[<- eU]at e2;have xn:=qL (ae:=ae.av key gG) (ph:=(ph.dI key bT).mq (bI res) (decide (G=BE.c true)) bT w.heap.size w'.heap.size) G res key bT e1;have bO:∀k,st.has k=true->(st.bB key (width res)).has k=true:=fun k hk=>gI hk;have jc:∀i,i<(bI res).length->(st.bB key (width res)).has (key+i)=true:=fun i hi=>ja (by omega) (by rw[hw];omega);have ch:=ie (q:=(st.bB key (width res)).has) G (BE.aD bO hG) (bI res) key jc;have il:w.grownBy w' none:=lk hb;have hB:w0.heap.size<=w.heap.size:=h.below.size;have qn:∀r∈(cd G key res).2,∃i:Nat,i<(bI res).length/\r.id=key+i/\r.own=true/\bT[i]?=some (((ph.dI key bT).mq (bI res) (decide (G=BE.c true)) bT w.heap.size w'.heap.size).val r.id)/\gA w0.heap.size (ae.av key gG) ((ph.dI key bT).mq (bI res) (decide (G=BE.c true)) bT w.heap.size w'.heap.size) r w'/\∀k,r.bU (ae.av key gG) ((ph.dI key bT).mq (bI res) (decide (G=BE.c true)) bT w.heap.size w'.heap.size)=some k->(((ph.dI key bT).mq (bI res) (decide (G=BE.c true)) bT w.heap.size w'.heap.size).val r.id).ownBlock=some k/\w.heap.size<=k:=by
   intro r hr;obtain⟨i,hi,N8,HG,hR⟩:=e2 r hr;obtain⟨h0,ho⟩:=hR;have bM:r.own=true:=by rw[N8]
   refine⟨i,hi,by rw[N8],bM,HG,⟨h0,?_⟩,fun k hk=>?_⟩;rw[if_pos bM];exact qM ho hB;have cY:(((ph.dI key bT).mq (bI res) (decide (G=BE.c true)) bT w.heap.size w'.heap.size).val r.id).ownBlock=some k:=by simpa[Row.bU,bM]using hk
   exact⟨cY,(ho.lt k cY).1⟩
 have hold:∀r∈st.rows,r.g.af (ae.av key gG)=true->∀k,r.bU (ae.av key gG) ((ph.dI key bT).mq (bI res) (decide (G=BE.c true)) bT w.heap.size w'.heap.size)=some k->k<w.heap.size:=fun r hr h1 k hk=>(ir.row r hr h1).tv hk;refine⟨⟨?_,?_,h.below.grown il h.below.size (fun k hk=>by cases hk),by rw[cH];exact h.defers,?_,?_⟩,bL,il,fun k hk=>by rw[cy];exact bO k hk,fun b hb=>.inl ⟨b,by rw[bV]at hb;exact hb,rfl⟩⟩;refine nI (st:={st.bB key (width res)with rows:=cZ (cd G key res).2 st.rows,a8:=rA (ei (decide (G=BE.c true)) G key (bI res)) st.a8}) ht' ?_;simp only[aT.af,Hh,if_true,tJ,xn];rw[bV,df];have hk:=ir.grown il;refine⟨hk.ny,hk.bb,fun r hr h1=>?_,fun b hb r hr h1=>?_,fun r hr r' cO cQ ho h1 h2 k ud rC=>?_⟩;rcases bN.1 hr with hr|hr;obtain⟨_,_,_,_,_,gD,_⟩:=qn r hr;exact gD;exact hk.row r hr h1;rcases bN.1 hr with hr|hr;obtain⟨_,_,_,_,_,_,zk⟩:=qn r hr;intro e;have:=(zk _ e).2;have:=h.mem.Dr hb;have e3:((ph.dI key bT).mq (bI res) (decide (G=BE.c true)) bT w.heap.size w'.heap.size).r b.id=ph.r b.id:=rfl;omega;exact hk.br b hb r hr h1;rcases bN.1 hr with hr|hr<;>rcases bN.1 cO with cO|cO;obtain⟨i,_,kT,_,HG,_,zk⟩:=qn r hr;obtain⟨i',_,y7,_,Yh,_,Yi⟩:=qn r' cO;exact Tt i i' _ _ (fun e=>cQ (by rw[kT,y7,e])) HG Yh k (zk k ud).1 (Yi k rC).1;obtain⟨_,_,_,_,_,_,zk⟩:=qn r hr;have:=(zk k ud).2;have:=hold r' cO h2 k rC;omega;obtain⟨_,_,_,_,_,_,zk⟩:=qn r' cO;have:=(zk k rC).2;have:=hold r hr h1 k ud;omega;exact hk.rr r hr r' cO cQ ho h1 h2 k ud rC;refine⟨?_,?_,?_⟩;exact gJ (st:={st.bB key (width res)with rows:=cZ (cd G key res).2 st.rows,a8:=rA (ei (decide (G=BE.c true)) G key (bI res)) st.a8}) (fun t s ht=>aT.aD bO (h.names.tmps t s ht)) (pU (BE.aD bO hG) (mU G (BE.aD bO hG) res key jc));rw[bV,cy];exact fun b hb=>iA.aD bO (h.names.aX b hb);rw[df,cy];intro r hr;rcases bN.1 hr with hr|hr;rw[eU]at hr;exact ch.2 r hr;exact Row.aD bO (h.names.rows r hr);refine dq.put (st:={st.bB key (width res)with rows:=cZ (cd G key res).2 st.rows,a8:=rA (ei (decide (G=BE.c true)) G key (bI res)) st.a8}) ?_;have hn:=Cu.nest;obtain⟨zz,Jc⟩:∃zz:Nat->Prop,zz=((ph.dI key bT).mq (bI res) (decide (G=BE.c true)) bT w.heap.size w'.heap.size).z:=⟨_,rfl⟩;have hS:∀r∈(cd G key res).2,(bI res).any CT.wM=true->False:=fun r hr hN=>by
   have hS:(bI res).any CT.isS=true:=by
     rw[eU]at hr;exact BR G _ _ r hr
   unfold qG at DZ;rw[hN,hS]at DZ;cases DZ
 have D0:(bI res).any CT.wM=true->(bI res).countP CT.wM<=1:=fun hN=>by
   unfold qG at DZ;rw[hN]at DZ;simp only[Bool.not_true,Bool.false_or,ao,aC]at DZ;exact DZ.2
 have D1:(bI res).any CT.wM=true->(bI res).any CT.isS=false:=fun hN=>by
   unfold qG at DZ;rw[hN]at DZ;simp only[Bool.not_true,Bool.false_or,ao,mg]at DZ;exact DZ.1
 have af2:∀(i j:Nat) (v u:Value) (e:TypeId) (aN:List NK) (k:Nat),(bI res)[i]?=some (.n e aN)->bT[i]?=some v->bT[j]?=some u->u.ownBlock=some k->v=u:=fun i j v u e aN k hi hv hu hk=>by
   have hN:(bI res).any CT.wM=true:=lT.2 ⟨_,rN hi,rfl⟩;have hj:∃c,(bI res)[j]?=some c:=by
     have:=(dc.1 hu).1;exact⟨_,dG (by omega)⟩
   obtain⟨c,hc⟩:=hj;obtain⟨u',d,M7,_,dJ⟩:=jM hf hc;rw[hu,ah]at M7;subst M7;cases c with
   |c kk=>cases kk<;>cases d<;>simp only[ky]at dJ<;>subst dJ<;>simp[Value.ownBlock]at hk
   | s e' ks=>
     have:=D1 hN;rw[List.any_eq_false]at this;exact absurd rfl (this _ (rN hc))
   | n e' abQ=>
     have:=N7 (D0 hN) hi hc rfl rfl;subst this;rw[hv,ah]at hu;exact hu
 have hnN:∀n∈ei (decide (G=BE.c true)) G key (bI res),∃i:Nat,n.id=key+i/\(bI res)[i]?=some (.n n.e n.aN)/\bT[i]?=some (((ph.dI key bT).mq (bI res) (decide (G=BE.c true)) bT w.heap.size w'.heap.size).val n.id)/\0<n.aN.length/\ft w0.heap.size (ae.av key gG) ((ph.dI key bT).mq (bI res) (decide (G=BE.c true)) bT w.heap.size w'.heap.size) n w'/\
     ∀k,(((ph.dI key bT).mq (bI res) (decide (G=BE.c true)) bT w.heap.size w'.heap.size).val n.id).ownBlock=some k->w.heap.size<=k/\k<w'.heap.size:=fun n fP=>by
   obtain⟨i,hi,abK,HG,⟨h2,zi,h3,T8,Yj⟩,h4⟩:=e2N n fP;have hN:(bI res).any CT.wM=true:=lT.2 ⟨_,rN h4,rfl⟩;have cJ:∀k,(((ph.dI key bT).mq (bI res) (decide (G=BE.c true)) bT w.heap.size w'.heap.size).val n.id).ownBlock=some k->w.heap.size<=k/\k<w'.heap.size:=fun k hk=>by
     obtain⟨cs,ho,_⟩:=Yj;exact ho.lt k hk
   refine⟨i,by rw[abK],h4,HG,h2,?_,cJ⟩;have bM:=(pV _ G _ _ n fP).2;have abX:∀k,zi k->((ph.dI key bT).mq (bI res) (decide (G=BE.c true)) bT w.heap.size w'.heap.size).z k:=fun k hk=>.inr ⟨hN,(h3 k hk).1,(h3 k hk).2,fun _ v hv e=>by
     obtain⟨j,hj⟩:=List.getElem?_of_mem hv;have:=af2 i j _ v _ _ k h4 HG hj e;subst this;exact T8 k e hk⟩
   unfold ft;split;obtain⟨cs,ho,jn⟩:=Yj.mL (z':=fun k=>((ph.dI key bT).mq (bI res) (decide (G=BE.c true)) bT w.heap.size w'.heap.size).z k/\w0.heap.size<=k) (fun _ _=>rfl) (fun k hk=>⟨abX k hk,kL hB (h3 k hk).1⟩) (fun _ _=>rfl);exact⟨cs,qM ho hB,jn⟩;rename_i pP;exact Yj.reads h2 abX (fun k hk=>.inr ⟨hN,(cJ k hk).1,(cJ k hk).2,fun ht=>by rw[bM]at pP;exact absurd ht pP⟩)
 have Cq:∀b∈st.aX,((ph.dI key bT).mq (bI res) (decide (G=BE.c true)) bT w.heap.size w'.heap.size).r b.id<w.heap.size:=fun b hb=>h.mem.Dr hb;refine⟨fun k hk=>?_,fun b hb hz=>?_,fun r hr ho h1 k hk hz=>?_,fun n fP h1=>?_,fun n fP=>?_,fun n fP ho=>?_⟩;rcases Tr k hk with h2|h2;exact DB (hn.lt k h2) il.size;exact h2.2.1;rcases Tr _ hz with h2|h2;exact hn.bz b hb h2;have:=Cq b hb;omega;rcases bN.1 hr with hr|hr;obtain⟨i,hi,_,_,_,_,zk⟩:=qn r hr;have h3:=(zk k hk).2;rcases Tr _ hz with h2|h2;have:=hn.lt k h2;omega;exact hS r hr h2.2.2.1;rcases Tr _ hz with h2|h2;exact hn.rz r hr ho h1 k hk h2;have:=hold r hr h1 k hk;omega;rcases jf.1 fP with fP|fP;obtain⟨i,_,_,_,h2,h3,_⟩:=hnN n fP;exact⟨h2,h3⟩;obtain⟨h2,h3⟩:=hn.rd n fP h1;refine⟨h2,?_⟩;unfold ft at *;split;rename_i ho;rw[if_pos ho]at h3;exact h3.mL (fun k hk=>il.block k (hn.lt k hk.1) (by simp)) (fun k hk=>⟨.inl hk.1,hk.2⟩) (fun k hk=>il.block k (hn.oX fP ho hk).2 (by simp));rename_i ho;rw[if_neg ho]at h3;exact h3.mL (fun k hk=>il.block k (hn.lt k hk) (by simp)) fun k hk=>.inl hk;rcases jf.1 fP with fP|fP;exact vd _ G (BE.aD bO hG) (bI res) key jc n fP;exact dX.aD bO (h.nest.nm n fP);rcases jf.1 fP with fP|fP;obtain⟨NS,Jn⟩:=pV _ G _ _ n fP;obtain⟨i,kT,h4,HG,_,_,cJ⟩:=hnN n fP;have hGc:G = .c true:=by rw[Jn]at ho;simpa using ho
 have hN:(bI res).any CT.wM=true:=lT.2 ⟨_,rN h4,rfl⟩;refine⟨by rw[NS,hGc],fun k hk=>?_⟩;obtain⟨ud,rC⟩:=cJ k hk;refine⟨fun hz=>?_,fun b hb e=>?_,fun r hr HH Bs=>?_,fun n' o7 ql y7=>?_⟩;rcases Tr _ hz with h2|h2;have:=hn.lt k h2;omega;exact h2.2.2.2 (by simpa using hGc) _ (rN HG) hk;have:=Cq b hb;omega;rcases bN.1 hr with hr|hr;exact hS r hr hN;have:=hold r hr HH k Bs;omega;intro Bs;rcases jf.1 o7 with o7|o7;obtain⟨i',af3,h4',_⟩:=hnN n' o7;have:=N7 (D0 hN) h4 h4' rfl rfl;subst this;exact y7 (by rw[kT,af3]);have:=(hn.oX o7 ql (k:=k) Bs).2;omega;obtain⟨g1,g2⟩:=hn.oz n fP ho;refine⟨g1,fun k hk=>?_⟩;obtain⟨f1,f2,f3,f4⟩:=g2 k hk;have cJ:=(hn.oX fP ho hk).2;refine⟨fun hz=>?_,f2,fun r hr HH Bs=>?_,fun n' o7 ql y7=>?_⟩;rcases Tr _ hz with h2|h2;exact f1 h2;omega;rcases bN.1 hr with hr|hr;obtain⟨_,_,_,_,_,_,zk⟩:=qn r hr;have:=(zk k Bs).2;omega;exact f3 r hr HH Bs;intro Bs;rcases jf.1 o7 with o7|o7;obtain⟨_,_,_,_,_,_,Lr⟩:=hnN n' o7;have:=(Lr k Bs).1;omega;exact f4 n' o7 ql y7 Bs
theorem HI{w0 w:World}{st:St}{a:Act}{key:Nat}{G:BE}{res:List VT}{gG:List DV}{dst:Option Tmp}(h:Sat w0 ae ph st a w)(aW:st.free key (width res)=true)(hG:G.all st.has=true)
   (hGf:G.af ae=false) (hl:gG.length=(bI res).length) :
   Step w0 ae (ae.av key gG) ph ph st ({st.bB key (width res)with rows:=cZ (cd G key res).2 st.rows,a8:=rA (ei (decide (G=BE.c true)) G key (bI res)) st.a8}.put dst ⟨G,pQ (cd G key res).1⟩) (a.put dst undef) w w none:=by
 have hw:width res=(bI res).length:=rfl;have bL:bt st.has ae (ae.av key gG) ph ph:=by
   refine⟨fun k hk=>?_,fun _ _=>rfl,fun k hk=>rfl⟩;rcases mS k key with h1|h1;rw[az.bd h1];rcases mS k (key+(bI res).length)with h2|h2;rw[cT aW h1 h2]at hk;cases hk;rw[az.fg (by omega)]
 have ir:=h.congr bL;have Hh:G.af (ae.av key gG)=false:=by rw[<- BE.ar bL.e hG];exact hGf
 have bO:∀k,st.has k=true->(st.bB key (width res)).has k=true:=fun k hk=>gI hk;have jc:∀i,i<(bI res).length->(st.bB key (width res)).has (key+i)=true:=fun i hi=>ja (by omega) (by rw[hw];omega);have ch:=ie (q:=(st.bB key (width res)).has) G (BE.aD bO hG) (bI res) key jc;have hng:∀r∈(cd G key res).2,r.g=G:=by
   have:∀(cs:List CT) (id:Nat),∀r∈(aH G id cs).2,r.g=G:=by
     intro cs;induction cs with
     |nil=>intro id r hr;simp[aH]at hr
     | cons c cs ih=>
       intro id r hr;simp only[aH,lQ]at hr;rcases hr with hr|hr;cases c with
       |c k=>cases k<;>simp[cP]at hr
       |s e ks=>simp[cP]at hr;rw[hr]
       |n e aN=>simp[cP]at hr
       exact ih _ r hr
   rw[eU];exact this _ _
 refine⟨⟨?_,?_,h.below,by rw[cH];exact h.defers,?_,?_⟩,bL,cm w,fun k hk=>by rw[cy];exact bO k hk,fun b hb=>.inl ⟨b,by rw[bV]at hb;exact hb,rfl⟩⟩;refine nI (st:={st.bB key (width res)with rows:=cZ (cd G key res).2 st.rows,a8:=rA (ei (decide (G=BE.c true)) G key (bI res)) st.a8}) ir.tmps ?_;simp only[aT.af,Hh];rfl;rw[bV,df];have hk:=ir.mem;have ho:∀r∈cZ (cd G key res).2 st.rows,r.g.af (ae.av key gG)=true->r∈st.rows:=fun r hr h1=>by
   rcases bN.1 hr with hr|hr;rw[hng r hr,Hh]at h1;cases h1;exact hr
 exact⟨hk.ny,hk.bb,fun r hr h1=>hk.row r (ho r hr h1) h1,fun b hb r hr h1=>hk.br b hb r (ho r hr h1) h1,fun r hr r' cO cQ hw h1 h2=>hk.rr r (ho r hr h1) r' (ho r' cO h2) cQ hw h1 h2⟩;refine⟨?_,?_,?_⟩;exact gJ (st:={st.bB key (width res)with rows:=cZ (cd G key res).2 st.rows,a8:=rA (ei (decide (G=BE.c true)) G key (bI res)) st.a8}) (fun t s ht=>aT.aD bO (h.names.tmps t s ht)) (pU (BE.aD bO hG) (mU G (BE.aD bO hG) res key jc));rw[bV,cy];exact fun b hb=>iA.aD bO (h.names.aX b hb);rw[df,cy];intro r hr;rcases bN.1 hr with hr|hr;rw[eU]at hr;exact ch.2 r hr;exact Row.aD bO (h.names.rows r hr);refine dq.put (st:={st.bB key (width res)with rows:=cZ (cd G key res).2 st.rows,a8:=rA (ei (decide (G=BE.c true)) G key (bI res)) st.a8}) ?_;have hn:=ir.nest;have WE:∀n∈ei (decide (G=BE.c true)) G key (bI res),n.own=true->False:=fun n fP ho=>by
   obtain⟨_,Jn⟩:=pV _ G _ _ n fP;rw[Jn]at ho;have hGc:G = .c true:=by simpa using ho
   rw[hGc]at hGf;cases hGf
 refine⟨hn.lt,hn.bz,fun r hr ho h1 k hk=>?_,fun n fP h1=>?_,fun n fP=>?_,fun n fP ho=>?_⟩;rcases bN.1 hr with hr|hr;rw[hng r hr,Hh]at h1;cases h1;exact hn.rz r hr ho h1 k hk;rcases jf.1 fP with fP|fP;rw[(pV _ G _ _ n fP).1,Hh]at h1;cases h1;exact hn.rd n fP h1;rcases jf.1 fP with fP|fP;exact vd _ G (BE.aD bO hG) (bI res) key jc n fP;exact dX.aD bO (h.nest.nm n fP);rcases jf.1 fP with fP|fP;exact(WE n fP ho).elim;obtain⟨g1,g2⟩:=hn.oz n fP ho;refine⟨g1,fun k hk=>?_⟩;obtain⟨f1,f2,f3,f4⟩:=g2 k hk;refine⟨f1,f2,fun r hr HH Bs=>?_,fun n' o7 ql y7=>?_⟩;rcases bN.1 hr with hr|hr;rw[hng r hr,Hh]at HH;cases HH;exact f3 r hr HH Bs;rcases jf.1 o7 with o7|o7;exact(WE n' o7 ql).elim;exact f4 n' o7 ql y7
end
end Go.Sx

/- The symbolic executor: memory and own rows. -/
import Derived.Test.YtohebioanhliiaaGreatDoorBA1
import Derived.Maps.AppendAt
import Derived.Laws.OwnMore
import Derived.ArgAppend
import Derived.Laws.IdiomStrings
import Derived.Calls
set_option linter.unusedVariables false
set_option linter.unusedSimpArgs false
namespace Go.Sx
section
open Go.RowKit
variable {U:aA}{ph:Ph}{P:Program}
theorem Reads.grown{w w':World}{v:Value}{n:Nat}{cells:List Value}{row:Option Nat}(h:Reads w v n cells)(hg:w.grownBy w' row)(ck:cells≠[]->∀k,v.ownBlock=some k->some k≠row):Reads w' v n cells:=by
 obtain⟨base,cap,rfl,hn,h0,hc⟩:=h;refine⟨base,cap,rfl,hn,h0,fun j u hj=>?_⟩;obtain⟨a,rfl,ha⟩:=hc j u hj;refine⟨a,rfl,?_⟩;have jT:(a.add j).block=a.block:=by unfold Addr.add;split<;>rfl
 exact hg.cell ha (by rw[jT];exact ck (by intro e;rw[e]at hj;simp at hj) _ (by simp[Value.ownBlock]))
theorem sT{w w':World}{B:Nat}{e:TypeId}{sz:Nat}{v:Value}{n:Nat}{xs:List Value}{row:Option Nat}(h:w.ownsRow B e sz v n xs)(hg:w.grownBy w' row)(ck:∀k,v.ownBlock=some k->some k≠row):w'.ownsRow B e sz v n xs:=
 h.kept hg (by
   cases hv:v.ownBlock with
   |none=>exact .inl rfl
   |some k=>exact .inr (ck k hv))
theorem fw.grown{B:Nat}{r:Row}{w w':World}{row:Option Nat}(h:fw B U ph r w)(hg:w.grownBy w' row)(ck:∀k,r.bM U ph=some k->some k≠row):fw B U ph r w':=by
 obtain⟨h0,h⟩:=h;refine⟨h0,?_⟩;split at h;rename_i ho;rw[if_pos ho];exact sT h hg (fun k hk=>ck k (by simp[Row.bM,ho,hk]));rename_i ho;rw[if_neg ho];exact h.grown hg (fun hc k hk=>ck k (by
   have:(U r.lv).list.length≠0:=fun e=>hc (BV (by rw[bH,e,Nat.zero_mul]));simp[Row.bM,this,hk]))
theorem sP.lt{B:Nat}{b:gD}{w:World}(h:sP B U ph b w):ph.r b.id<w.heap.size:=(qd.1 h.2).1
theorem sP.grown{B:Nat}{b:gD}{w w':World}{row:Option Nat}(h:sP B U ph b w)(hg:w.grownBy w' row)(ck:some (ph.r b.id)≠row):sP B U ph b w':=
 ⟨h.1,by rw[hg.block _ h.lt ck];exact h.2⟩
theorem je.grown{B:Nat}{aR:List gD}{rows:List Row}{w w':World}(h:je B U ph aR rows w)(hg:w.grownBy w' none):je B U ph aR rows w':=
 ⟨fun b hb=>(h.lP b hb).grown hg (by simp),h.bb,fun r hr h1=>(h.row r hr h1).grown hg (by simp),h.br,h.rr⟩
theorem bW(w:World):w.grownBy w none:=⟨rfl,rfl,rfl,eZ _,fun _ _ _=>rfl⟩
theorem ke{w w':World}(h:Below w.heap.size w w'):w.grownBy w' none:=⟨h.os,h.tape,h.output,h.size,fun k hk _=>h.block k hk⟩
theorem nC{a b c:World}{row:Option Nat}(h:a.grownBy b row)(k:b.grownBy c row):a.grownBy c row:=
 ⟨k.os.trans h.os,k.tape.trans h.tape,k.output.trans h.output,jS h.size k.size,fun i hi ck=>(k.block i (B9 hi h.size) ck).trans (h.block i hi ck)⟩
theorem hZ{a b:World}{row:Option Nat}(h:a.grownBy b none):a.grownBy b row:=⟨h.os,h.tape,h.output,h.size,fun i hi _=>h.block i hi (by simp)⟩
theorem FM{q:Nat×Nat->Bool}{d:Nat×Nat}:∀ {l:List (Nat×Nat)},(vk d l).any q=(q d||l.any q):=by
 intro l;induction l with
 |nil=>simp[vk]
 | cons x l ih=>
   simp only[vk];split;simp;simp only[List.any_cons,ih];cases q x<;>cases q d<;>simp
theorem vl{st:St}{a n k:Nat}:(st.bd a n).has k=(st.has k||(decide (a<=k)&&decide (k<a+n))):=by
 show(decide (k<st.next)||(vk (a,a+n) st.nD).any _)=_;rw[FM];show(decide (k<st.next)||(_||_))=((decide (k<st.next)||_)||_);rw[Bool.or_assoc,Bool.or_comm (decide (a<=k)&&decide (k<a+n))]
theorem fH{st:St}{a n k:Nat}(h:st.has k=true):(st.bd a n).has k=true:=by rw[vl,h];rfl
theorem ia{st:St}{a n k:Nat}(h1:a<=k)(h2:k<a+n):(st.bd a n).has k=true:=by rw[vl];simp[h1,h2]
theorem cy{st:St}{a n k:Nat}(h:st.free a n=true)(h1:a<=k)(h2:k<a+n):st.has k=false:=by
 simp only[St.free,ah,aD,k7,fU]at h;simp only[St.has,Ae,DG,List.any_eq_false,ah,aD,not_and];refine⟨by omega,fun d hd h3=>?_⟩;have:=h.2 d hd;omega
theorem IE.ax{p q:Nat->Bool}(h:∀k,p k=true->q k=true):∀ {e:IE},e.all p=true->e.all q=true:=by
 intro e;induction e with
 |v k=>simp only[IE.all];exact h k
 |c n=>simp[IE.all]
 |len k=>simp only[IE.all];exact h k
 |get k i j ih=>simp only[IE.all,ah];exact fun ha=>⟨h k ha.1,ih ha.2⟩
 |lh i n a b sD sF Vg=>simp only[IE.all,ah];exact fun ha=>⟨sD ha.1,sF ha.2.1,Vg ha.2.2⟩
 |ediv a n ih=>simp only[IE.all];exact ih
 |emod a n ih=>simp only[IE.all];exact ih
 |wrap k a ih=>simp only[IE.all];exact ih
 |bits op k a b sD sF=>simp only[IE.all,ah];exact fun ha=>⟨sD ha.1,sF ha.2⟩
 |_ a b sD sF=>simp only[IE.all,ah];exact fun ha=>⟨sD ha.1,sF ha.2⟩
theorem BE.ax{p q:Nat->Bool}(h:∀k,p k=true->q k=true):∀ {e:BE},e.all p=true->e.all q=true:=by
 intro e;induction e with
 |v k=>simp only[BE.all];exact h k
 |c n=>simp[BE.all]
 |not a ih=>simp only[BE.all];exact ih
 |qu a=>simp only[BE.all];exact IE.ax h
 |and a b sD sF=>simp only[BE.all,ah];exact fun ha=>⟨sD ha.1,sF ha.2⟩
 |or a b sD sF=>simp only[BE.all,ah];exact fun ha=>⟨sD ha.1,sF ha.2⟩
 |iff a b sD sF=>simp only[BE.all,ah];exact fun ha=>⟨sD ha.1,sF ha.2⟩
 |_ a b=>simp only[BE.all,ah];exact fun ha=>⟨IE.ax h ha.1,IE.ax h ha.2⟩
theorem cO.ax{p q:Nat->Bool}(h:∀k,p k=true->q k=true){l:cO}(ha:l.all p=true):l.all q=true:=by
 cases l with
 |i k e=>exact IE.ax h ha
 |b e=>exact BE.ax h ha
 |s r=>exact h _ ha
 |jR=>rfl
theorem ag.ax{p q:Nat->Bool}(h:∀k,p k=true->q k=true){l:ag}(ha:l.all p=true):l.all q=true:=by
 cases l with
 |i k e=>exact IE.ax h ha
 |b e=>exact BE.ax h ha
 |p b o=>exact h _ ha
 |ep r s i j=>simp only[ag.all,ah]at ha ⊢;exact⟨h _ ha.1,IE.ax h ha.2⟩
 |pi b o s n x=>simp only[ag.all,ah]at ha ⊢;exact⟨h _ ha.1,IE.ax h ha.2⟩
 |s r=>exact h _ ha
 |fn g cS=>simp only[ag.all,k7]at ha ⊢;exact fun c hc=>h _ (ha c hc)
 |fl e=>exact IE.ax h ha
 |bf g a ls=>simp only[ag.all,k7]at ha ⊢;exact fun c hc=>cO.ax h (ha c hc)
 |vw r s lo n=>simp only[ag.all,ah]at ha ⊢;exact⟨h _ ha.1,IE.ax h ha.2.1,IE.ax h ha.2.2⟩
 |cs r=>exact h _ ha
 |bs b n s=>exact h _ ha
 |kb r bs=>exact h _ ha
 |ab r i b=>exact h _ ha
 |_=>rfl
theorem lX{p q:Nat->Bool}(h:∀k,p k=true->q k=true):∀ {ls:List ag},a7 p ls=true->a7 q ls=true:=by
 intro ls;induction ls with
 |nil=>intro _;rfl
 |cons l ls ih=>simp only[a7,ah];exact fun ha=>⟨ag.ax h ha.1,ih ha.2⟩
theorem V1.ax{p q:Nat->Bool}(h:∀k,p k=true->q k=true){v:V1}(ha:v.all p=true):v.all q=true:=by
 cases v with
 |one l=>exact ag.ax h ha
 |agg ls=>exact lX h ha
theorem wj{p q:Nat->Bool}(h:∀k,p k=true->q k=true):∀ {ls:List V1},cV p ls=true->cV q ls=true:=by
 intro ls;induction ls with
 |nil=>intro _;rfl
 |cons l ls ih=>simp only[cV,ah];exact fun ha=>⟨V1.ax h ha.1,ih ha.2⟩
theorem aN.ax{p q:Nat->Bool}(h:∀k,p k=true->q k=true){s:aN}(ha:s.all p=true):s.all q=true:=by
 simp only[aN.all,ah]at ha ⊢;refine⟨BE.ax h ha.1,?_⟩;cases hs:s.sv with
 |v x=>rw[hs]at ha;exact V1.ax h ha.2
 |Fu xs=>rw[hs]at ha;exact wj h ha.2
theorem gD.ax{p q:Nat->Bool}(h:∀k,p k=true->q k=true){b:gD}(ha:b.all p=true):b.all q=true:=by
 simp only[gD.all,ah]at ha ⊢;exact⟨h _ ha.1,lX h ha.2⟩
theorem Row.ax{p q:Nat->Bool}(h:∀k,p k=true->q k=true){r:Row}(ha:r.all p=true):r.all q=true:=by
 simp only[Row.all,ah]at ha ⊢;exact⟨h _ ha.1,h _ ha.2.1,BE.ax h ha.2.2⟩
theorem b7{st:St}{dst:Option Tmp}{s:aN}:(st.put dst s).has=st.has:=by
 cases dst<;>rfl
theorem bN{st:St}{dst:Option Tmp}{s:aN}:(st.put dst s).aR=st.aR:=by cases dst<;>rfl
theorem cJ{st:St}{dst:Option Tmp}{s:aN}:(st.put dst s).rows=st.rows:=by cases dst<;>rfl
theorem fc.put{ts:List (Option aN)}{tmps:Array Value}(h:fc U ph ts tmps)(d:Nat)(s:aN):fc U ph (ts.set d (some s)) (tmps.setIfInBounds d (s.ae U ph)):=by
 refine⟨by simpa using h.1,fun t s' ht=>?_⟩;rw[List.getElem?_set]at ht;rw[Array.getElem?_setIfInBounds];by_cases hd:d=t;subst hd;simp only[if_true]at ht ⊢;split at ht;rename_i cF;simp only[af]at ht;subst ht;rw[if_pos (by rw[<- h.1];exact cF)];cases ht;simp only[hd,if_false]at ht ⊢;exact h.2 t s' ht
theorem lY{st:St}{a:Act}{dst:Option Tmp}{s:aN}{v:Value}(h:fc U ph st.tmps a.tmps)(hv:v=s.ae U ph):fc U ph (st.put dst s).tmps (a.put dst v).tmps:=by
 subst hv;cases dst with
 |none=>exact h
 |some d=>exact h.put d s
theorem fJ{st:St}{dst:Option Tmp}{s:aN}(h:∀(t:Nat) (s:aN),st.tmps[t]?=some (some s)->s.all st.has=true)(hs:s.all st.has=true) :
   ∀(t:Nat) (s':aN),(st.put dst s).tmps[t]?=some (some s')->s'.all (st.put dst s).has=true:=by
 intro t s' ht;rw[b7];cases dst with
 |none=>exact h t s' ht
 | some d=>
   simp only[St.put]at ht;rw[List.getElem?_set]at ht;split at ht;split at ht;simp only[af]at ht;subst ht;exact hs;cases ht;exact h t s' ht
theorem cg{a:Act}{dst:Option Tmp}{v:Value}:(a.put dst v).defers=a.defers:=by cases dst<;>rfl
theorem Jf{st:St}{dst:Option Tmp}{s:aN}:(st.put dst s).aV=st.aV:=by cases dst<;>rfl
theorem df.ax{p q:Nat->Bool}(h:∀k,p k=true->q k=true){r:df}(ha:r.all p=true):r.all q=true:=by
 simp only[df.all,ah]at ha ⊢;exact⟨h _ ha.1,h _ ha.2.1,BE.ax h ha.2.2⟩
theorem cP.next{B:Nat}{st aW:St}{w w':World}{row:Option Nat}(h:cP B U ph st w){ai:aA}{aJ:Ph}(bq:a8 st.has U ai ph aJ)(hz:aJ.z=ph.z)(hm:∀k,st.has k=true->aW.has k=true)(hg:w.grownBy w' row)(aY:∀k,row=some k->¬ ph.z k/\∀n∈st.aV,n.own=true->(ph.val n.id).ownBlock≠some k)(hn:aW.aV=st.aV)
   (hb:∀b∈aW.aR,(∃b0∈st.aR,aJ.r b.id=ph.r b0.id)\/w.heap.size<=aJ.r b.id)
   (hr:∀r∈aW.rows,r.g.ae ai=true->∀k,r.bM ai aJ=some k->(∃r0∈st.rows,(r.own=true->r0.own=true)/\r0.g.ae U=true/\r0.bM U ph=some k)\/w.heap.size<=k\/row=some k\/(r.own=false/\ph.z k)):cP B ai aJ aW w':=by
 have hv:∀n∈st.aV,aJ.val n.id=ph.val n.id/\ai n.lv=U n.lv/\n.g.ae ai=n.g.ae U:=fun n hn=>by
   have:=h.nm n hn;simp only[df.all,ah]at this;exact⟨by simp only[Ph.val,bq.v _ this.1],(bq.e _ this.2.1).symm,(BE.ak bq.e this.2.2).symm⟩
 refine⟨fun k hk=>B9 (h.lt k (by rw[<- hz];exact hk)) hg.size,fun b AW LJ=>?_,fun r Ry ho h1 k hk Jg=>?_,fun n iP h1=>?_,fun n iP=>df.ax hm (h.nm n (by rw[<- hn];exact iP)),fun n iP ho=>?_⟩;rw[hz]at LJ;rcases hb b AW with⟨b0,h0,e⟩|e;rw[e]at LJ;exact h.bz b0 h0 LJ;have:=h.lt _ LJ;omega;rw[hz]at Jg;rcases hr r Ry h1 k hk with⟨r0,h0,h2,h3,h4⟩|e|e|⟨e,_⟩;exact h.rz r0 h0 (h2 ho) h3 k h4 Jg;have:=h.lt _ Jg;omega;exact(aY k e).1 Jg;rw[e]at ho;cases ho;rw[hn]at iP;obtain⟨e1,e2,e3⟩:=hv n iP;obtain⟨h0,z7⟩:=h.rd n iP (by rw[<- e3];exact h1);refine⟨h0,?_⟩;unfold eH at *;rw[hz,e1,e2];split;rename_i ho;rw[if_pos ho]at z7;refine z7.ln (fun k hk=>hg.block k (h.lt k hk.1) (fun e=>(aY k e.symm).1 hk.1)) (fun _ h=>h) (fun k hk=>hg.block k (h.nA iP ho hk).2 (fun e=>(aY k e.symm).2 n iP ho hk));rename_i ho;rw[if_neg ho]at z7;exact z7.ln (fun k hk=>hg.block k (h.lt k hk) (fun e=>(aY k e.symm).1 hk)) (fun _ h=>h);rw[hn]at iP;obtain⟨e1,e2,e3⟩:=hv n iP;obtain⟨h1,h2⟩:=h.oz n iP ho;refine⟨h1,fun k hk=>?_⟩;rw[e1]at hk;obtain⟨g1,g2,g3,g4⟩:=h2 k hk;have cF:=(h.nA iP ho hk).2;refine⟨by rw[hz];exact g1,fun b AW he=>?_,fun r Ry gn hf=>?_,fun n' jW oL ck=>?_⟩;rcases hb b AW with⟨b0,h0,e⟩|e;exact g2 b0 h0 (by rw[<- e];exact he);omega;rcases hr r Ry gn k hf with⟨r0,h0,_,h3,h4⟩|e|e|⟨_,e⟩;exact g3 r0 h0 h3 h4;omega;exact(aY k e).2 n iP ho hk;exact g1 e;rw[hn]at jW;rw[(hv n' jW).1];exact g4 n' jW oL ck
theorem cP.same{B:Nat}{st aW:St}{w:World}(h:cP B U ph st w)(hm:∀k,st.has k=true->aW.has k=true)(h1:aW.aR=st.aR)(h2:aW.rows=st.rows)(h3:aW.aV=st.aV):cP B U ph aW w:=
 ⟨h.lt,by rw[h1];exact h.bz,by rw[h2];exact h.rz,by rw[h3];exact h.rd,by rw[h3];exact fun n hn=>df.ax hm (h.nm n hn),by rw[h1,h2,h3];exact h.oz⟩
theorem cP.put{B:Nat}{st:St}{w:World}{dst:Option Tmp}{s:aN}(h:cP B U ph st w):cP B U ph (st.put dst s) w:=
 h.same (fun k hk=>by rw[b7];exact hk) bN cJ Jf
theorem Sat.put{w0 w:World}{st:St}{a:Act}{dst:Option Tmp}{s:aN}{v:Value}(h:Sat w0 U ph st a w)(hs:s.all st.has=true)(hv:v=s.ae U ph):Sat w0 U ph (st.put dst s) (a.put dst v) w:=
 ⟨lY h.tmps hv,by rw[bN,cJ];exact h.mem,h.below,by rw[cg];exact h.defers,
   ⟨fJ h.names.tmps hs,by rw[bN,b7];exact h.names.aR,by rw[cJ,b7];exact h.names.rows⟩,h.nest.put⟩
theorem lZ:jw.ae U ph=undef:=rfl
theorem l6{p:Nat->Bool}:jw.all p=true:=rfl
end
section
open Go.RowKit
variable {U:aA}{ph:Ph}{P:Program}
theorem jx(g:Nat)(ty:TypeId)(off:Nat):∀(vs:List Value) (i:Nat) (cur:List Value) (w:World),w.heap[g]?=some (.cells cur.toArray ty (0,0))->off+i+vs.length<=cur.length->(∀v∈vs,v.oneCell'=true)->
   ∃w',(storeCells ⟨g,off,none⟩ vs i).run P w = .ok () w'/\w.grownBy w' (some g)/\w'.heap[g]?=some (.cells ((vs.zipIdx i).foldl (fun cs (x:Value×Nat)=>cs.set (off+x.2) x.1) cur).toArray ty (0,0)):=by
 intro vs;induction vs with
 |nil=>intro i cur w hg _ _;exact⟨w,rfl,hZ (bW w),hg⟩
 | cons v vs ih=>
   intro i cur w hg hl h1;simp only[tY]at hl;have cF:off+i<cur.length:=by omega
   have la:w.cell? ⟨g,off+i,none⟩=some cur[off+i]:=by
     rw[cell_of_row w g _ _ _ _ hg];simp[cF]
   have hfz:=frozen_of_row w g (off+i) cur.toArray ty hg;have dM:(store ((⟨g,off,none⟩:Addr).add i) v).run P w = .ok () (w.setCell ⟨g,off+i,none⟩ v):=by
     rw[iD,run_store P w _ v _ (h1 v (aM ..))];simp[stored,la,hfz]
   have A5:(w.setCell ⟨g,off+i,none⟩ v).heap[g]?=some (.cells (cur.set (off+i) v).toArray ty (0,0)):=by
     have:=heap_setCell_same w g (off+i) cur.toArray ty v hg;rw[this];simp
   obtain⟨w',hr,gn,hh⟩:=ih (i+1) (cur.set (off+i) v) (w.setCell ⟨g,off+i,none⟩ v) A5 (by simp;omega) (fun u hu=>h1 u (aZ _ hu));refine⟨w',?_,?_,?_⟩;simp only[storeCells,dz,dM,dc,hr];have HB:w.grownBy (w.setCell ⟨g,off+i,none⟩ v) (some g):=⟨rfl,rfl,rfl,by simp,fun k _ hk=>heap_setCell_other w ⟨g,off+i,none⟩ k v (fun e=>hk (by rw[e]))⟩;exact nC HB gn;simpa[List.zipIdx_cons]using hh
theorem wm{t:TypeId}{g off:Nat}{ty:TypeId}{v:V1}{cs:List ag}{w:World}(hs:v.leaves.length=P.cellsOf t)(ll:0<P.cellsOf t)(hg:w.heap[g]?=some (.cells (cs.map (ag.ae U ph)).toArray ty (0,0)))
   (hl:off+v.leaves.length<=cs.length) :
   ∃w',(Instr.storeAt t (.pointer (some ⟨g,off,none⟩)) (v.ae U ph)).run P w = .ok () w'/\w.grownBy w' (some g)/\w'.heap[g]?=some (.cells ((gM cs off v.leaves).map (ag.ae U ph)).toArray ty (0,0)):=by
 obtain⟨w',hr,gn,hh⟩:=jx (P:=P) g ty off (v.leaves.map (ag.ae U ph)) 0 (cs.map (ag.ae U ph)) w hg (by simpa using hl) (fun u hu=>by
   obtain⟨l,_,rfl⟩:=kE.1 hu;exact ag.wi l)
 refine⟨w',?_,gn,by rw[hh,lr]⟩;simp only[Instr.storeAt,Instr.sureAddr,dz,eU,dc,storeVar,bT ll,V1.eN];rw[if_neg (by simp[hs])];simpa using hr
theorem fp{b x:gD}:∀ {l:List gD},b∈kU x l↔b=x\/b∈l:=by
 intro l;induction l with
 |nil=>simp[kU]
 | cons y l ih=>
   simp only[kU];split;simp;simp only[bh,ih];constructor;rintro(h|h|h)<;>simp[h];rintro(h|h|h)<;>simp[h]
theorem cW{b x:Row}:∀ {l:List Row},b∈cQ x l↔b=x\/b∈l:=by
 intro l;induction l with
 |nil=>simp[cQ]
 | cons y l ih=>
   simp only[cQ];split;simp;simp only[bh,ih];constructor;rintro(h|h|h)<;>simp[h];rintro(h|h|h)<;>simp[h]
structure Step(w0:World)(U ai:aA)(ph aJ:Ph)(st aW:St)(a':Act)(w w':World)(row:Option Nat):Prop where
 sat:Sat w0 ai aJ aW a' w'
 agree:a8 st.has U ai ph aJ
 grown:w.grownBy w' row
 mono:∀k,st.has k=true->aW.has k=true
 fresh:∀b∈aW.aR,(∃b0∈st.aR,b0.id=b.id)\/w.heap.size<=aJ.r b.id
theorem cc{p:Nat->Bool}:a8 p U U ph ph:=⟨fun _ _=>rfl,fun _ _=>rfl,fun _ _=>rfl⟩
theorem xX{w0 w:World}{st:St}{a:Act}{key:Nat}{e:TypeId}{ls:List ag}{dst:Option Tmp}{s:aN}{v:Value}(h:Sat w0 U ph st a w)(aQ:st.free key 1=true)(xV:a7 st.has ls=true)
   (hsa:s.all (st.bd key 1).has=true) (hv:v=s.ae U (ph.nE key w.heap.size)) :
   Step w0 U U ph (ph.nE key w.heap.size) st ({st.bd key 1 with aR:=kU ⟨key,e,ls⟩ st.aR}.put dst s) (a.put dst v) w (w.alloc (.cells (ls.map (ag.ae U ph)).toArray e)) none:=by
   have th:st.has key=false:=cy aQ (eZ _) (by omega);have bq:a8 st.has U U ph (ph.nE key w.heap.size):=⟨fun _ _=>rfl,fun k hk=>by
     have:k≠key:=fun e=>by rw[e,th]at hk;cases hk
     simp[Ph.nE,this],fun _ _=>rfl⟩
   have iX:=h.congr bq;have gn:w.grownBy (w.alloc (.cells (ls.map (ag.ae U ph)).toArray e)) none:=World.grownBy_alloc w _ none;have bF:∀k,st.has k=true->(st.bd key 1).has k=true:=fun k hk=>fH hk;have hB:w0.heap.size<=w.heap.size:=h.below.size;refine⟨⟨?_,?_,h.below.alloc hB _,by rw[cg];exact h.defers,?_,?_⟩,bq,gn,fun k hk=>by rw[b7];exact bF k hk,fun b hb=>?_⟩
   rotate_right
   rw[bN]at hb;rcases fp.1 hb with rfl|hb;exact .inr (by simp[Ph.nE]);exact .inl ⟨b,hb,rfl⟩;refine lY (st:={st.bd key 1 with aR:=kU ⟨key,e,ls⟩ st.aR}) iX.tmps ?_;exact hv;rw[bN,cJ];have hm:=iX.mem.grown gn;have aki:∀b∈st.aR,b.id≠key:=fun b hb e=>by
     have:=h.names.aR b hb;simp only[gD.all,ah]at this;rw[e,th]at this;simp at this
   refine⟨fun b hb=>?_,fun b hb b' mE ck=>?_,hm.row,fun b hb r hr h1=>?_,hm.rr⟩;rcases fp.1 hb with rfl|hb;refine⟨by simp[Ph.nE];exact hB,?_⟩;simp only[Ph.nE,if_true,heap_alloc_new];have:=jr bq xV;rw[this];rfl;exact hm.lP b hb;have cF:∀b∈st.aR,(ph.nE key w.heap.size).r b.id<w.heap.size:=fun b hb=>(iX.mem.lP b hb).lt;rcases fp.1 hb with rfl|hb<;>rcases fp.1 mE with rfl|mE;exact absurd rfl ck;have:=cF b' mE;simp only[Ph.nE,if_true]at this ⊢;omega;have:=cF b hb;simp only[Ph.nE,if_true]at this ⊢;omega;exact hm.bb b hb b' mE ck;rcases fp.1 hb with rfl|hb;intro aag;simp only[Ph.nE,if_true]at aag;have:=(iX.mem.row r hr h1).rQ aag;omega;exact hm.br b hb r hr h1;refine⟨?_,?_,?_⟩;refine fJ (st:={st.bd key 1 with aR:=kU ⟨key,e,ls⟩ st.aR}) (fun t s ht=>aN.ax bF (h.names.tmps t s ht)) hsa;rw[bN,b7];intro b hb;rcases fp.1 hb with rfl|hb;simp only[gD.all,ah];exact⟨ia (st:=st) (a:=key) (n:=1) (eZ _) (by omega),lX bF xV⟩;exact gD.ax bF (h.names.aR b hb);rw[cJ,b7];exact fun r hr=>Row.ax bF (h.names.rows r hr)
   . refine cP.put (st:={st.bd key 1 with aR:=kU ⟨key,e,ls⟩ st.aR}) (h.nest.next bq rfl bF gn (fun k hk=>by cases hk) rfl (fun b hb=>?_) (fun r hr h1 k hk=>?_));rcases fp.1 hb with rfl|hb;exact .inr (by simp[Ph.nE]);have:=h.names.aR b hb;simp only[gD.all,ah]at this;exact .inl ⟨b,hb,(bq.r _ this.1).symm⟩;have cq:r∈st.rows:=hr;have:=h.names.rows r cq;simp only[Row.all,ah]at this;refine .inl ⟨r,cq,id,h1,?_⟩;unfold Row.bM at hk ⊢;simp only[Ph.val,bq.v _ this.1];exact hk
theorem A6{w0 w:World}{st:St}{a:Act}{key:Nat}{e:TypeId}{ls:List ag}{dst:Option Tmp}{cN:List Ev}{aW:St}(h:Sat w0 U ph st a w)(ha:n5 st key e ls dst=some (cN,aW)) :
   cN=[]/\Step w0 U U ph (ph.nE key w.heap.size) st aW (a.put dst (.pointer (some ⟨w.heap.size,0,none⟩))) w (w.alloc (.cells (ls.map (ag.ae U ph)).toArray e)) none:=by
 unfold n5 at ha;split at ha;rename_i hc;simp only[ah]at hc;obtain⟨aQ,xV⟩:=hc;simp only[af,ao]at ha;obtain⟨rfl,rfl⟩:=ha;refine⟨rfl,xX h aQ xV ?_ ?_⟩;simp only[aN.all,BE.all,SV.all,V1.all,ag.all,Bool.true_and];exact ia (eZ _) (by omega);simp[aN.ae,BE.ae,SV.ae,V1.ae,ag.ae,Ph.nE];cases ha
end
section
open Go.RowKit
variable {U:aA}{ph:Ph}{P:Program}
theorem tZ{w0 w w':World}{st aW:St}{a:Act}{b:gD}{cs:List ag}{dst:Option Tmp}{cN:List Ev}(h:Sat w0 U ph st a w)(hs:setCells st b cs dst=some (cN,aW))(hb:b∈st.aR)
   (hg:w.grownBy w' (some (ph.r b.id))) (hw:w'.heap[ph.r b.id]?=some (.cells (cs.map (ag.ae U ph)).toArray b.ty (0,0))) :
   cN=[]/\Step w0 U U ph ph st aW (a.put dst undef) w w' (some (ph.r b.id)):=by
 unfold setCells at hs;split at hs
 . rename_i ix;simp only[af,ao]at hs;obtain⟨rfl,rfl⟩:=hs;have hB:=(h.mem.lP b hb).1;have mem_set:∀y∈(vm st {b with cells:=cs}).aR,(y = {b with cells:=cs})\/(y∈st.aR/\y.id≠b.id):=by
     intro y hy;simp only[vm,kE]at hy;obtain⟨x,hx,rfl⟩:=hy;split;exact .inl rfl;rename_i ck;exact .inr ⟨hx,ck⟩
   refine⟨rfl,⟨?_,?_,h.below.grown hg h.below.size (fun k hk=>by cases hk;exact hB),by rw[cg];exact h.defers,?_,?_⟩,cc,hg,fun k hk=>by rw[b7];exact hk,fun y hy=>?_⟩
   rotate_right
   rw[bN]at hy;rcases mem_set y hy with rfl|⟨hy,_⟩;exact .inl ⟨b,hb,rfl⟩;exact .inl ⟨y,hy,rfl⟩;exact lY (st:=vm st {b with cells:=cs}) h.tmps lZ.symm;rw[bN,cJ];refine⟨fun y hy=>?_,fun y hy y' Ld ck=>?_,fun r hr h1=>?_,fun y hy r hr h1=>?_,h.mem.rr⟩;rcases mem_set y hy with rfl|⟨hy,ck⟩;exact⟨hB,hw⟩;exact(h.mem.lP y hy).grown hg (fun e=>by
     simp only[af]at e;exact h.mem.bb y hy b hb ck e)
   rcases mem_set y hy with rfl|⟨hy,aah⟩<;>rcases mem_set y' Ld with rfl|⟨Ld,LK⟩;exact absurd rfl ck;exact h.mem.bb b hb y' Ld ck;exact h.mem.bb y hy b hb ck;exact h.mem.bb y hy y' Ld ck;exact(h.mem.row r hr h1).grown hg (fun k hk e=>by
     simp only[af]at e;subst e;exact h.mem.br b hb r hr h1 hk)
   rcases mem_set y hy with rfl|⟨hy,_⟩;exact h.mem.br b hb r hr h1;exact h.mem.br y hy r hr h1;refine⟨fJ (st:=vm st {b with cells:=cs}) h.names.tmps l6,?_,?_⟩;rw[bN,b7];intro y hy;rcases mem_set y hy with rfl|⟨hy,_⟩;have:=h.names.aR b hb;simp only[gD.all,ah]at this ⊢;exact⟨this.1,ix⟩;exact h.names.aR y hy;rw[cJ,b7];exact h.names.rows
   . refine cP.put (st:=vm st {b with cells:=cs}) (h.nest.next cc rfl (fun _ h=>h) hg (fun k hk=>?_) rfl (fun y hy=>?_) (fun r hr h1 k hk=>.inl ⟨r,hr,id,h1,hk⟩));simp only[af]at hk;subst hk;exact⟨h.nest.bz b hb,fun n hn ho e=>((h.nest.oz n hn ho).2 _ e).2.1 b hb rfl⟩;rcases mem_set y hy with rfl|⟨hy,_⟩;exact .inl ⟨b,hb,rfl⟩;exact .inl ⟨y,hy,rfl⟩
 cases hs
theorem wo(r:List Int)(j j':Nat)(x:Int):(l7 r j x).getD j' 0=if j'=j then x else r.getD j' 0:=by
 unfold l7;split;rename_i h;by_cases e:j'=j;subst e;simp[List.getD,h];have e':j≠j':=fun h=>e h.symm;simp[List.getD,List.getElem?_set,e,e'];rename_i h;by_cases e:j'=j;subst e;simp only[if_true,List.getD];rw[qv (by omega),qv (by simp)];simp;simp only[e,if_false,List.getD];by_cases h1:j'<r.length;rw[nT h1];rw[qv (by omega)];by_cases h2:j'<j;rw[nT (by simp;omega)];simp[DS,tW (Nat.le_of_not_lt h1)];split<;>rfl;rw[qv (by simp;omega)];rw[tW (by simp;omega),tW (Nat.le_of_not_lt h1)]
theorem xf(ks:List CK):∀(j0 j:Nat) (r:List Int) (x:Int) (k:CK),ks[j]?=some k->bG ks j0 (l7 r (j0+j) x)=(bG ks j0 r).set j (k.val x):=by
 intro j0 j r x k hk;apply List.ext_getElem?;intro j';rw[hO,List.getElem?_set,b5];have hj:j<ks.length:=(cC.1 hk).1;by_cases e:j=j';subst e;rw[hk];simp only[sG,wo,if_true,hj];simp only[e,if_false];rw[hO];cases h:ks[j']? with
 |none=>rfl
 | some k'=>
   simp only[sG,wo];rw[if_neg (by omega)]
theorem qF(ks:List CK):∀(xs:List (List Int)) (i j:Nat) (x:Int) (k:CK),i<xs.length->ks[j]?=some k->
   av ks (setAt xs (i:Int) j x)=(av ks xs).set (i*ks.length+j) (k.val x):=by
 intro xs;induction xs with
 |nil=>intro i j x k hi;simp at hi
 | cons r rs ih=>
   intro i j x k hi hk;have hj:j<ks.length:=(cC.1 hk).1;cases i with
   | zero=>
     simp only[setAt,xe,List.modify_zero_cons,av,Nat.zero_mul,fP];have:=xf ks 0 j r x k hk;rw[fP]at this;rw[this,List.set_append_left _ _ (by rw[b5];exact hj)]
   | succ i=>
     have TY:=ih i j x k (by simpa using hi) hk;simp only[setAt,xe]at TY ⊢;simp only[List.modify_succ_cons,av,TY];have e:(i+1)*ks.length+j=(bG ks 0 r).length+(i*ks.length+j):=by rw[b5,j7];omega
     rw[e,List.set_append_right _ _ (by omega)];simp
theorem ua(xs:List (List Int))(i:Int)(j:Nat)(x:Int):(setAt xs i j x).length=xs.length:=by simp[setAt]
theorem Ca{w0 w w':World}{st:St}{a:Act}{key:Nat}{nr:Row}{xs:List (List Int)}{rows:List Row}{dst:Option Tmp}{row:Option Nat}{aJ:Ph}{s:aN}{v:Value}
   (h:Sat w0 U ph st a w) (xg:nr.lv=key) (qm:nr.g.all st.has=true) (Vo:nr.g.ae U=true) (aQ:st.free key 1=true) (eC:∀r∈rows,r∈st.rows) (hg:w.grownBy w' row)
   (aY:∀k,row=some k->w0.heap.size<=k/\¬ ph.z k/\∀n∈st.aV,n.own=true->(ph.val n.id).ownBlock≠some k)
   (bq:a8 st.has U (U.set key (.l xs)) ph aJ) (hz:aJ.z=ph.z) (adr:(st.bd key 1).has nr.id=true)
   (jT:∀b∈st.aR,row≠some (ph.r b.id)) (fS:∀r∈rows,r.g.ae U=true->∀k,r.bM U ph=some k->row≠some k)
   (iQ:fw w0.heap.size (U.set key (.l xs)) aJ nr w') (ib:∀k,nr.bM (U.set key (.l xs)) aJ=some k->row=some k\/w.heap.size<=k)
   (hsa:s.all (st.bd key 1).has=true) (hv:v=s.ae (U.set key (.l xs)) aJ) :
   Step w0 U (U.set key (.l xs)) ph aJ st ({st.bd key 1 with rows:=cQ nr rows}.put dst s) (a.put dst v) w w' row:=by
 have th:st.has key=false:=cy aQ (eZ _) (by omega);have iX:=h.congr bq hz;have bF:∀k,st.has k=true->(st.bd key 1).has k=true:=fun k hk=>fH hk;have kV:=fun(q:Row) (hq:q∈st.rows)=>by
   have:=h.names.rows q hq;simpa only[Row.all,ah]using this
 have dT:∀r∈st.rows,r.bM (U.set key (.l xs)) aJ=r.bM U ph:=fun r hr=>by
   unfold Row.bM;rw[<- bq.e _ (kV r hr).2.1];simp only[Ph.val,bq.v _ (kV r hr).1]
 have mQ:∀r∈st.rows,r.g.ae (U.set key (.l xs))=r.g.ae U:=fun r hr=>(BE.ak bq.e (kV r hr).2.2).symm;have qg:∀b∈st.aR,aJ.r b.id=ph.r b.id:=fun b hb=>by
   have:=h.names.aR b hb;simp only[gD.all,ah]at this;exact(bq.r _ this.1).symm
 have xY:∀k,nr.bM (U.set key (.l xs)) aJ=some k->(∀b∈st.aR,ph.r b.id≠k)/\(∀r∈rows,r.g.ae U=true->r.bM U ph≠some k):=by
   intro k hk;rcases ib k hk with e|e;exact⟨fun b hb he=>jT b hb (by rw[e,he]),fun r hr h1 hf=>fS r hr h1 k hf e⟩;refine⟨fun b hb he=>?_,fun r hr h1 hf=>?_⟩;have:=(h.mem.lP b hb).lt;omega;have:=(h.mem.row r (eC r hr) h1).rQ hf;omega
 refine⟨⟨?_,?_,h.below.grown hg h.below.size (fun k hk=>(aY k hk).1),by rw[cg];exact h.defers,?_,?_⟩,bq,hg,fun k hk=>by rw[b7];exact bF k hk,fun b hb=>?_⟩;exact lY (st:={st.bd key 1 with rows:=cQ nr rows}) iX.tmps hv;rw[bN,cJ];refine⟨fun b hb=>(iX.mem.lP b hb).grown hg (fun e=>jT b hb (by rw[<- e,qg b hb])),iX.mem.bb,fun r hr h1=>?_,fun b hb r hr h1=>?_,fun r hr r' cq kF ho h1 h2=>?_⟩;rcases cW.1 hr with rfl|hr;exact iQ;have dg:=eC r hr;rw[mQ r dg]at h1;exact(iX.mem.row r dg (by rw[mQ r dg];exact h1)).grown hg (fun k hk e=>by
   rw[dT r dg]at hk;exact fS r hr h1 k hk e.symm)
 rcases cW.1 hr with rfl|hr;intro hk;rw[qg b hb]at hk;exact(xY _ hk).1 b hb rfl;exact iX.mem.br b hb r (eC r hr) h1;rcases cW.1 hr with e1|q<;>rcases cW.1 cq with e2|q';exact absurd (by rw[e1,e2]) kF;intro k hk cK;rw[e1]at hk;rw[dT r' (eC r' q')]at cK;rw[mQ r' (eC r' q')]at h2;exact(xY k hk).2 r' q' h2 cK;intro k hk cK;rw[e2]at cK;rw[dT r (eC r q)]at hk;rw[mQ r (eC r q)]at h1;exact(xY k cK).2 r q h1 hk;exact iX.mem.rr r (eC r q) r' (eC r' q') kF ho h1 h2;refine⟨?_,?_,?_⟩;exact fJ (st:={st.bd key 1 with rows:=cQ nr rows}) (fun t s ht=>aN.ax bF (h.names.tmps t s ht)) hsa;rw[bN,b7];exact fun b hb=>gD.ax bF (h.names.aR b hb);rw[cJ,b7];intro r hr;rcases cW.1 hr with rfl|hr;simp only[Row.all,ah];have:(st.bd key 1).has key=true:=ia (eZ _) (by omega);exact⟨adr,by rw[xg];exact this,BE.ax bF qm⟩;exact Row.ax bF (h.names.rows r (eC r hr))
 . refine cP.put (st:={st.bd key 1 with rows:=cQ nr rows}) (h.nest.next bq hz bF hg (fun k hk=>(aY k hk).2) rfl (fun b hb=>.inl ⟨b,hb,qg b hb⟩) (fun r hr h1 k hk=>?_));rcases cW.1 hr with rfl|hr;rcases ib k hk with e|e;exact .inr (.inr (.inl e));exact .inr (.inl e);have dg:=eC r hr;exact .inl ⟨r,dg,id,by rw[<- mQ r dg];exact h1,by rw[<- dT r dg];exact hk⟩
 rw[bN]at hb;exact .inl ⟨b,hb,rfl⟩
theorem kf{w0 w w':World}{st:St}{a:Act}{key:Nat}{e:TypeId}{ks:List CK}{xs:List (List Int)}{rows:List Row}{dst:Option Tmp}{sl:Option Addr×Nat×Nat}{row:Option Nat}{G:BE}
   (h:Sat w0 U ph st a w) (qm:G.all st.has=true) (Vo:G.ae U=true) (aQ:st.free key 1=true) (lR:0<ks.length) (eC:∀r∈rows,r∈st.rows) (hg:w.grownBy w' row)
   (aY:∀k,row=some k->w0.heap.size<=k/\¬ ph.z k/\∀n∈st.aV,n.own=true->(ph.val n.id).ownBlock≠some k)
   (jT:∀b∈st.aR,row≠some (ph.r b.id)) (fS:∀r∈rows,r.g.ae U=true->∀k,r.bM U ph=some k->row≠some k)
   (bA:w'.ownsRow w0.heap.size e ks.length (.slice sl.1 sl.2.1 sl.2.2) xs.length (av ks xs)) (ib:(Value.slice sl.1 sl.2.1 sl.2.2).ownBlock=row\/(Value.slice sl.1 sl.2.1 sl.2.2).ownBlock=some w.heap.size\/(Value.slice sl.1 sl.2.1 sl.2.2).ownBlock=none) :
   Step w0 U (U.set key (.l xs)) ph (ph.uc key sl) st ({st.bd key 1 with rows:=cQ ⟨key,e,ks,key,true,G⟩ rows}.put dst ⟨G,.v (.one (.s key))⟩)
     (a.put dst (.slice sl.1 sl.2.1 sl.2.2)) w w' row:=by
 have th:st.has key=false:=cy aQ (eZ _) (by omega);have ck:∀k,st.has k=true->k≠key:=fun k hk e=>by rw[e,th]at hk;cases hk
 have bq:a8 st.has U (U.set key (.l xs)) ph (ph.uc key sl):=⟨fun k hk=>by simp[aA.set,ck k hk],fun _ _=>rfl,fun k hk=>by simp[Ph.uc,ck k hk]⟩;have fi:(ph.uc key sl).val key = .slice sl.1 sl.2.1 sl.2.2:=by simp[Ph.val,Ph.uc]
 have wq:(st.bd key 1).has key=true:=ia (eZ _) (by omega);refine Ca (nr:=⟨key,e,ks,key,true,G⟩) h rfl qm Vo aQ eC hg aY bq rfl wq jT fS ⟨lR,?_⟩ (fun k hk=>?_) ?_ ?_;simp only[if_true,fi,aA.set,DV.list];exact bA;simp only[Row.bM,Bool.true_or,if_true,fi]at hk;rcases ib with e|e|e;exact .inl (by rw[<- e,hk]);rw[hk]at e;simp only[af]at e;exact .inr (by omega);rw[hk]at e;cases e;simp only[aN.all,SV.all,V1.all,ag.all,ah];exact⟨BE.ax (fun k hk=>fH hk) qm,wq⟩;have ads:G.ae (U.set key (.l xs))=true:=by rw[<- BE.ak bq.e qm];exact Vo
 simp[aN.ae,ads,SV.ae,V1.ae,ag.ae,fi]
theorem Jh{w0 w:World}{st:St}{a:Act}{key:Nat}{e:TypeId}{ks:List CK}{xs:List (List Int)}{dst:Option Tmp}{G:BE}
   (h:Sat w0 U ph st a w) (qm:G.all st.has=true) (hGf:G.ae U=false) (aQ:st.free key 1=true) :
   Step w0 U (U.set key (.l xs)) ph ph st ({st.bd key 1 with rows:=cQ ⟨key,e,ks,key,true,G⟩ st.rows}.put dst ⟨G,.v (.one (.s key))⟩) (a.put dst undef) w w none:=by
 have th:st.has key=false:=cy aQ (eZ _) (by omega);have ck:∀k,st.has k=true->k≠key:=fun k hk e=>by rw[e,th]at hk;cases hk
 have bq:a8 st.has U (U.set key (.l xs)) ph ph:=⟨fun k hk=>by simp[aA.set,ck k hk],fun _ _=>rfl,fun k hk=>rfl⟩;have iX:=h.congr bq;have bF:∀k,st.has k=true->(st.bd key 1).has k=true:=fun k hk=>fH hk;have Fy:G.ae (U.set key (.l xs))=false:=by rw[<- BE.ak bq.e qm];exact hGf
 have ib:(st.bd key 1).has key=true:=ia (eZ _) (by omega);refine⟨⟨?_,?_,h.below,by rw[cg];exact h.defers,?_,?_⟩,bq,bW w,fun k hk=>by rw[b7];exact bF k hk,fun b hb=>.inl ⟨b,by rw[bN]at hb;exact hb,rfl⟩⟩;refine lY (st:={st.bd key 1 with rows:=cQ ⟨key,e,ks,key,true,G⟩ st.rows}) iX.tmps ?_;simp only[aN.ae,Fy];rfl;rw[bN,cJ];have hk:=iX.mem;have ho:∀r∈cQ ⟨key,e,ks,key,true,G⟩ st.rows,r.g.ae (U.set key (.l xs))=true->r∈st.rows:=fun r hr h1=>by
   rcases cW.1 hr with rfl|hr;rw[Fy]at h1;cases h1;exact hr
 exact⟨hk.lP,hk.bb,fun r hr h1=>hk.row r (ho r hr h1) h1,fun b hb r hr h1=>hk.br b hb r (ho r hr h1) h1,fun r hr r' cq ck hw h1 h2=>hk.rr r (ho r hr h1) r' (ho r' cq h2) ck hw h1 h2⟩;refine⟨?_,?_,?_⟩;refine fJ (st:={st.bd key 1 with rows:=cQ ⟨key,e,ks,key,true,G⟩ st.rows}) (fun t s ht=>aN.ax bF (h.names.tmps t s ht)) ?_;simp only[aN.all,SV.all,V1.all,ag.all,ah];exact⟨BE.ax bF qm,ib⟩;rw[bN,b7];exact fun b hb=>gD.ax bF (h.names.aR b hb);rw[cJ,b7];intro r hr;rcases cW.1 hr with rfl|hr;simp only[Row.all,ah];exact⟨ib,ib,BE.ax bF qm⟩;exact Row.ax bF (h.names.rows r hr)
 . refine cP.put (st:={st.bd key 1 with rows:=cQ ⟨key,e,ks,key,true,G⟩ st.rows}) (iX.nest.next (cc (p:=st.has)) rfl bF (bW w) (fun k hk=>by cases hk) rfl (fun b hb=>.inl ⟨b,hb,rfl⟩) (fun r hr h1 k hk=>?_));rcases cW.1 hr with rfl|hr;rw[Fy]at h1;cases h1;exact .inl ⟨r,hr,id,h1,hk⟩
end
section
open Go.RowKit
variable {U:aA}{ph:Ph}{P:Program}
def DV.kind:CT->DV->Bool
 |.c (.i _),.i _=>true
 |.c .b,.b _=>true
 |.c .f,.i _=>true
 |.s _ _,.l _=>true
 |.n _ _,.l _=>true
 |_,_=>false
def kinds:List CT->List DV->Bool
 | [],[]=>true
 |c::cs,d::ds=>d.kind c&&kinds cs ds
 |_,_=>false
structure cL where
 sig:bJ
 pre:List DV->Prop
 rel:List DV->List DV->Prop
 ne:∀ds,pre ds->∃rs,kinds (bt sig.res) rs=true/\rel ds rs
structure bK where
 get:FuncId->Option cL
 fl:Int->Prop
instance :CoeFun bK (fun _=>FuncId->Option cL):=⟨bK.get⟩
def bK.at(Γ:bK)(fl:Int->Prop):bK:=⟨Γ.get,fl⟩
def defs:List CT->List DV
 | []=>[]
 |.c (.i _)::cs=>.i 0::defs cs
 |.c .b::cs=>.b false::defs cs
 |.c .f::cs=>.i 0::defs cs
 |.s _ _::cs=>.l []::defs cs
 |.n _ _::cs=>.l []::defs cs
theorem gN:∀cs:List CT,kinds cs (defs cs)=true/\(defs cs).length=cs.length:=by
 intro cs;induction cs with
 |nil=>exact⟨rfl,rfl⟩
 | cons c cs ih=>
   cases c with
   |c k=>cases k<;>simp[defs,kinds,DV.kind,ih]
   |s e ks=>simp[defs,kinds,DV.kind,ih]
   |n e aH=>simp[defs,kinds,DV.kind,ih]
def Ev.holds(Γ:bK)(e:Ev)(k:aA->Prop)(U:aA):Prop:=
 match e with
 |.aG p=>p.ae U=true/\k U
 |.call f g args res base=>(g.ae U=true->∃c,Γ f=some c/\c.pre (args.map (DE.ae U))/\
     ∀rs,kinds (bt res) rs=true->c.rel (args.map (DE.ae U)) rs->k (U.ay base rs))/\(g.ae U=false->k (U.ay base (defs (bt res))))
 |.cu id op=>k (U.set id (.l (op.ae U)))
 |.dh p e=>(p.ae U=true->k U)/\(p.ae U=false->Γ.fl (e.ae U))
theorem Ev.iY{Γ:bK}{e:Ev}{k k':aA->Prop}{U:aA}(hk:∀U,k U->k' U)(h:e.holds Γ k U):e.holds Γ k' U:=by
 cases e with
 |aG p=>exact⟨h.1,hk _ h.2⟩
 | call f g args res base=>
   refine⟨fun hg=>?_,fun hg=>hk _ (h.2 hg)⟩;obtain⟨c,h1,h2,h3⟩:=h.1 hg;exact⟨c,h1,h2,fun rs a b=>hk _ (h3 rs a b)⟩
 |cu id op=>exact hk _ h
 |dh p e=>exact⟨fun hp=>hk _ (h.1 hp),h.2⟩
def aL(Γ:bK):List Ev->(aA->Prop)->aA->Prop
 | [],k,U=>k U
 |e::es,k,U=>e.holds Γ (aL Γ es k) U
theorem eO{Γ:bK}{k:aA->Prop}:∀ {es Q9:List Ev} {U:aA},aL Γ (es++Q9) k U=aL Γ es (aL Γ Q9 k) U:=by
 intro es;induction es with
 |nil=>intro Q9 U;rfl
 | cons e es ih=>
   intro Q9 U;have:aL Γ (es++Q9) k=aL Γ es (aL Γ Q9 k):=funext fun _=>ih;simp only[nU,aL,this]
def sU(ph:Ph):ag->Option Nat
 |.p id _=>some (ph.r id)
 |.pi id _ _ _ _=>some (ph.r id)
 |.ep row _ _ _=>(ph.val row).ownBlock
 |_=>none
def qh(st:St)(ph:Ph):Op->Option Nat
 |.store _ a _=>(bc st (.c true) a).bind (sU ph)
 | .call {callee:=.builtin .append,args,..}=>match args.toList with
   | x::_=>match bc st (.c true) x with
     |some (.s row)=>(ph.val row).ownBlock
     |_=>none
   | []=>none
 | .call {callee:=.builtin .copy,args,..}=>match args.toList with
   | x::_=>match bc st (.c true) x with
     |some (.s row)=>(ph.val row).ownBlock
     |_=>none
   | []=>none
 | .call {callee:=.builtin .clear,args,..}=>match args.toList with
   | x::_=>match bc st (.c true) x with
     |some (.s row)=>(ph.val row).ownBlock
     |_=>none
   | []=>none
 |_=>none
def n7(o:Oper)(a a':Act):Next->Prop
 |.value v=>a'=a.put o.dst v
 |.skip=>a'=a.put o.dst undef
 |_=>False
def mH(Γ:bK)(P:Program)(w0:World)(U:aA)(ph:Ph)(st aW:St)(o:Oper)(a:Act)(w:World)(k:aA->Prop):Prop:=
 ∃nx w' a' ai aJ,(execOp a.eval o).run P w = .ok nx w'/\n7 o a a' nx/\Step w0 U ai ph aJ st aW a' w w' (qh st ph o.op)/\k ai
theorem DT{cells:List ag}{o:Nat}{l m:ag}(hc:cells[o]?=some l)(h:m.ae U ph=l.ae U ph):(cells.set o m).map (ag.ae U ph)=cells.map (ag.ae U ph):=by
 rw[List.map_set,h];apply List.ext_getElem?;intro q;rw[List.getElem?_set];split;rename_i hm;subst hm;obtain⟨FF,Ji⟩:=cC.1 hc;simp[FF,Ji];rfl
theorem wx{x:IE}{l:ag}{sz o j n:Nat}{cells r:List ag}(h:oZ x l sz cells o j (n+1)=some r):∃c m,cells[o]?=some c/\oZ x l sz (cells.set o m) (o+sz) (j+1) n=some r/\
   (x.ae U=(j:Int)->m.ae U ph=l.ae U ph)/\(x.ae U≠(j:Int)->m.ae U ph=c.ae U ph):=by
 simp only[oZ]at h;split at h;rename_i k a k' b hc;split at h;rename_i hk;subst hk;exact⟨_,_,hc,h,fun e=>by simp[ag.ae,IE.ae,e],fun e=>by simp[ag.ae,IE.ae,e]⟩;cases h;rename_i p q hc;exact⟨_,_,hc,h,fun e=>by simp[ag.ae,BE.ae,IE.ae,e],fun e=>by simp[ag.ae,BE.ae,IE.ae,e]⟩;cases h
theorem DU{x:IE}{l:ag}{sz:Nat}:∀ {n j:Nat} {cells r:List ag} {o:Nat},oZ x l sz cells o j n=some r->x.ae U<(j:Int)->r.length=cells.length/\r.map (ag.ae U ph)=cells.map (ag.ae U ph):=by
 intro n;induction n with
 |zero=>intro j cells r o h _;simp only[oZ,af]at h;subst h;exact⟨rfl,rfl⟩
 | succ n ih=>
   intro j cells r o h cF;obtain⟨c,m,hc,h',_,h2⟩:=wx (U:=U) (ph:=ph) h;obtain⟨e1,e2⟩:=ih h' (by omega);exact⟨by simpa using e1,by rw[e2,DT hc (h2 (by omega))]⟩
theorem DW{x:IE}{l:ag}{sz:Nat}:∀ {n j:Nat} {cells r:List ag} {o:Nat},oZ x l sz cells o j n=some r->∀i:Nat,x.ae U=((j+i:Nat):Int)->i<n->
   r.length=cells.length/\o+i*sz<cells.length/\r.map (ag.ae U ph)=(cells.map (ag.ae U ph)).set (o+i*sz) (l.ae U ph):=by
 intro n;induction n with
 |zero=>intro j cells r o _ i _ hi;omega
 | succ n ih=>
   intro j cells r o h i hx hi;obtain⟨c,m,hc,h',h1,h2⟩:=wx (U:=U) (ph:=ph) h;have cF:o<cells.length:=(cC.1 hc).1;cases i with
   | zero=>
     simp only[gA]at hx;obtain⟨e1,e2⟩:=DU (U:=U) (ph:=ph) h' (by omega);refine⟨by simpa using e1,by simpa using cF,?_⟩;rw[e2,List.map_set,h1 hx];simp
   | succ i=>
     obtain⟨e1,e2,e3⟩:=ih h' i (by rw[hx];congr 1;omega) (by omega);have hs:o+(i+1)*sz=o+sz+i*sz:=by rw[j7];omega
     refine⟨by simpa using e1,by simpa[hs]using e2,?_⟩;rw[e3,hs,DT hc (h2 (by omega))]
theorem Ai{cells LL:List ag}(h:cells.map (ag.ae U ph)=LL.map (ag.ae U ph))(off:Nat)(ls:List ag):(gM cells off ls).map (ag.ae U ph)=(gM LL off ls).map (ag.ae U ph):=by
 rw[lr,lr,h]
theorem Cb{x:IE}{sz n:Nat}{i:Nat}(hx:x.ae U=(i:Int))(hi:i<n):∀ {ls cells r:List ag} {off:Nat},ud x sz n cells off ls=some r->
   r.length=cells.length/\(0<ls.length->off+i*sz+ls.length<=cells.length)/\r.map (ag.ae U ph)=(gM cells (off+i*sz) ls).map (ag.ae U ph):=by
 intro ls;induction ls with
 |nil=>intro cells r off h;simp only[ud,af]at h;subst h;exact⟨rfl,fun h=>by simp at h,rfl⟩
 | cons l ls ih=>
   intro cells r off h;simp only[ud]at h;split at h;rename_i cs ix;obtain⟨e1,e2,e3⟩:=DW (U:=U) (ph:=ph) ix i (by rw[hx];simp) hi;obtain⟨f1,f2,f3⟩:=ih h;refine⟨by rw[f1,e1],fun _=>?_,?_⟩;rcases Nat.eq_zero_or_pos ls.length with h0|h0;simp only[tY,h0];omega;have:=f2 h0;simp only[tY];omega;rw[f3];simp only[gM];rw[show off+1+i*sz=off+i*sz+1 by omega];exact Ai (by rw[e3,List.map_set]) _ _;cases h
theorem iy{Γ:bK}{p:BE}{es:List Ev}{k:aA->Prop}(h:aL Γ (.aG p::es) k U):p.ae U=true/\aL Γ es k U:=h
theorem bU:(BE.c true).ae U=true:=rfl
theorem lS{B:Nat}{w0 w:World}{st:St}{a:Act}(hs:Sat w0 U ph st a w){r:Row}(a6:r∈st.rows)(bA:r.own=true)(ky:r.g.ae U=true){k:Nat}(hk:(ph.val r.id).ownBlock=some k) :
   (w0.heap.size<=k/\¬ ph.z k/\∀n∈st.aV,n.own=true->(ph.val n.id).ownBlock≠some k)/\(∀b∈st.aR,some k≠some (ph.r b.id))/\∀q∈st.rows,q.id≠r.id->q.g.ae U=true->∀k',q.bM U ph=some k'->some k≠some k':=by
 have dT:r.bM U ph=some k:=by simp[Row.bM,bA,hk]
 have aY:=hs.mem.row r a6 ky;have cD:=aY.2;rw[if_pos bA]at cD;refine⟨⟨(cD.lt k hk).1,hs.nest.rz r a6 bA ky k dT,fun n hn ho e=>((hs.nest.oz n hn ho).2 _ e).2.2.1 r a6 ky dT⟩,fun b hb e=>?_,fun q hq ck LM k' cK e=>?_⟩;simp only[af]at e;exact hs.mem.br b hb r a6 ky (by rw[dT,e]);simp only[af]at e;subst e;exact hs.mem.rr r a6 q hq (fun e=>ck e.symm) bA ky LM k dT cK
theorem qG{w0 w w':World}{st:St}{a:Act}{dst:Option Tmp}{key:Nat}{r:Row}{k9:List (List Int)}{s:aN}{v:Value}(hs:Sat w0 U ph st a w)(a6:r∈st.rows)(bA:r.own=true)(ky:r.g.ae U=true)
   (aQ:st.free key 1=true) (ib:w'.ownsRow w0.heap.size r.e r.ks.length (ph.val r.id) k9.length (av r.ks k9)) (gn:w.grownBy w' (ph.val r.id).ownBlock)
   (hsa:s.all (st.bd key 1).has=true) (hv:v=s.ae (U.set key (.l k9)) ph) :
   Step w0 U (U.set key (.l k9)) ph ph st ({st.bd key 1 with rows:=cQ {r with lv:=key} (st.rows.filter fun z=>decide (z.id≠r.id)) }.put dst s) (a.put dst v) w w' (ph.val r.id).ownBlock:=by
 have th:st.has key=false:=cy aQ (eZ _) (by omega);have ck:∀k,st.has k=true->k≠key:=fun k hk e=>by rw[e,th]at hk;cases hk
 have bq:a8 st.has U (U.set key (.l k9)) ph ph:=⟨fun k hk=>by simp[aA.set,ck k hk],fun _ _=>rfl,fun _ _=>rfl⟩;have hn:=hs.names.rows r a6;simp only[Row.all,ah]at hn;have qH:∀q∈st.rows.filter (fun z=>decide (z.id≠r.id)),q∈st.rows/\q.id≠r.id:=fun q hq=>by
   have:=iK.1 hq;exact⟨this.1,by simpa using this.2⟩
 refine Ca (nr:={r with lv:=key}) hs rfl hn.2.2 ky aQ (fun q hq=>(qH q hq).1) gn (fun k hk=>(lS (B:=0) hs a6 bA ky hk).1) bq rfl (fH hn.1)
   (fun b hb e=>(lS (B:=0) hs a6 bA ky e).2.1 b hb rfl) (fun q hq LM k hk e=>(lS (B:=0) hs a6 bA ky e).2.2 q (qH q hq).1 (qH q hq).2 LM k hk rfl)
   ⟨(hs.mem.row r a6 ky).1,?_⟩ (fun k hk=>.inl ?_) hsa hv
 rw[if_pos bA];simp only[aA.set,if_true,DV.list];exact ib;simpa[Row.bM,bA]using hk
theorem qI{Γ:bK}{w0 w w':World}{st:St}{a:Act}{o:Oper}{t:TypeId}{x y:Operand}{v:V1}{key:Nat}{k:aA->Prop}{r:Row}{sz j g cap:Nat}{z:IE}{op:cT}{k9:List (List Int)}(hs:Sat w0 U ph st a w)(ho:o.op = .store t x y)
   (hl:bc st (.c true) x=some (.ep r.id sz z j)) (a6:r∈st.rows) (bA:r.own=true) (ky:r.g.ae U=true)
   (aQ:st.free key 1=true) (aY:fw w0.heap.size U ph r w) (fi:ph.val r.id = .slice (some ⟨g,0,none⟩) (U r.lv).list.length cap) (hBg:w0.heap.size<=g) (Cc:op.ae U=k9) (nV:k9.length=(U r.lv).list.length)
   (dM:(Instr.storeAt t ((ag.ep r.id sz z j).ae U ph) (v.ae U ph)).run P w = .ok () w') (ib:w'.ownsRow w0.heap.size r.e r.ks.length (.slice (some ⟨g,0,none⟩) (U r.lv).list.length cap) (U r.lv).list.length (av r.ks k9)) (gn:w.grownBy w' (some g))
   (cd:∀w',(Instr.storeAt t ((ag.ep r.id sz z j).ae U ph) (v.ae U ph)).run P w = .ok () w'->(execOp a.eval o).run P w = .ok .skip w') (hk:aL Γ [.cu key op] k U) :
   mH Γ P w0 U ph st ({st.bd key 1 with rows:=cQ {r with lv:=key} (st.rows.filter fun z=>decide (z.id≠r.id)) }.put o.dst jw) o a w k:=by
 have cK:k (U.set key (.l k9)):=by rw[<- Cc];exact hk
 have LN:(ph.val r.id).ownBlock=some g:=by rw[fi];rfl
 have hW:qh st ph o.op=(ph.val r.id).ownBlock:=by simp[ho,qh,hl,sU]
 refine⟨.skip,_,_,U.set key (.l k9),ph,cd _ dM,rfl,?_,cK⟩;rw[hW];exact qG hs a6 bA ky aQ (by rw[fi,nV];exact ib) (by rw[LN];exact gn) l6 lZ.symm
theorem A7(x:Bool):Value.bool x=CK.b.val (if x=true then 1 else 0):=by cases x<;>rfl
theorem qJ:∀ {ks:List CK} {ls:List ag} {xs:List (Sum IE BE)},dB ks ls=some xs->∀(pre:List Int) (j:Nat),pre.length=j->ls.map (ag.ae U ph)=bG ks j (pre++xs.map (bV U)):=by
 intro ks;induction ks with
 | nil=>intro ls xs h pre j hj;cases ls with
   |nil=>rfl
   |cons l ls=>simp[dB]at h
 | cons k ks ih=>intro ls xs h pre j hj;cases ls with
   |nil=>simp[dB]at h
   | cons l ls=>
     simp only[dB]at h;split at h;rename_i x k9 hx qe;simp only[af]at h;subst h;have h1:=ih qe (pre++[bV U x]) (j+1) (by simp[hj]);simp only[jt,bG];have e1:pre++bV U x::k9.map (bV U)=(pre++[bV U x])++k9.map (bV U):=by simp
     rw[e1,<- h1];congr 1;have e2:((pre++[bV U x])++k9.map (bV U)).getD j 0=bV U x:=by
       subst hj;simp[eI]
     rw[e2];unfold l9 at hx;split at hx;split at hx;rename_i hk;subst hk;simp only[af]at hx;subst hx;rfl;cases hx;simp only[af]at hx;subst hx;rename_i b;exact A7 _;cases hx;cases h
theorem mR:∀ {ks:List CK} {ls:List ag} {xs:List (Sum IE BE)},dB ks ls=some xs->ls.length=ks.length/\xs.length=ks.length:=by
 intro ks;induction ks with
 | nil=>intro ls xs h;cases ls with
   |nil=>simp only[dB,af]at h;subst h;exact⟨rfl,rfl⟩
   |cons l ls=>simp[dB]at h
 | cons k ks ih=>intro ls xs h;cases ls with
   |nil=>simp[dB]at h
   | cons l ls=>
     simp only[dB]at h;split at h;rename_i x k9 hx qe;simp only[af]at h;subst h;obtain⟨h1,h2⟩:=ih qe;exact⟨by simp[h1],by simp[h2]⟩;cases h
theorem o0{kd:CK}{l:ag}{x:Sum IE BE}(h:l9 kd l=some x):l.ae U ph=kd.val (bV U x):=by
 unfold l9 at h;split at h;split at h;rename_i hk;subst hk;simp only[af]at h;subst h;rfl;cases h;simp only[af]at h;subst h;exact A7 _;cases h
theorem DX{Γ:bK}{w0 w:World}{st:St}{a:Act}{o:Oper}{t:TypeId}{x y:Operand}{v:V1}{key:Nat}{k:aA->Prop}{r:Row}{sz j:Nat}{z:IE}{e:Sum IE BE}{kd:CK}{lf:ag}(hs:Sat w0 U ph st a w)(ho:o.op = .store t x y)
   (hl:bc st (.c true) x=some (.ep r.id sz z j)) (hv:jX st (.c true) y=some v) (Fz:v.leaves=[lf]) (hlc:l9 kd lf=some e) (hlen:v.leaves.length=P.cellsOf t) (a6:r∈st.rows) (bA:r.own=true) (ky:r.g.ae U=true)
   (sH:r.ks.length=sz) (hkj:r.ks[j]?=some kd) (aQ:st.free key 1=true) (h0:0<=z.ae U) (h1:z.ae U<((U r.lv).list.length:Int))
   (cd:∀w',(Instr.storeAt t ((ag.ep r.id sz z j).ae U ph) (v.ae U ph)).run P w = .ok () w'->(execOp a.eval o).run P w = .ok .skip w') (hk:aL Γ [.cu key (.set r.lv z j e)] k U) :
   mH Γ P w0 U ph st ({st.bd key 1 with rows:=cQ {r with lv:=key} (st.rows.filter fun z=>decide (z.id≠r.id)) }.put o.dst jw) o a w k:=by
 subst sH;have aY:=hs.mem.row r a6 ky;have cD:=aY.2;rw[if_pos bA]at cD;obtain⟨ad,cap,iJ,_⟩:=iE aY h0 h1;have fi:ph.val r.id = .slice (some ad) (U r.lv).list.length cap:=by simp[Ph.val,iJ]
 rw[fi]at cD;have had:∃g,ad=⟨g,0,none⟩/\w0.heap.size<=g:=by
   rcases cD.2 with⟨e1,_⟩|⟨g,nX,cur,e1,hg,_⟩;simp at e1;simp only[Value.slice.injEq,af]at e1;exact⟨g,e1.1,hg⟩
 obtain⟨g,rfl,hBg⟩:=had;have hj:j<r.ks.length:=(cC.1 hkj).1;obtain⟨i,hi⟩:∃i:Nat,z.ae U=(i:Int):=⟨(z.ae U).toNat,by omega⟩;have LO:i<(U r.lv).list.length:=by omega
 have FE:i*r.ks.length+j<(U r.lv).list.length*r.ks.length:=by
   have:(i+1)*r.ks.length<=(U r.lv).list.length*r.ks.length:=vn _ (by omega);rw[j7]at this;omega
 have la:=cD.cellAt (i*r.ks.length+j) FE;have hfz:=cD.frozenAt (i*r.ks.length+j);obtain⟨ib,gn⟩:=cD.stored (i*r.ks.length+j) (kd.val (bV U e));have ix:∃u,w.cell? ⟨g,i*r.ks.length+j,none⟩=some u:=by
   rw[la];have:i*r.ks.length+j<(av r.ks (U r.lv).list).length:=by rw[bH];exact FE
   exact⟨_,fV this⟩
 obtain⟨u,hu⟩:=ix;have dM:(Instr.storeAt t ((ag.ep r.id r.ks.length z j).ae U ph) (v.ae U ph)).run P w = .ok () (w.setCell ⟨g,i*r.ks.length+j,none⟩ (kd.val (bV U e))):=by
   have rV:0<P.cellsOf t:=by rw[<- hlen,Fz];simp
   have lu:P.cellsOf t=1:=by rw[<- hlen,Fz];rfl
   simp only[Instr.storeAt,ag.ae,iJ,Instr.sureAddr,dz,eU,dc,storeVar,bT rV,V1.eN,Fz];rw[if_neg (by simp[lu])];simp only[jt,mJ,o0 (U:=U) (ph:=ph) hlc,storeCells,dz,hi,xe,gd,gA,iD,fP];rw[run_store P w _ _ _ (CK.mO _ _)];simp[stored,hu,hfz]
 refine qI hs ho hl a6 bA ky aQ aY fi hBg (k9:=setAt (U r.lv).list (z.ae U) j (bV U e)) rfl (ua ..) dM ?_ gn cd hk;rw[hi,qF r.ks _ i j _ _ LO hkj];exact ib
theorem xZ{ks:List CK}{ls:List ag}{r:List (Sum IE BE)}(h:dB ks ls=some r):bG ks 0 (r.map (bV U))=ls.map (ag.ae U ph):=by
 have:=qJ (U:=U) (ph:=ph) h [] 0 rfl;simpa using this.symm
theorem rW:∀(vs cells:List Value) (off k:Nat),off+k+vs.length<=cells.length->
   (vs.zipIdx k).foldl (fun cs (x:Value×Nat)=>cs.set (off+x.2) x.1) cells=cells.take (off+k)++vs++cells.drop (off+k+vs.length):=by
 intro vs;induction vs with
 |nil=>intro cells off k h;simp
 | cons v vs ih=>
   intro cells off k h;simp only[tY]at h;simp only[List.zipIdx_cons,vh];rw[ih _ off (k+1) (by simp;omega)];have e1:(cells.set (off+k) v).take (off+(k+1))=cells.take (off+k)++[v]:=by
     rw[show off+(k+1)=(off+k)+1 by omega,List.take_succ_eq_append_getElem (by simp;omega)];simp[List.take_set_of_le]
   have e2:(cells.set (off+k) v).drop (off+(k+1)+vs.length)=cells.drop (off+k+(vs.length+1)):=by
     rw[List.drop_set_of_lt (by omega)];congr 1;omega
   rw[e1,e2];simp
theorem xh(ks:List CK)(row:List Int):∀(xs:List (List Int)) (i:Nat),i<xs.length->av ks (xs.modify i (fun _=>row))=(av ks xs).take (i*ks.length)++(bG ks 0 row++(av ks xs).drop (i*ks.length+ks.length)):=by
 intro xs;induction xs with
 |nil=>intro i hi;simp at hi
 | cons r rs ih=>
   intro i hi;have hl:=b5 ks 0 r;cases i with
   | zero=>
     simp only[List.modify_zero_cons,av,Nat.zero_mul,List.take_zero,kG,fP];rw[FN (by omega),ue (by omega),kG]
   | succ i=>
     simp only[List.modify_succ_cons,av];rw[ih i (by simpa using hi)];have e:(i+1)*ks.length=ks.length+i*ks.length:=by rw[j7];omega
     rw[e,List.take_append,List.drop_append,hl,show ks.length+i*ks.length-ks.length=i*ks.length by omega,show ks.length+i*ks.length+ks.length-ks.length=i*ks.length+ks.length by omega];rw[oV (l:=bG ks 0 r) (by omega),ue (l:=bG ks 0 r) (by omega)];simp
theorem vo(ks:List CK):∀(j:Nat) (r:List Int),∀u∈bG ks j r,u.oneCell'=true:=by
 induction ks with
 |nil=>intro j r u hu;simp[bG]at hu
 | cons k ks ih=>
   intro j r u hu;simp only[bG,bh]at hu;rcases hu with rfl|hu;exact CK.mO _ _;exact ih _ _ u hu
theorem Cd{Γ:bK}{w0 w:World}{st:St}{a:Act}{o:Oper}{t:TypeId}{x y:Operand}{v:V1}{key:Nat}{k:aA->Prop}{r:Row}{z:IE}{es:List (Sum IE BE)}(hs:Sat w0 U ph st a w)(ho:o.op = .store t x y)
   (hl:bc st (.c true) x=some (.ep r.id r.ks.length z 0)) (hv:jX st (.c true) y=some v) (FA:v.leaves.map (ag.ae U ph)=bG r.ks 0 (es.map (bV U))) (hlen:v.leaves.length=P.cellsOf t) (a6:r∈st.rows) (bA:r.own=true) (ky:r.g.ae U=true)
   (aQ:st.free key 1=true) (h0:0<=z.ae U) (h1:z.ae U<((U r.lv).list.length:Int))
   (cd:∀w',(Instr.storeAt t ((ag.ep r.id r.ks.length z 0).ae U ph) (v.ae U ph)).run P w = .ok () w'->(execOp a.eval o).run P w = .ok .skip w') (hk:aL Γ [.cu key (.Aj r.lv z es)] k U) :
   mH Γ P w0 U ph st ({st.bd key 1 with rows:=cQ {r with lv:=key} (st.rows.filter fun z=>decide (z.id≠r.id)) }.put o.dst jw) o a w k:=by
 have aY:=hs.mem.row r a6 ky;have cD:=aY.2;rw[if_pos bA]at cD;obtain⟨ad,cap,iJ,_⟩:=iE aY h0 h1;have fi:ph.val r.id = .slice (some ad) (U r.lv).list.length cap:=by simp[Ph.val,iJ]
 rw[fi]at cD;obtain⟨nV,⟨e1,_⟩|⟨g,nX,cur,e1,hg,hh,tc,RE,ix,qK⟩⟩:=cD;simp at e1;simp only[Value.slice.injEq,af,true_and]at e1;obtain⟨rfl,rfl⟩:=e1;obtain⟨i,hi⟩:∃i:Nat,z.ae U=(i:Int):=⟨(z.ae U).toNat,by omega⟩;have LO:i<(U r.lv).list.length:=by omega
 have qL:(bG r.ks 0 (es.map (bV U))).length=r.ks.length:=b5 _ _ _;have vp:i*r.ks.length+r.ks.length<=(U r.lv).list.length*r.ks.length:=by
   have:(i+1)*r.ks.length<=(U r.lv).list.length*r.ks.length:=vn _ (by omega);rw[j7]at this;omega
 have ti:(U r.lv).list.length*r.ks.length<=cap*r.ks.length:=vn _ tc;have mD:cur.toList.length=cap*r.ks.length:=by simpa using ix
 obtain⟨w',hr,gn,Le⟩:=jx (P:=P) g r.e (i*r.ks.length) (bG r.ks 0 (es.map (bV U))) 0 cur.toList w (by simpa using hh) (by rw[qL,mD];omega) (vo _ _ _);have o7:=rW (bG r.ks 0 (es.map (bV U))) cur.toList (i*r.ks.length) 0 (by rw[qL,mD];omega);simp only[gA]at o7;rw[o7]at Le;have dM:(Instr.storeAt t ((ag.ep r.id r.ks.length z 0).ae U ph) (v.ae U ph)).run P w = .ok () w':=by
   have hlk:P.cellsOf t=r.ks.length:=by
     have:=congrArg List.length FA;rw[kT,qL]at this;omega
   have rV:0<P.cellsOf t:=by rw[hlk];exact aY.1
   simp only[Instr.storeAt,ag.ae,iJ,Instr.sureAddr,dz,eU,dc,storeVar,bT rV,V1.eN];rw[if_neg (by simp[hlen]),FA];simp only[hi,xe,gA,iD,fP];exact hr
 refine qI hs ho hl a6 bA ky aQ aY fi hg (k9:=(U r.lv).list.modify i (fun _=>es.map (bV U))) (by simp only[cT.ae,hi,xe]) (by simp) dM ?_ gn cd hk;refine⟨by rw[bH];simp,.inr ⟨g,cap,_,rfl,hg,Le,tc,RE,?_,?_⟩⟩;simp only[List.size_toArray,dG,sI,List.length_drop,qL,mD];omega;rw[xh r.ks _ _ i LO,<- qK];apply List.ext_getElem?;intro m;simp only[xW,List.getElem?_append,sI,dG,qL,mD,List.getElem?_drop];grind
theorem vq(ks:List CK)(i:Nat):∀(cs:List (Sum IE BE)) (ls:List ag) (xs:List (List Int)) (j:Nat),i<xs.length->j+ls.length<=ks.length->dB ((ks.drop j).take ls.length) ls=some cs->
   av ks (xs.modify i (fun r=>gE r j (cs.map (bV U))))=((ls.map (ag.ae U ph)).zipIdx 0).foldl (fun cur (x:Value×Nat)=>cur.set (i*ks.length+j+x.2) x.1) (av ks xs):=by
 have gen:∀(cs:List (Sum IE BE)) (ls:List ag) (xs:List (List Int)) (j m:Nat),i<xs.length->j+m+ls.length<=ks.length->dB ((ks.drop (j+m)).take ls.length) ls=some cs->
     av ks (xs.modify i (fun r=>gE r (j+m) (cs.map (bV U))))=((ls.map (ag.ae U ph)).zipIdx m).foldl (fun cur (x:Value×Nat)=>cur.set (i*ks.length+j+x.2) x.1) (av ks xs):=by
   intro cs;induction cs with
   | nil=>
     intro ls xs j m hi hl h;have:=(mR h).2;have Zw:=(mR h).1;have:ls=[]:=BV (by simp at this;omega);subst this;simp only[mJ,gE,List.zipIdx_nil,List.foldl_nil];congr 1;exact List.modify_id ..
   | cons c cs ih=>
     intro ls xs j m hi hl h;cases ls with
     |nil=>simp[dB]at h
     | cons l ls=>
       simp only[tY]at hl h;have hjm:j+m<ks.length:=by omega
       rw[List.drop_eq_getElem_cons hjm,List.take_succ_cons]at h;simp only[dB]at h;split at h;rename_i y ys hy hys;simp only[af,List.cons.injEq]at h;obtain⟨rfl,rfl⟩:=h;simp only[jt,gE,List.zipIdx_cons,vh];have e:xs.modify i (fun r=>gE (l7 r (j+m) (bV U y)) (j+m+1) (ys.map (bV U)))=(setAt xs (i:Int) (j+m) (bV U y)).modify i (fun r=>gE r (j+(m+1)) (ys.map (bV U))):=by
         simp only[setAt,xe,List.modify_modify_eq];rfl
       rw[e,ih ls _ j (m+1) (by rw[ua];exact hi) (by omega) hys,qF ks xs i (j+m) _ _ hi (fV hjm),o0 (U:=U) (ph:=ph) hy,Nat.add_assoc];cases h
 intro cs ls xs j hi hl h;exact gen cs ls xs j 0 hi (by simpa using hl) (by simpa using h)
theorem x6(f:Nat->Nat)(n:Nat):∀(vs:List (Value×Nat)) (cur:List Value),(vs.foldl (fun cur x=>cur.set (f x.2) x.1) cur).take n=vs.foldl (fun cur x=>cur.set (f x.2) x.1) (cur.take n):=by
 intro vs;induction vs with
 |nil=>intro cur;rfl
 |cons v vs ih=>intro cur;simp only[vh];rw[ih,List.take_set]
theorem Ak(f:Nat->Nat):∀(vs:List (Value×Nat)) (cur:List Value),(vs.foldl (fun cur x=>cur.set (f x.2) x.1) cur).length=cur.length:=by
 intro vs;induction vs with
 |nil=>intro cur;rfl
 |cons v vs ih=>intro cur;simp only[vh];rw[ih,List.length_set]
theorem Ce{Γ:bK}{w0 w:World}{st:St}{a:Act}{o:Oper}{t:TypeId}{x y:Operand}{v:V1}{key:Nat}{k:aA->Prop}{r:Row}{j:Nat}{z:IE}{es:List (Sum IE BE)}(hs:Sat w0 U ph st a w)(ho:o.op = .store t x y)
   (hl:bc st (.c true) x=some (.ep r.id r.ks.length z j)) (hv:jX st (.c true) y=some v) (FA:dB ((r.ks.drop j).take v.leaves.length) v.leaves=some es) (hlen:v.leaves.length=P.cellsOf t) (ll:0<v.leaves.length) (Fw:j+v.leaves.length<=r.ks.length) (a6:r∈st.rows) (bA:r.own=true) (ky:r.g.ae U=true)
   (aQ:st.free key 1=true) (h0:0<=z.ae U) (h1:z.ae U<((U r.lv).list.length:Int))
   (cd:∀w',(Instr.storeAt t ((ag.ep r.id r.ks.length z j).ae U ph) (v.ae U ph)).run P w = .ok () w'->(execOp a.eval o).run P w = .ok .skip w') (hk:aL Γ [.cu key (.Al r.lv z j es)] k U) :
   mH Γ P w0 U ph st ({st.bd key 1 with rows:=cQ {r with lv:=key} (st.rows.filter fun z=>decide (z.id≠r.id)) }.put o.dst jw) o a w k:=by
 have aY:=hs.mem.row r a6 ky;have cD:=aY.2;rw[if_pos bA]at cD;obtain⟨ad,cap,iJ,_⟩:=iE aY h0 h1;have fi:ph.val r.id = .slice (some ad) (U r.lv).list.length cap:=by simp[Ph.val,iJ]
 rw[fi]at cD;obtain⟨nV,⟨e1,_⟩|⟨g,nX,cur,e1,hg,hh,tc,RE,ix,qK⟩⟩:=cD;simp at e1;simp only[Value.slice.injEq,af,true_and]at e1;obtain⟨rfl,rfl⟩:=e1;obtain⟨i,hi⟩:∃i:Nat,z.ae U=(i:Int):=⟨(z.ae U).toNat,by omega⟩;have LO:i<(U r.lv).list.length:=by omega
 have vp:i*r.ks.length+r.ks.length<=(U r.lv).list.length*r.ks.length:=by
   have:(i+1)*r.ks.length<=(U r.lv).list.length*r.ks.length:=vn _ (by omega);rw[j7]at this;omega
 have ti:(U r.lv).list.length*r.ks.length<=cap*r.ks.length:=vn _ tc;have mD:cur.toList.length=cap*r.ks.length:=by simpa using ix
 obtain⟨w',hr,gn,Le⟩:=jx (P:=P) g r.e (i*r.ks.length+j) (v.leaves.map (ag.ae U ph)) 0 cur.toList w (by simpa using hh) (by rw[kT,mD];omega) (fun u hu=>by
   obtain⟨l,_,rfl⟩:=kE.1 hu;exact ag.wi l)
 have dM:(Instr.storeAt t ((ag.ep r.id r.ks.length z j).ae U ph) (v.ae U ph)).run P w = .ok () w':=by
   have rV:0<P.cellsOf t:=by omega
   simp only[Instr.storeAt,ag.ae,iJ,Instr.sureAddr,dz,eU,dc,storeVar,bT rV,V1.eN];rw[if_neg (by simp[hlen])];simp only[hi,xe,iD,fP];exact hr
 refine qI hs ho hl a6 bA ky aQ aY fi hg (k9:=(U r.lv).list.modify i (fun r=>gE r j (es.map (bV U)))) (by simp only[cT.ae,hi,xe]) (by simp) dM ?_ gn cd hk;refine⟨by rw[bH];simp,.inr ⟨g,cap,_,rfl,hg,Le,tc,RE,?_,?_⟩⟩;simp only[List.size_toArray];rw[Ak (fun q=>i*r.ks.length+j+q),mD];rw[vq (U:=U) (ph:=ph) r.ks i es v.leaves _ j LO Fw FA,<- qK];simp only[BY];exact x6 (fun q=>i*r.ks.length+j+q) _ _ _
theorem FO{Γ:bK}{w0 w:World}{st aW:St}{a:Act}{o:Oper}{t:TypeId}{x y:Operand}{l:ag}{v:V1}{key:Nat}{cN:List Ev}{k:aA->Prop}(hs:Sat w0 U ph st a w)(ho:o.op = .store t x y)
   (hl:bc st (.c true) x=some l) (hv:jX st (.c true) y=some v) (hlen:v.leaves.length=P.cellsOf t) (ll:0<P.cellsOf t) (h:qM st l v.leaves key o.dst=some (cN,aW)) (hk:aL Γ cN k U) :
   mH Γ P w0 U ph st aW o a w k:=by
 have ex:=aq hl bU hs.tmps;have ey:=cf hv bU hs.tmps;have cd:∀w',(Instr.storeAt t (l.ae U ph) (v.ae U ph)).run P w = .ok () w'->(execOp a.eval o).run P w = .ok .skip w':=fun w' hr=>by
   simp only[execOp,ho,ex,ey,dz,hr,dc,eU]
 have hW:qh st ph o.op=sU ph l:=by simp[ho,qh,hl]
 unfold qM at h;split at h;rename_i id off;split at h;rename_i b hb;obtain⟨a6,rfl⟩:=dm hb;split at h;rename_i FE;obtain⟨w',hr,hg,hh⟩:=wm (P:=P) (U:=U) (ph:=ph) (t:=t) (off:=off) hlen ll (hs.mem.lP b a6).2 FE;obtain⟨rfl,dH⟩:=tZ hs h a6 hg hh;exact⟨.skip,w',_,U,ph,cd w' hr,rfl,by rw[hW];exact dH,hk⟩;cases h;cases h;rename_i id off sz n z;split at h;rename_i b hb;obtain⟨a6,rfl⟩:=dm hb;split at h;rename_i cs ix;split at h;rename_i hn;split at h;rename_i xj Jj o7;simp only[af,ao]at h;obtain⟨rfl,rfl⟩:=h;obtain⟨h0,hk⟩:=iy hk;obtain⟨h1,hk⟩:=iy hk;have h0:=bP h0;have h1:=eB h1;simp only[IE.ae]at h0 h1;obtain⟨e1,e2,e3⟩:=Cb (U:=U) (ph:=ph) (x:=z) (i:=(z.ae U).toNat) (by omega) (by omega) ix;have Vp:=(hs.mem.lP b a6).2;obtain⟨w',hr,hg,hh⟩:=wm (P:=P) (U:=U) (ph:=ph) (t:=t) (off:=off+(z.ae U).toNat*sz) hlen ll Vp (e2 hn.2.2);have Le:w'.heap[ph.r b.id]?=some (.cells (cs.map (ag.ae U ph)).toArray b.ty (0,0)):=by
   rw[hh,e3]
 obtain⟨rfl,dH⟩:=tZ hs o7 a6 hg Le;exact⟨.skip,w',_,U,ph,cd w' hr,rfl,by rw[hW];exact dH,hk⟩;cases h;cases h;cases h;cases h;rename_i row sz z j;split at h;rename_i r lf hr Fz;obtain⟨a6,rfl⟩:=aT hr;split at h;rename_i kj hkj;split at h;rename_i y' hlc;split at h;rename_i hc;simp only[ah,aD]at hc;obtain⟨⟨⟨bA,mK⟩,sH⟩,aQ⟩:=hc;simp only[af,ao]at h;obtain⟨rfl,rfl⟩:=h;obtain⟨h0,hk⟩:=iy hk;obtain⟨h1,hk⟩:=iy hk;have h0:=bP h0;have h1:=eB h1;simp only[IE.ae]at h0 h1;have ky:r.g.ae U=true:=by rw[mK];rfl
 exact DX hs ho hl hv Fz hlc hlen a6 bA ky sH hkj aQ h0 h1 cd hk;cases h;cases h;cases h;rename_i ls r hr ck;split at h;rename_i es FA;obtain⟨a6,rfl⟩:=aT hr;split at h;rename_i hc;simp only[ah,aD]at hc;obtain⟨⟨⟨⟨⟨bA,mK⟩,sH⟩,hj0⟩,_⟩,aQ⟩:=hc;subst hj0 sH;simp only[af,ao]at h;obtain⟨rfl,rfl⟩:=h;obtain⟨h0,hk⟩:=iy hk;obtain⟨h1,hk⟩:=iy hk;have h0:=bP h0;have h1:=eB h1;simp only[IE.ae]at h0 h1;have ky:r.g.ae U=true:=by rw[mK];rfl
 have adt:=xZ (U:=U) (ph:=ph) FA;exact Cd hs ho hl hv (by rw[<- adt]) hlen a6 bA ky aQ h0 h1 cd hk;cases h;split at h;rename_i es FA;obtain⟨a6,rfl⟩:=aT hr;split at h;rename_i hc;simp only[ah,aD]at hc;obtain⟨⟨⟨⟨⟨bA,mK⟩,sH⟩,Fw⟩,aai⟩,aQ⟩:=hc;subst sH;simp only[af,ao]at h;obtain⟨rfl,rfl⟩:=h;obtain⟨h0,hk⟩:=iy hk;obtain⟨h1,hk⟩:=iy hk;have h0:=bP h0;have h1:=eB h1;simp only[IE.ae]at h0 h1;have ky:r.g.ae U=true:=by rw[mK];rfl
 exact Ce hs ho hl hv FA hlen aai Fw a6 bA ky aQ h0 h1 cd hk;cases h;cases h;cases h;cases h
theorem Jk(ks:List CK):∀(n i:Nat) (ps:List (Nat×V1)) (rows:List (List (Sum IE BE))) (cells:List Value),mS ks n i ps=some rows->cells.length=(i+n)*ks.length->
   Instr.fill (fun i=>some (i*ks.length,ks.length)) cells.toArray (ps.map fun p=>(p.1,p.2.ae U ph))=some (cells.take (i*ks.length)++av ks (rows.map fun r=>r.map (bV U))).toArray/\rows.length=n:=by
 intro n;induction n with
 | zero=>
   intro i ps rows cells h hl;cases ps with
   | nil=>
     simp only[mS,af]at h;subst h;refine⟨?_,rfl⟩;simp only[mJ,Instr.fill,av,xk];rw[oV (by rw[hl,gA];exact eZ _)]
   |cons p ps=>simp[mS]at h
 | succ n ih=>
   intro i ps rows cells h hl;cases ps with
   |nil=>simp[mS]at h
   | cons p ps=>
     obtain⟨j,v⟩:=p;simp only[mS]at h;split at h;rename_i Cf;subst Cf;split at h;rename_i r rs hr vr;simp only[af]at h;subst h;have hlen:=(mR hr).1;have xg:(v.leaves.map (ag.ae U ph)).length=ks.length:=by rw[kT,hlen]
     have vu:(i+(n+1))*ks.length=i*ks.length+ks.length+n*ks.length:=by rw[j7,j7,Nat.one_mul];omega
     simp only[jt,Instr.fill,V1.eN];rw[if_neg (by simp[hlen,hl,vu]<;>omega)];have o7:=rW (v.leaves.map (ag.ae U ph)) cells (i*ks.length) 0 (by rw[xg,hl,vu];omega);have Jl:((v.leaves.map (ag.ae U ph)).toArray.zipIdx.foldl (fun cs (x:Value×Nat)=>cs.setIfInBounds (i*ks.length+x.2) x.1) cells.toArray)=(cells.take (i*ks.length)++v.leaves.map (ag.ae U ph)++cells.drop (i*ks.length+ks.length)).toArray:=by
       apply jv;rw[vi];simp only[BY];rw[o7,xg,gA]
     obtain⟨e1,e2⟩:=ih (i+1) ps rs (cells.take (i*ks.length)++v.leaves.map (ag.ae U ph)++cells.drop (i*ks.length+ks.length)) vr (by
       simp only[dG,sI,List.length_drop,xg,hl,vu];rw[show i+1+n=i+(n+1)by omega,vu];omega)
     refine⟨?_,by simp[e2]⟩;refine(congrArg (fun c=>Instr.fill (fun i=>some (i*ks.length,ks.length)) c (ps.map fun p=>(p.1,p.2.ae U ph))) Jl).trans ?_;rw[e1];have aY:=xZ (U:=U) (ph:=ph) hr;simp only[av,aY];congr 2;rw[show(i+1)*ks.length=i*ks.length+ks.length by rw[j7,Nat.one_mul]];rw[DY (by simp only[dG,sI,xg,hl,vu];omega),oV (by simp only[dG,sI,xg,hl,vu];omega)];simp;cases h;cases h
theorem xl{Γ:bK}{w0 w:World}{st aW:St}{a:Act}{o:Oper}{t:TypeId}{n:Nat}{parts:Array (Nat×Operand)}{e:TypeId}{ps:List (Nat×V1)}{ks:List CK}{rows:List (List (Sum IE BE))}{key:Nat}{cN:List Ev}{k:aA->Prop}{G:BE}
   (hs:Sat w0 U ph st a w) (ho:o.op = .buildSlice t n parts) (hu:P.underlying t=some (.slice e)) (hG:G.ae U=true) (DF:gp st G parts.toList=some ps) (lR:0<ks.length) (hz:((P.info? e).bind (·.zero)).isSome=true)
   (jY:n*ks.length<=16777216) (hc:P.cellsOf e=ks.length) (fS:mS ks n 0 ps=some rows) (h:newRow st G key e ks [] (.lit rows) st.rows o.dst=some (cN,aW)) (hk:aL Γ cN k U) :
   mH Γ P w0 U ph st aW o a w k:=by
 have x7:=nB (a:=a) hG hs.tmps DF;obtain⟨i,hi,z,HI⟩:∃i,P.info? e=some i/\∃z,i.zero=some z:=by
   cases hi:P.info? e with
   |none=>simp[hi]at hz
   |some i=>simp[hi]at hz;exact⟨i,rfl,xT.1 hz⟩
 have hzr:(zeroValue e).run P w = .ok z w:=by simp[zeroValue,typeInfo,hi,HI]
 obtain⟨z0,Lg⟩:∃z0:Array Value,z0.size=(0+n)*ks.length/\(Instr.buildSlice t n (parts.map fun(i,x)=>(i,a.eval x))).run P w =
     (match Instr.fill (fun i=>some (i*ks.length,ks.length)) z0 (ps.map fun p=>(p.1,p.2.ae U ph))with
      |some cells=>.ok (.slice (some ⟨w.heap.size,0,none⟩) n n) (w.alloc (.cells cells e))
      |none=>.halt (.stuck "buildSlice: a part of the wrong size") w):=by
   by_cases hn:n*ks.length=0;refine⟨Array.map (fun x=>(#[]:Array Value)[x%(#[]:Array Value).size]!) (Array.range (n*ks.length)),by simp,?_⟩;simp only[Instr.buildSlice,dz,run_underlying hu,dc,bT (P:=P) (w:=w) (t:=e) (by omega),hc];rw[if_neg (by omega),if_pos hn];simp only[dz,eU,dc,Array.toList_map,x7];generalize Array.map _ (Array.range (n*ks.length))=zz;cases Instr.fill (fun i=>some (i*ks.length,ks.length)) zz (ps.map fun p=>(p.1,p.2.ae U ph))with
   |none=>rfl
   |some cells=>rfl
   refine⟨(Array.range (n*ks.length)).map (z.cells[· % z.cells.size]!),by simp,?_⟩;simp only[Instr.buildSlice,dz,run_underlying hu,dc,bT (P:=P) (w:=w) (t:=e) (by omega),hc];rw[if_neg (by omega),if_neg hn];simp only[dz,hzr,eU,dc,Array.toList_map,x7];generalize Array.map _ (Array.range (n*ks.length))=zz;cases Instr.fill (fun i=>some (i*ks.length,ks.length)) zz (ps.map fun p=>(p.1,p.2.ae U ph))with
   |none=>rfl
   |some cells=>rfl
 obtain⟨Vq,cd⟩:=Lg;obtain⟨hf,hrl⟩:=Jk (U:=U) (ph:=ph) ks n 0 ps rows z0.toList fS (by simpa using Vq);simp only[Nat.zero_mul,List.take_zero,kG,Array.toArray_toList]at hf;rw[hf]at cd;obtain⟨xs,qe⟩:∃xs,xs=rows.map fun r=>r.map (bV U):=⟨_,rfl⟩;rw[<- qe]at cd;have nV:xs.length=n:=by rw[qe,kT,hrl]
 unfold newRow at h;split at h;rename_i aQ;simp only[ah]at aQ;obtain⟨aQ,qm⟩:=aQ;simp only[af,ao]at h;obtain⟨rfl,rfl⟩:=h;have cK:k (U.set key (.l xs)):=by rw[qe];exact hk
 have hB:w0.heap.size<=w.heap.size:=hs.below.size;have TZ:=bH ks xs;have gY:n<=maxLen:=by
   have:n<=n*ks.length:=Nat.le_mul_of_pos_right n lR;unfold maxLen;omega
 have bA:(w.alloc (.cells (av ks xs).toArray e)).ownsRow w0.heap.size e ks.length (.slice (some ⟨w.heap.size,0,none⟩) n n) xs.length (av ks xs):=by
   refine⟨TZ,.inr ⟨w.heap.size,n,(av ks xs).toArray,by rw[nV],hB,heap_alloc_new w _,by omega,gY,by simp[TZ,nV],?_⟩⟩;simp only[BY];exact oV (by omega)
 have hW:qh st ph o.op=none:=by simp[ho,qh]
 have dH:=kf (U:=U) (ph:=ph) (dst:=o.dst) (sl:=(some ⟨w.heap.size,0,none⟩,n,n)) (row:=none) hs qm hG aQ lR (fun r hr=>hr) (World.grownBy_alloc w (.cells (av ks xs).toArray e) none) (fun k hk=>by cases hk)
   (fun b _=>by simp) (fun r _ _ k _=>by simp) bA (.inr (.inl rfl))
 refine⟨.value (.slice (some ⟨w.heap.size,0,none⟩) n n),_,_,_,_,?_,rfl,by rw[hW];exact dH,cK⟩;simp only[execOp,ho,dz,cd,dc,eU];cases h
end
section
open Go.RowKit
variable {U:aA}{ph:Ph}{P:Program}
theorem o8{t:TypeId}{i:TypeInfo}(h:P.info? t=some i):P.cellsOf t=i.size:=by simp[Program.cellsOf,h]
theorem kg{w:World}{B:Nat}{e:TypeId}{sz:Nat}{v:Value}{n:Nat}{xs:List Value}(h:w.ownsRow B e sz v n xs):∃sl:Option Addr×Nat×Nat,v = .slice sl.1 sl.2.1 sl.2.2:=by
 obtain⟨_,⟨rfl,_⟩|⟨g,cap,cur,rfl,_⟩⟩:=h;exact⟨(none,0,0),rfl⟩;exact⟨(_,_,_),rfl⟩
theorem qN{w:World}{B:Nat}{t ty e:TypeId}{room sz:Nat}{v y:Value}{n m:Nat}{xs news:List Value}(ht:P.underlying t=some (.slice e))(hr:ki P e=some room)(sH:P.cellsOf e=sz)
   (bA:w.ownsRow B e sz v n xs) (hy:Reads w y m news) (hl:news.length=m*sz) (h1:∀u∈news,u.oneCell'=true) (jY:n+m<=room) (hB:B<=w.heap.size) :
   ∃(sl:Option Addr×Nat×Nat) (w':World),(Builtin.append_ #[t,t] ty #[v,y]).run P w = .ok (.slice sl.1 sl.2.1 sl.2.2) w'/\w'.ownsRow B e sz (.slice sl.1 sl.2.1 sl.2.2) (n+m) (xs++news)/\w.grownBy w' v.ownBlock/\
     ((Value.slice sl.1 sl.2.1 sl.2.2).ownBlock=v.ownBlock\/(Value.slice sl.1 sl.2.1 sl.2.2).ownBlock=some w.heap.size):=by
 unfold ki at hr;cases hi:P.info? e with
 |none=>simp[hi]at hr
 | some i=>
   simp only[hi]at hr;cases hz:i.zero with
   |none=>simp[hz]at hr
   | some z=>
     simp only[hz]at hr;split at hr;rename_i hc;simp only[ah,aD]at hc;obtain⟨⟨jn,A8⟩,hzs⟩:=hc;simp only[af]at hr;subst hr;have Vr:i.size=sz:=by rw[<- sH,o8 hi]
     have Vs:(n+m)*i.bytes<=140737488355328:=(Nat.le_div_iff_mul_le jn).1 jY;have HJ:n+m<=maxLen:=by
       have:n+m<=(n+m)*i.bytes:=Nat.le_mul_of_pos_right _ jn;unfold maxLen;omega
     obtain⟨base,cap,rfl,hm,tg,ix⟩:=hy;cases base with
     | none=>
       obtain⟨rfl,rfl⟩:=tg rfl;rw[Nat.zero_mul]at hl;have:=BV hl;subst this;obtain⟨sl,rfl⟩:=kg bA;refine⟨sl,w,run_append_owned_none w B t ty e i sz ht hi _ n xs bA,by simpa using bA,⟨rfl,rfl,rfl,eZ _,fun _ _ _=>rfl⟩,.inl rfl⟩
     | some a=>
       obtain⟨v',w',e1,e2,e3,_,e5⟩:=run_append_own_at (P:=P) w B t ty e i z sz i.bytes ht hi hz Vr rfl (by rw[hzs,Vr]) (by omega) v n xs bA a m cap news hl
         (fun j u hj=>by obtain⟨a',e,h⟩:=ix j u hj;simp only[af]at e;subst e;exact h) h1 HJ Vs hB
       obtain⟨sl,rfl⟩:=kg e2;exact⟨sl,w',e1,e2,e3,e5⟩
     cases hr
theorem wy{Γ:bK}{w0 w:World}{st aW:St}{a:Act}{o:Oper}{t e:TypeId}{x y:Operand}{key room:Nat}{cN:List Ev}{k:aA->Prop}{v:Value}{xs:List (List Int)}{rb:Row}{rows:List Row}{ne:BE}{op:cT}
   (hs:Sat w0 U ph st a w) (ho:o.op = .call {callee:=.builtin .append,args:=#[x,y],argTypes:=#[t,t] }) (hu:P.underlying t=some (.slice e)) (hr:ki P e=some room)
   (hx:a.eval x=v) (hy:bc st (.c true) y=some (.s rb.id)) (Am:rb∈st.rows) (Cg:rb.g = .c true) (n8:P.cellsOf e=rb.ks.length)
   (hv:w.ownsRow w0.heap.size e rb.ks.length v xs.length (av rb.ks xs)) (hW:qh st ph o.op=v.ownBlock) (eC:∀r∈rows,r∈st.rows)
   (Vt:∀k,v.ownBlock=some k->¬ ph.z k/\∀n∈st.aV,n.own=true->(ph.val n.id).ownBlock≠some k) (jT:∀b∈st.aR,v.ownBlock≠some (ph.r b.id)) (fS:∀r∈rows,r.g.ae U=true->∀k,r.bM U ph=some k->v.ownBlock≠some k)
   (nF:op.ae U=xs++(U rb.lv).list) (ck:ne.ae U=true->xs.length+(U rb.lv).list.length<=room)
   (h:newRow st (.c true) key e rb.ks [.aG ne] op rows o.dst=some (cN,aW)) (hk:aL Γ cN k U) :
   mH Γ P w0 U ph st aW o a w k:=by
 unfold newRow at h;split at h;rename_i aQ;simp only[ah]at aQ;obtain⟨aQ,qm⟩:=aQ;simp only[af,ao]at h;obtain⟨rfl,rfl⟩:=h;obtain⟨hn,hk⟩:=iy (es:=[.cu key op]) hk;have cK:k (U.set key (.l (xs++(U rb.lv).list))):=by rw[<- nF];exact hk
 have aY:=hs.mem.row rb Am (by rw[Cg];rfl);have ey:=aq hy bU hs.tmps;simp only[ag.ae]at ey;obtain⟨sl,w',e1,e2,e3,e5⟩:=qN (ty:=o.type) hu hr n8 hv aY.reads (bH _ _) (hU _ _) (ck hn) hs.below.size;rw[<- kS,<- dG]at e2;have hvB:∀k,v.ownBlock=some k->w0.heap.size<=k/\¬ ph.z k/\∀n∈st.aV,n.own=true->(ph.val n.id).ownBlock≠some k:=fun k hk=>⟨(hv.lt k hk).1,Vt k hk⟩;have dH:=kf (dst:=o.dst) (sl:=sl) (row:=v.ownBlock) hs qm bU aQ aY.1 eC e3 hvB jT fS e2 (by
   rcases e5 with e5|e5;exact .inl e5;exact .inr (.inl e5))
 refine⟨.value (.slice sl.1 sl.2.1 sl.2.2),w',_,_,_,?_,rfl,by rw[hW];exact dH,cK⟩;simp only[execOp,ho,resolve,invoke,builtin,dz,eU,dc,List.map_toArray,jt,mJ,hx,ey,e1];cases h
theorem x8{Γ:bK}{w0 w:World}{st aW:St}{a:Act}{o:Oper}{e:TypeId}{ls:List ag}{key:Nat}{cN:List Ev}{k:aA->Prop}(hs:Sat w0 U ph st a w)
   (hW:qh st ph o.op=none) (cd:(execOp a.eval o).run P w = .ok (.value (.pointer (some ⟨w.heap.size,0,none⟩))) (w.alloc (.cells (ls.map (ag.ae U ph)).toArray e)))
   (h:n5 st key e ls o.dst=some (cN,aW)) (hk:aL Γ cN k U):mH Γ P w0 U ph st aW o a w k:=by
 obtain⟨rfl,dH⟩:=A6 hs h;exact⟨_,_,_,_,_,cd,rfl,by rw[hW];exact dH,hk⟩
theorem sV(ks:List CK):∀(xs:List (List Int)) (n:Nat),av ks (xs.take n)=(av ks xs).take (n*ks.length):=by
 intro xs;induction xs with
 |nil=>intro n;simp[av]
 | cons r rs ih=>
   intro n;cases n with
   |zero=>simp[av]
   | succ n=>
     simp only[List.take_succ_cons,av,ih];have e:(n+1)*ks.length=ks.length+n*ks.length:=by rw[j7];omega
     rw[e,List.take_append,b5,show ks.length+n*ks.length-ks.length=n*ks.length by omega,oV (l:=bG ks 0 r) (by rw[b5];omega)]
theorem LP{w:World}{B:Nat}{e:TypeId}{ks:List CK}{base:Option Addr}{n cap m:Nat}{xs:List (List Int)}(hn:n=xs.length)(h:w.ownsRow B e ks.length (.slice base n cap) n (av ks xs))(hm:m<=n) :
   w.ownsRow B e ks.length (.slice base m cap) (xs.take m).length (av ks (xs.take m)):=by
 have hl:(xs.take m).length=m:=by rw[sI];omega
 rw[hl];refine⟨by rw[bH,hl],?_⟩;rcases h.2 with⟨e1,e2⟩|⟨g,nX,cur,e1,hg,hh,tc,RE,ix,qK⟩;simp only[Value.slice.injEq]at e1;obtain⟨rfl,h0,rfl⟩:=e1;have:m=0:=by omega
 subst this;exact .inl ⟨rfl,rfl⟩;simp only[Value.slice.injEq,true_and]at e1;obtain⟨rfl,rfl⟩:=e1;refine .inr ⟨g,cap,cur,rfl,hg,hh,by omega,RE,ix,?_⟩;rw[sV,<- qK,List.take_take];congr 1;have:=vn ks.length hm;omega
theorem qO{t e:TypeId}{w:World}{base:Option Addr}{n cap:Nat}{k:IntKind}{m:Int}(hu:P.underlying t=some (.slice e))(hc:0<P.cellsOf e)(h0:0<=m)(h1:m<=(n:Int))(tc:n<=cap) :
   (Instr.slice t (.slice base n cap) none (some (.int k m)) none).run P w = .ok (.slice base m.toNat cap) w:=by
 have hm:0<=m/\m<=(cap:Int):=⟨h0,by omega⟩;simp only[Instr.slice,Instr.sliceBounds,Instr.sliceBound,asIntOf,dz,eU,dc,run_underlying hu];simp only[hm,and_self,if_true,dz,eU,dc,bT hc,Nat.sub_zero,Nat.zero_mul];congr 2;cases base with
 |none=>simp
 |some a=>simp[Addr.add_zero']
theorem Jm{Γ:bK}{w0 w:World}{st aW:St}{a:Act}{o:Oper}{t e:TypeId}{x h':Operand}{key:Nat}{cN:List Ev}{k:aA->Prop}{ra:Row}{kd:IntKind}{n:IE}
   (hs:Sat w0 U ph st a w) (ho:o.op = .slice t x none (some h') none) (hu:P.underlying t=some (.slice e)) (hx:bc st (.c true) x=some (.s ra.id)) (hh:bc st (.c true) h'=some (.i kd n))
   (a6:ra∈st.rows) (bA:ra.own=true) (hg:ra.g = .c true) (he:ra.e=e) (n8:P.cellsOf e=ra.ks.length)
   (h:newRow st (.c true) key e ra.ks [.aG (BE.le (.c 0) n).mk,.aG (BE.le n (.len ra.lv)).mk] (.take ra.lv n) (st.rows.filter fun r=>decide (r.id≠ra.id)) o.dst=some (cN,aW)) (hk:aL Γ cN k U) :
   mH Γ P w0 U ph st aW o a w k:=by
 unfold newRow at h;split at h;rename_i aQ;simp only[ah]at aQ;obtain⟨aQ,qm⟩:=aQ;simp only[af,ao]at h;obtain⟨rfl,rfl⟩:=h;obtain⟨h0,hk⟩:=iy (es:=[.aG (BE.le n (.len ra.lv)).mk,.cu key (.take ra.lv n)]) hk;obtain⟨h1,hk⟩:=iy (es:=[.cu key (.take ra.lv n)]) hk;have h0:=bP h0;have h1:=bP h1;simp only[IE.ae]at h0 h1;have cK:k (U.set key (.l ((U ra.lv).list.take (n.ae U).toNat))):=hk;have FP:ra.g.ae U=true:=by rw[hg];rfl
 have aY:=hs.mem.row ra a6 FP;have cD:=aY.2;rw[if_pos bA,he]at cD;have ex:=aq hx bU hs.tmps;have eh:=aq hh bU hs.tmps;simp only[ag.ae]at ex eh;obtain⟨base,cap,hv,tc⟩:∃base cap,ph.val ra.id = .slice base (U ra.lv).list.length cap/\(U ra.lv).list.length<=cap:=by
   rcases cD.2 with⟨e1,e2⟩|⟨g,nX,cur,e1,_,_,tc,_⟩;exact⟨none,0,by rw[e1,e2],by omega⟩;exact⟨_,nX,e1,tc⟩
 rw[hv]at cD;have htk:=LP (m:=(n.ae U).toNat) rfl cD (by omega);have dT:ra.bM U ph=(Value.slice base (U ra.lv).list.length cap).ownBlock:=by rw[<- hv];simp[Row.bM,bA]
 have LN:∀m m':Nat,(Value.slice base m cap).ownBlock=(Value.slice base m' cap).ownBlock:=fun _ _=>by cases base<;>rfl
 have dH:=kf (dst:=o.dst) (sl:=(base,(n.ae U).toNat,cap)) (row:=(Value.slice base (U ra.lv).list.length cap).ownBlock) (rows:=st.rows.filter fun r=>decide (r.id≠ra.id)) hs qm bU aQ aY.1 (fun r hr=>(iK.1 hr).1) (hZ (bW w)) (fun k hk=>(lS (B:=0) hs a6 bA FP (by rw[hv,hk])).1)
   (fun b hb e=>hs.mem.br b hb ra a6 FP (by rw[dT,e])) (fun r hr h1 k hk e=>by
     have hm:=iK.1 hr;exact hs.mem.rr ra a6 r hm.1 (fun e=>by simp[e]at hm) bA FP h1 k (by rw[dT,e]) hk) htk (.inl (LN _ _))
 refine⟨.value (.slice base (n.ae U).toNat cap),w,_,_,_,?_,rfl,⟨dH.sat,dH.agree,?_,dH.mono,dH.fresh⟩,cK⟩;simp only[execOp,ho,Option.map_none,sG,ex,eh,hv,dz,run_sliceAt_slice (P:=P) (w:=w) t _ _ _ _ (by simp[Program.elem,hu]),qO hu (by rw[n8];exact aY.1) h0 h1 tc,dc,eU];rw[ho];exact bW w;cases h
theorem qP{t:TypeId}{v:V1}(h:nZ P t=some v):∃i z,P.info? t=some i/\i.zero=some z/\z.cells=(v.leaves.map (ag.ae U ph)).toArray:=by
 unfold nZ at h;cases hi:P.info? t with
 |none=>simp[hi]at h
 | some i=>
   cases hz:i.zero with
   |none=>simp[hi,hz]at h
   | some z=>
     refine⟨i,z,rfl,hz,?_⟩;have hw:Inhabited World:=⟨{heap:=#[],tape:=default,drawn:=0,os:=default,output:=default}⟩;have h2:=vj (P:=P) (U:=U) (ph:=ph) (w:=default) (t:=t) (v:=v) (by unfold nZ;exact h);simp[zeroValue,typeInfo,hi,hz]at h2;rw[h2,V1.eN]
theorem vv{ks:List CK}{z:Value}(hz:z.cells=((ks.map zeroOf).map (ag.ae U ph)).toArray)(n:Nat):(madeCells z.cells (n*ks.length)).toList=av ks (List.replicate n (List.replicate ks.length 0)):=by
 apply List.ext_getElem?;intro j;by_cases hj:j<n*ks.length;have h0:0<ks.length:=by
   rcases Nat.eq_zero_or_pos ks.length with h|h;rw[h]at hj;omega;exact h
 have hd:j/ks.length<n:=(Nat.div_lt_iff_lt_mul h0).2 hj;have hm:=Nat.mod_lt j h0;have e:j=j/ks.length*ks.length+j%ks.length:=(Nat.div_add_mod' j ks.length).symm;have hf:=lk ks (List.replicate n (List.replicate ks.length 0)) (j/ks.length) (j%ks.length) (by simpa using hd) hm;rw[<- e]at hf;rw[hf];have hc:∀q:Nat,z.cells[q]?=(ks[q]?).map fun(k:CK)=>k.val 0:=fun q=>by
   rw[hz];simp only[List.getElem?_toArray,gJ];cases ks[q]? with
   |none=>rfl
   |some k=>cases k<;>rfl
 have sH:z.cells.size=ks.length:=by rw[hz];simp
 have hl:(List.replicate n (List.replicate ks.length (0:Int))).getD (j/ks.length) []=List.replicate ks.length 0:=by
   simp[eI,hd]
 rw[hl];have FF:(List.replicate ks.length (0:Int)).getD (j%ks.length) 0=0:=by
   simp[eI,hm]
 rw[FF,<- hc];simp[madeCells,hj,sH];rw[Array.getElem?_eq_getElem (by rw[sH];exact hm),getElem!_pos z.cells (j%ks.length) (by rw[sH];exact hm)];rw[tW (by simp[madeCells];omega),tW (by rw[bH];simp;omega)]
theorem Ao(w:World)(base:Nat)(t e:TypeId)(i:TypeInfo)(z:Value)(size:Nat)(ht:P.underlying t=some (.slice e))(hi:P.info? e=some i)(hz:i.zero=some z)(DZ:i.size=size)
   (kl kc:IntKind) (n c:Nat) (tc:n<=c) (adu:i.bytes*c<=281474976710656) (HJ:c<=maxLen) (aaj:base<=w.heap.size) :
   ∃w',(Instr.makeSlice t (.int kl (n:Int)) (.int kc (c:Int))).run P w = .ok (.slice (some ⟨w.heap.size,0,none⟩) n c) w'/\
     w'.ownsRow base e size (.slice (some ⟨w.heap.size,0,none⟩) n c) n (madeCells z.cells (n*size)).toList/\w.grownBy w' none:=by
 subst DZ;have adv:(c:Int)<=9223372036854775807:=by
   have h:=HJ;simp[maxLen]at h;omega
 have mE:(i.bytes:Int)*(c:Int)<=281474976710656:=by
   have h:((i.bytes*c:Nat):Int)<=281474976710656:=by omega
   rwa[Int.natCast_mul]at h
 have hr:=run_make (P:=P) w t e i z ht hi hz kl kc n c (by omega) (by omega) mE adv;simp only[xe]at hr;refine⟨_,hr,⟨?_,.inr ⟨w.heap.size,c,madeCells z.cells (c*i.size),rfl,aaj,?_,tc,HJ,size_madeCells _ _,?_⟩⟩,World.grownBy_alloc w _ none⟩;simp[madeCells];exact heap_alloc_new w _;have:n*i.size<=c*i.size:=vn _ tc;simp only[madeCells,Array.toList_map,Array.toList_range,<- List.map_take,List.take_range,Nat.min_eq_left this]
theorem Jn{Γ:bK}{w0 w:World}{st aW:St}{a:Act}{o:Oper}{t e:TypeId}{n c:Operand}{key room:Nat}{cN:List Ev}{k:aA->Prop}{ks:List CK}{kd Zx:IntKind}{x:IE}{z:V1}
   (hs:Sat w0 U ph st a w) (ho:o.op = .makeSlice t n c) (hu:P.underlying t=some (.slice e)) (hn:bc st (.c true) n=some (.i kd x)) (hc:bc st (.c true) c=some (.i Zx x)) (hr:ki P e=some room) (hz:nZ P e=some z)
   (h0:0<ks.length) (n8:P.cellsOf e=ks.length) (Q':z.leaves=ks.map zeroOf)
   (h:newRow st (.c true) key e ks [.aG (BE.le (.c 0) x).mk,.aG (BE.le x (.c (room:Int))).mk] (.rep x (List.replicate ks.length 0)) st.rows o.dst=some (cN,aW)) (hk:aL Γ cN k U) :
   mH Γ P w0 U ph st aW o a w k:=by
 unfold newRow at h;split at h;rename_i aQ;simp only[ah]at aQ;obtain⟨aQ,qm⟩:=aQ;simp only[af,ao]at h;obtain⟨rfl,rfl⟩:=h;obtain⟨g0,hk⟩:=iy (es:=[.aG (BE.le x (.c (room:Int))).mk,.cu key (.rep x (List.replicate ks.length 0))]) hk;obtain⟨g1,hk⟩:=iy (es:=[.cu key (.rep x (List.replicate ks.length 0))]) hk;have g0:=bP g0;have g1:=bP g1;simp only[IE.ae]at g0 g1;obtain⟨m,hm⟩:∃m:Nat,x.ae U=m:=⟨(x.ae U).toNat,by omega⟩;have cK:k (U.set key (.l (List.replicate m (List.replicate ks.length 0)))):=by
   have:k (U.set key (.l ((cT.rep x (List.replicate ks.length 0)).ae U))):=hk;simp only[cT.ae,hm,xe]at this;exact this
 have en:=aq hn bU hs.tmps;have ec:=aq hc bU hs.tmps;simp only[ag.ae,hm]at en ec;obtain⟨i,zv,hi,Vu,fX⟩:=qP (U:=U) (ph:=ph) hz;unfold ki at hr;simp only[hi,Vu]at hr;split at hr;rename_i ma;simp only[ah,aD]at ma;obtain⟨⟨jn,A8⟩,ix⟩:=ma;simp only[af]at hr;rw[Q']at fX;have DZ:i.size=ks.length:=by rw[<- ix,fX];simp
 rw[hm]at g1;have jY:m<=140737488355328/i.bytes:=by rw[hr];omega
 have Vs:i.bytes*m<=140737488355328:=jS (Nat.mul_le_mul_left _ jY) (Nat.mul_div_le _ _);have HJ:m<=maxLen:=by
   have:m<=i.bytes*m:=Nat.le_mul_of_pos_left _ jn;unfold maxLen;omega
 obtain⟨w',e1,e2,e3⟩:=run_make_full (P:=P) w w0.heap.size t e i zv ks.length hu hi Vu DZ kd Zx m (by omega) HJ hs.below.size;rw[vv fX]at e2;have hl:(List.replicate m (List.replicate ks.length (0:Int))).length=m:=by simp
 have dH:=kf (dst:=o.dst) (xs:=List.replicate m (List.replicate ks.length 0)) (sl:=(some ⟨w.heap.size,0,none⟩,m,m)) (row:=none) (rows:=st.rows) hs qm bU aQ h0 (fun _ h=>h) e3 (fun _ h=>by cases h) (fun _ _=>by simp) (fun _ _ _ _ _=>by simp) (by rw[hl];exact e2) (.inr (.inl rfl));refine⟨.value (.slice (some ⟨w.heap.size,0,none⟩) m m),w',_,_,_,?_,rfl,⟨dH.sat,dH.agree,?_,dH.mono,dH.fresh⟩,cK⟩;simp only[execOp,ho,en,ec,dz,e1,dc,eU];rw[ho];exact dH.grown;cases hr;cases h
theorem x9{Γ:bK}{w0 w:World}{st aW:St}{a:Act}{o:Oper}{t e:TypeId}{n c:Operand}{key room:Nat}{cN:List Ev}{k:aA->Prop}{ks:List CK}{kd Zx:IntKind}{x y:IE}{z:V1}
   (hs:Sat w0 U ph st a w) (ho:o.op = .makeSlice t n c) (hu:P.underlying t=some (.slice e)) (hn:bc st (.c true) n=some (.i kd x)) (hc:bc st (.c true) c=some (.i Zx y)) (hr:ki P e=some room) (hz:nZ P e=some z)
   (h0:0<ks.length) (n8:P.cellsOf e=ks.length) (Q':z.leaves=ks.map zeroOf)
   (h:newRow st (.c true) key e ks [.aG (BE.le (.c 0) x).mk,.aG (BE.le x y).mk,.aG (BE.le y (.c (room:Int))).mk] (.rep x (List.replicate ks.length 0)) st.rows o.dst=some (cN,aW)) (hk:aL Γ cN k U) :
   mH Γ P w0 U ph st aW o a w k:=by
 unfold newRow at h;split at h;rename_i aQ;simp only[ah]at aQ;obtain⟨aQ,qm⟩:=aQ;simp only[af,ao]at h;obtain⟨rfl,rfl⟩:=h;obtain⟨g0,hk⟩:=iy (es:=[.aG (BE.le x y).mk,.aG (BE.le y (.c (room:Int))).mk,.cu key (.rep x (List.replicate ks.length 0))]) hk;obtain⟨g2,hk⟩:=iy (es:=[.aG (BE.le y (.c (room:Int))).mk,.cu key (.rep x (List.replicate ks.length 0))]) hk;obtain⟨g1,hk⟩:=iy (es:=[.cu key (.rep x (List.replicate ks.length 0))]) hk;have g0:=bP g0;have g1:=bP g1;have g2:=bP g2;simp only[IE.ae]at g0 g1;obtain⟨m,hm⟩:∃m:Nat,x.ae U=m:=⟨(x.ae U).toNat,by omega⟩;obtain⟨q,hq⟩:∃q:Nat,y.ae U=q:=⟨(y.ae U).toNat,by omega⟩;have hmq:m<=q:=by omega
 have cK:k (U.set key (.l (List.replicate m (List.replicate ks.length 0)))):=by
   have:k (U.set key (.l ((cT.rep x (List.replicate ks.length 0)).ae U))):=hk;simp only[cT.ae,hm,xe]at this;exact this
 have en:=aq hn bU hs.tmps;have ec:=aq hc bU hs.tmps;simp only[ag.ae,hm,hq]at en ec;obtain⟨i,zv,hi,Vu,fX⟩:=qP (U:=U) (ph:=ph) hz;unfold ki at hr;simp only[hi,Vu]at hr;split at hr;rename_i ma;simp only[ah,aD]at ma;obtain⟨⟨jn,A8⟩,ix⟩:=ma;simp only[af]at hr;rw[Q']at fX;have DZ:i.size=ks.length:=by rw[<- ix,fX];simp
 rw[hq]at g1;have jY:q<=140737488355328/i.bytes:=by rw[hr];omega
 have Vs:i.bytes*q<=140737488355328:=jS (Nat.mul_le_mul_left _ jY) (Nat.mul_div_le _ _);have HJ:q<=maxLen:=by
   have:q<=i.bytes*q:=Nat.le_mul_of_pos_left _ jn;unfold maxLen;omega
 obtain⟨w',e1,e2,e3⟩:=Ao (P:=P) w w0.heap.size t e i zv ks.length hu hi Vu DZ kd Zx m q hmq (by omega) HJ hs.below.size;rw[vv fX]at e2;have hl:(List.replicate m (List.replicate ks.length (0:Int))).length=m:=by simp
 have dH:=kf (dst:=o.dst) (xs:=List.replicate m (List.replicate ks.length 0)) (sl:=(some ⟨w.heap.size,0,none⟩,m,q)) (row:=none) (rows:=st.rows) hs qm bU aQ h0 (fun _ h=>h) e3 (fun _ h=>by cases h) (fun _ _=>by simp) (fun _ _ _ _ _=>by simp) (by rw[hl];exact e2) (.inr (.inl rfl));refine⟨.value (.slice (some ⟨w.heap.size,0,none⟩) m q),w',_,_,_,?_,rfl,⟨dH.sat,dH.agree,?_,dH.mono,dH.fresh⟩,cK⟩;simp only[execOp,ho,en,ec,dz,e1,dc,eU];rw[ho];exact dH.grown;cases hr;cases h
theorem o9{α:Type}{a:Array α}{x y:α}(h:a.toList=[x,y]):a = #[x,y]:=jv (by simpa using h)
theorem pc{Γ:bK}{G:BE}{k:aA->Prop}:∀ {ns:List BE},aL Γ (pZ G ns) k U->k U/\(G.ae U=true->∀n∈ns,n.ae U=true):=by
 intro ns;induction ns with
 |nil=>intro h;exact⟨h,fun _ n hn=>by simp at hn⟩
 | cons n ns ih=>
   intro h;simp only[pZ]at h;split at h;rename_i he;obtain⟨h1,h2⟩:=ih h;refine⟨h1,fun hG m hm=>?_⟩;rcases bh.1 hm with rfl|hm;exact BE.AU hG (by rw[he];rfl);exact h2 hG m hm;obtain⟨h0,h⟩:=iy h;obtain⟨h1,h2⟩:=ih h;refine⟨h1,fun hG m hm=>?_⟩;rcases bh.1 hm with rfl|hm;exact BE.AU hG h0;exact h2 hG m hm
theorem bC{r:Row}:∀ {rs l:List Row},r∈cG rs l↔r∈rs\/r∈l:=by
 intro rs;induction rs with
 |nil=>intro l;simp[cG]
 | cons x rs ih=>
   intro l;show r∈cQ x (cG rs l)↔_;rw[cW,ih,bh,or_assoc]
theorem wz{lv key:Nat}{i:IE}:∀ {aH:List NK} {j m:Nat},(eV lv i key j aH)[m]?=(aH[m]?).map (fun| .c k=>oU lv i (j+m) k| .s _ _=>.s (key+(j+m))):=by
 intro aH;induction aH with
 |nil=>intro j m;simp[eV]
 | cons nk aH ih=>
   intro j m;cases nk<;>cases m<;>simp[eV,ih,Nat.add_assoc,Nat.add_comm 1]
theorem D0{lv key:Nat}{i:IE}:∀ {aH:List NK} {j:Nat},(eV lv i key j aH).length=aH.length:=by
 intro aH;induction aH with
 |nil=>intro j;rfl
 |cons nk aH ih=>intro j;cases nk<;>simp[eV,ih]
theorem A9{G:BE}{key:Nat}{r:Row}:∀ {aH:List NK} {j:Nat},r∈jy G key j aH->∃m e k,aH[m]?=some (.s e k)/\r=⟨key+(j+m),e,[k],key+(j+m),false,G⟩:=by
 intro aH;induction aH with
 |nil=>intro j h;simp[jy]at h
 | cons nk aH ih=>
   intro j h;have up:r∈jy G key (j+1) aH->∃m e k,(nk::aH)[m]?=some (.s e k)/\r=⟨key+(j+m),e,[k],key+(j+m),false,G⟩:=fun h=>by
     obtain⟨m,e,k,h1,h2⟩:=ih h;exact⟨m+1,e,k,by simpa using h1,by rw[h2,show j+1+m=j+(m+1)by omega]⟩
   cases nk with
   |c k=>exact up h
   | s e k=>
     simp only[jy,bh]at h;rcases h with rfl|h;exact⟨0,e,k,rfl,rfl⟩;exact up h
theorem A'{Γ:bK}{k:aA->Prop}{lv key n:Nat}{i:IE}{all:List NK}{q:Nat->Bool}{bB:aA}(xg:q lv=true)(hi:i.all q=true)(hq:∀x,key<=x->x<key+n->q x=false):∀ {aH:List NK} {j:Nat} {U:aA},j+aH.length<=n->(∀x,q x=true->U x=bB x)->aL Γ (D1 lv i key all j aH) k U->
   ∃ai,k ai/\(∀x,q x=true->ai x=bB x)/\(∀x,x<key+j->ai x=U x)/\∀m e kk,aH[m]?=some (.s e kk)->ai (key+(j+m)) = .l ((cT.sub lv i all (j+m)).ae bB):=by
 intro aH;induction aH with
 |nil=>intro j U _ he h;exact⟨U,h,he,fun _ _=>rfl,fun m e kk hm=>by simp at hm⟩
 | cons nk aH ih=>
   intro j U hn he h;simp only[tY]at hn;cases nk with
   | c kk0=>
     obtain⟨ai,h1,h2,h3,h4⟩:=ih (j:=j+1) (U:=U) (by omega) he h;refine⟨ai,h1,h2,fun x hx=>h3 x (by omega),fun m e kk hm=>?_⟩;cases m with
     |zero=>simp at hm
     |succ m=>have:=h4 m e kk (by simpa using hm);rw[show j+1+m=j+(m+1)by omega]at this;exact this
   | s e0 kk0=>
     have vx:(cT.sub lv i all j).ae U=(cT.sub lv i all j).ae bB:=by
       simp only[cT.ae,he lv xg,IE.ak he hi]
     obtain⟨ai,h1,h2,h3,h4⟩:=ih (j:=j+1) (U:=U.set (key+j) (.l ((cT.sub lv i all j).ae U))) (by omega) (fun x hx=>by
       have:x≠key+j:=fun e=>by rw[e,hq _ (by omega) (by omega)]at hx;cases hx
       simp only[aA.set,this,if_false];exact he x hx) h
     refine⟨ai,h1,h2,fun x hx=>by rw[h3 x (by omega)];simp only[aA.set];rw[if_neg (by omega)],fun m e kk hm=>?_⟩;cases m with
     | zero=>
       rw[gA,h3 _ (by omega),<- vx];simp[aA.set]
     |succ m=>have:=h4 m e kk (by simpa using hm);rw[show j+1+m=j+(m+1)by omega]at this;exact this
def Ph.uf(ph:Ph)(key:Nat)(us:List Value):Ph:=
 { ph with v:=fun k=>if key<=k then(match us[k-key]? with
   |some (.slice a b c)=>(a,b,c)
   |_=>ph.v k)else ph.v k}
def lz(st:St)(G:BE)(key:Nat)(dst:Option Tmp)(n:df)(v:V1):St:=
 {st.bd key n.aH.length with rows:=cG (jy G key 0 n.aH) st.rows}.put dst ⟨G,.v v⟩
theorem wA{q:Nat->Bool}{lv key:Nat}{i:IE}{aH:List NK}(xg:q lv=true)(hi:i.all q=true)(hq:∀m,m<aH.length->q (key+m)=true):a7 q (eV lv i key 0 aH)=true:=by
 have:∀ {ls:List ag},(∀l∈ls,l.all q=true)->a7 q ls=true:=by
   intro ls;induction ls with
   |nil=>intro _;rfl
   |cons l ls ih=>intro h;simp only[a7,h l (aM ..),Bool.true_and];exact ih fun x hx=>h x (aZ _ hx)
 refine this fun l hl=>?_;obtain⟨m,hm⟩:=List.getElem?_of_mem hl;rw[wz]at hm;simp only[fP,bl]at hm;obtain⟨nk,Jo,rfl⟩:=hm;have hml:=(cC.1 Jo).1;cases nk with
 | c kk=>
   cases kk<;>simp only[oU,ag.all,BE.all,IE.all,ah]<;>exact⟨xg,hi⟩
 |s e kk=>exact hq m hml
theorem cP.cells{B:Nat}{st:St}{w:World}(h:cP B U ph st w){n:df}(hn:n∈st.aV)(hg:n.g.ae U=true):0<n.aH.length/\∃base cap,ph.val n.id = .slice base (U n.lv).list.length cap/\(U n.lv).list.length<=maxLen/\(base=none->(U n.lv).list.length=0/\cap=0)/\
   ∀i r,(U n.lv).list[i]?=some r->∃a,base=some a/\∀j nk,n.aH[j]?=some nk->∃u,w.cell? (a.add (i*n.aH.length+j))=some u/\pV ph.z w nk (r.getD j 0) (fW n.aH r j) u:=by
 obtain⟨h0,h1⟩:=h.rd n hn hg;refine⟨h0,?_⟩;unfold eH at h1;split at h1;obtain⟨base,cap,e1,e2,e3,e4⟩:=h1.reads (z':=fun _=>True) h0 (fun _ _=>trivial) (fun _ _=>trivial);obtain⟨cs,bA,hc⟩:=h1;refine⟨base,cap,e1,e2,e3,fun i r hi=>?_⟩;obtain⟨a,rfl,_,_⟩:=e4 i r hi;refine⟨a,rfl,fun j nk hj=>?_⟩;obtain⟨u,hu,tc⟩:=hc i r hi j nk hj;rw[e1]at bA;have had:a=⟨a.block,0,none⟩:=by
   obtain⟨_,⟨e,_⟩|⟨g,nX,cur,e,_⟩⟩:=bA;simp at e;simp only[Value.slice.injEq,af]at e;rw[e.1]
 rw[had]at bA ⊢;exact⟨u,bA.cells (by simp[Value.ownBlock]) _ _ hu,tc.ln (fun _ _=>rfl) (fun _ h=>h.1)⟩;obtain⟨base,cap,e1,e2,e3,e4⟩:=h1;refine⟨base,cap,e1,e2,e3,fun i r hi=>?_⟩;obtain⟨a,e,_,ix⟩:=e4 i r hi;exact⟨a,e,ix⟩
theorem FQ{Γ:bK}{w0 w:World}{st:St}{a:Act}{o:Oper}{t:TypeId}{x:Operand}{key j:Nat}{k:aA->Prop}{n:df}{i:IE}{G:BE}{v:V1}
   (hs:Sat w0 U ph st a w) (ho:o.op = .load t x) (hG:G.ae U=true) (hx:bc st G x=some (.ep n.id n.aH.length i j)) (a6:n∈st.aV) (ll:0<n.aH.length) (hg:G.gZ n.g=true) (qm:G.all st.has=true) (aQ:st.free key n.aH.length=true) (RF:i.all st.has=true) (Ch:st.has n.lv=true)
   (nW:Looks P t v) (qL:∀jj l,v.leaves[jj]?=some l->(eV n.lv i key 0 n.aH)[j+jj]?=some l) (Ba:∀q:Nat->Bool,a7 q (eV n.lv i key 0 n.aH)=true->v.all q=true)
   (hk:aL Γ (pZ G [(BE.le (.c 0) i).mk,(BE.lt i (.len n.lv)).mk]++D1 n.lv i key n.aH 0 n.aH) k U):mH Γ P w0 U ph st (lz st G key o.dst n v) o a w k:=by
   rw[eO]at hk;obtain⟨hk,n9⟩:=pc hk;have n9:=n9 hG;have h0:=bP (n9 _ (aM ..));have h1:=eB (n9 _ (aZ _ (aM ..)));simp only[IE.ae]at h0 h1;have mK:n.g.ae U=true:=BE.cj hg hG;obtain⟨_,base,cap,hv,hlen,jn,z7⟩:=hs.nest.cells a6 mK;have dy:(i.ae U).toNat<(U n.lv).list.length:=by omega
   obtain⟨r,hr⟩:∃r,(U n.lv).list[(i.ae U).toNat]?=some r:=⟨_,fV dy⟩;obtain⟨ad,rfl,ix⟩:=z7 _ r hr;have aak:(U n.lv).list.getD (i.ae U).toNat []=r:=by simp[List.getD,hr]
   obtain⟨us,hus⟩:∃us:List Value,us=(List.range n.aH.length).map fun j=>(w.cell? (ad.add ((i.ae U).toNat*n.aH.length+j))).getD undef:=⟨_,rfl⟩;have akk:us.length=n.aH.length:=by simp[hus]
   have La:∀j nk,n.aH[j]?=some nk->∃u,us[j]?=some u/\w.cell? (ad.add ((i.ae U).toNat*n.aH.length+j))=some u/\pV ph.z w nk (r.getD j 0) (fW n.aH r j) u:=fun j nk hj=>by
     obtain⟨u,h1,h2⟩:=ix j nk hj;have Fw:=(cC.1 hj).1;refine⟨u,?_,h1,h2⟩;simp[hus,gJ,List.getElem?_range Fw,h1]
   have ib:∀j,j<n.aH.length->st.has (key+j)=false:=fun j hj=>cy aQ (by omega) (by omega);obtain⟨ai,RG,hE1,_,hE2⟩:=A' (bB:=U) (q:=st.has) Ch RF (fun x a b=>cy aQ a b) (by omega) (fun _ _=>rfl) hk;simp only[fP]at hE2;have bq:a8 st.has U ai ph (ph.uf key us):=by
     refine⟨fun x hx=>(hE1 x hx).symm,fun _ _=>rfl,fun x hx=>?_⟩;simp only[Ph.uf];split;rename_i hkx;rcases pf (x-key) n.aH.length with cF|z8;have:=ib _ cF;rw[show key+(x-key)=x by omega,hx]at this;cases this;rw[tW (by omega)];rfl
   have iX:=hs.congr bq;have bF:∀k,st.has k=true->(st.bd key n.aH.length).has k=true:=fun k hk=>fH hk;have D2:∀(m:Nat) (e:TypeId) (kk:CK),n.aH[m]?=some (.s e kk)->∃u,us[m]?=some u/\(ph.uf key us).val (key+m)=u/\(ai (key+m)).list=(fW n.aH r m).map (fun x=>[x])/\Reads w u (fW n.aH r m).length (av [kk] ((fW n.aH r m).map fun x=>[x]))/\(fW n.aH r m≠[]->∀b,u.ownBlock=some b->ph.z b):=fun m e kk hm=>by
     obtain⟨u,h1,_,h3,h4,h5⟩:=La m _ hm;refine⟨u,h1,?_,?_,h4,h5⟩;obtain⟨b0,c0,rfl,_⟩:=h4;simp[Ph.val,Ph.uf,h1];rw[hE2 m e kk hm];show((cT.sub n.lv i n.aH m).ae U)=_;simp only[cT.ae,aak]
   have oM:∀r'∈jy G key 0 n.aH,∃(m:Nat) (e:TypeId) (kk:CK),n.aH[m]?=some (.s e kk)/\r'=⟨key+m,e,[kk],key+m,false,G⟩:=fun r' cq=>by
     obtain⟨m,e,kk,a,b⟩:=A9 cq;exact⟨m,e,kk,a,by rw[b,fP]⟩
   have Vv:∀r'∈jy G key 0 n.aH,fw w0.heap.size ai (ph.uf key us) r' w/\r'.own=false/\∀b,r'.bM ai (ph.uf key us)=some b->ph.z b:=fun r' cq=>by
     obtain⟨m,e,kk,hm,rfl⟩:=oM r' cq;obtain⟨u,_,e1,e2,e3,e4⟩:=D2 m e kk hm;refine⟨⟨by simp,?_⟩,rfl,fun b hb=>?_⟩;simp only[iC,if_false,e1,e2,kT];exact e3;simp only[Row.bM,Bool.false_or,e1,e2,kT,aD]at hb;split at hb;rename_i ck;exact e4 (fun e=>ck (by rw[e];rfl)) b hb;cases hb
   have b6:∀m,m<n.aH.length->(st.bd key n.aH.length).has (key+m)=true:=fun m hm=>ia (by omega) (by omega);have Fy:G.ae ai=true:=by rw[<- BE.ak bq.e qm];exact hG
   have B4:ph.v n.id=(some ad,(U n.lv).list.length,cap):=by
     simp only[Ph.val,Value.slice.injEq]at hv;exact Prod.ext hv.1 (Prod.ext hv.2.1 hv.2.2)
   have cd:(execOp a.eval o).run P w = .ok (.value (v.ae ai (ph.uf key us))) w:=by
     have ex:=aq hx hG hs.tmps;simp only[ag.ae,B4]at ex;simp only[execOp,ho,ex,Instr.loadAt,Instr.sureAddr,dz,eU,dc];rw[gL (U:=ai) (ph:=ph.uf key us) nW fun jj lf hj=>?_];rfl;have hj:=qL jj lf hj;simp only[wz,fP,bl]at hj;obtain⟨nk,Jo,rfl⟩:=hj;rw[gd,Nat.add_assoc];cases nk with
     | c kk=>
       obtain⟨u,_,h2,h3⟩:=La (j+jj) _ Jo;rw[h2];have h3:u=kk.val (r.getD (j+jj) 0):=h3;rw[h3,qB,<- bq.e _ Ch,<- IE.ak bq.e RF];simp only[cellAt,aak]
     | s e kk=>
       obtain⟨u,h1,h2,_⟩:=La (j+jj) _ Jo;obtain⟨u',HB,e1,_⟩:=D2 (j+jj) e kk Jo;rw[h1,af]at HB;subst HB;rw[h2];simp only[ag.ae,e1]
   have hW:qh st ph o.op=none:=by rw[ho];rfl
   have LQ:a7 (st.bd key n.aH.length).has (eV n.lv i key 0 n.aH)=true:=wA (bF _ Ch) (IE.ax bF RF) b6;refine⟨_,w,_,ai,ph.uf key us,cd,rfl,?_,RG⟩;rw[hW];unfold lz;refine⟨⟨?_,?_,hs.below,by rw[cg];exact hs.defers,?_,?_⟩,bq,bW w,fun k hk=>by rw[b7];exact bF k hk,fun b hb=>.inl ⟨b,by rw[bN]at hb;exact hb,rfl⟩⟩;exact lY (st:={st.bd key n.aH.length with rows:=cG (jy G key 0 n.aH) st.rows}) iX.tmps (by simp[aN.ae,Fy,SV.ae]);rw[bN,cJ];have hm:=iX.mem;refine⟨hm.lP,hm.bb,fun r' cq A5=>?_,fun b hb r' cq A5 e=>?_,fun q hq q' Lh ck HK LM wC b hb mE=>?_⟩;rcases bC.1 cq with cq|cq;exact(Vv r' cq).1;exact hm.row r' cq A5;rcases bC.1 cq with cq|cq;exact iX.nest.bz b hb ((Vv r' cq).2.2 _ e);exact hm.br b hb r' cq A5 e;rcases bC.1 hq with hq|hq;rw[(Vv q hq).2.1]at HK;cases HK;rcases bC.1 Lh with Lh|Lh;exact iX.nest.rz q hq HK LM b hb ((Vv q' Lh).2.2 _ mE);exact hm.rr q hq q' Lh ck HK LM wC b hb mE;refine⟨?_,?_,?_⟩;refine fJ (st:={st.bd key n.aH.length with rows:=cG (jy G key 0 n.aH) st.rows}) (fun t s ht=>aN.ax bF (hs.names.tmps t s ht)) ?_;simp only[aN.all,SV.all,ah];exact⟨BE.ax bF qm,Ba _ LQ⟩;rw[bN,b7];exact fun b hb=>gD.ax bF (hs.names.aR b hb);rw[cJ,b7];intro r' cq;rcases bC.1 cq with cq|cq;obtain⟨m,e,kk,hm,rfl⟩:=oM r' cq;have:=b6 m (cC.1 hm).1;simp only[Row.all,ah];exact⟨this,this,BE.ax bF qm⟩;exact Row.ax bF (hs.names.rows r' cq)
   . refine cP.put (st:={st.bd key n.aH.length with rows:=cG (jy G key 0 n.aH) st.rows}) (iX.nest.next (cc (p:=st.has)) rfl bF (bW w) (fun k hk=>by cases hk) rfl (fun b hb=>.inl ⟨b,hb,rfl⟩) (fun r' cq h1 b hb=>?_));rcases bC.1 cq with cq|cq;exact .inr (.inr (.inr ⟨(Vv r' cq).2.1,(Vv r' cq).2.2 b hb⟩));exact .inl ⟨r',cq,id,h1,hb⟩
theorem LR{Γ:bK}{w0 w:World}{st:St}{a:Act}{dst:Option Tmp}{key:Nat}{k:aA->Prop}{n:df}{i:IE}{G:BE}{v:V1}
   (hs:Sat w0 U ph st a w) (hG:G.ae U=false) (qm:G.all st.has=true) (aQ:st.free key n.aH.length=true) (RF:i.all st.has=true) (Ch:st.has n.lv=true) (Ba:∀q:Nat->Bool,a7 q (eV n.lv i key 0 n.aH)=true->v.all q=true)
   (hk:aL Γ (pZ G [(BE.le (.c 0) i).mk,(BE.lt i (.len n.lv)).mk]++D1 n.lv i key n.aH 0 n.aH) k U) :
   ∃ai,Step w0 U ai ph ph st (lz st G key dst n v) (a.put dst undef) w w none/\k ai:=by
 rw[eO]at hk;obtain⟨hk,_⟩:=pc hk;obtain⟨ai,RG,hE1,_,_⟩:=A' (bB:=U) (q:=st.has) Ch RF (fun x a b=>cy aQ a b) (by omega) (fun _ _=>rfl) hk;have bq:a8 st.has U ai ph ph:=⟨fun x hx=>(hE1 x hx).symm,fun _ _=>rfl,fun _ _=>rfl⟩;have iX:=hs.congr bq;have Fy:G.ae ai=false:=by rw[<- BE.ak bq.e qm];exact hG
 have bF:∀k,st.has k=true->(st.bd key n.aH.length).has k=true:=fun k hk=>fH hk;have b6:∀m,m<n.aH.length->(st.bd key n.aH.length).has (key+m)=true:=fun m hm=>ia (by omega) (by omega);have oM:∀r'∈jy G key 0 n.aH,∃(m:Nat) (e:TypeId) (kk:CK),n.aH[m]?=some (.s e kk)/\r'=⟨key+m,e,[kk],key+m,false,G⟩:=fun r' cq=>by
   obtain⟨m,e,kk,a,b⟩:=A9 cq;exact⟨m,e,kk,a,by rw[b,fP]⟩
 have LQ:a7 (st.bd key n.aH.length).has (eV n.lv i key 0 n.aH)=true:=wA (bF _ Ch) (IE.ax bF RF) b6;have ho:∀r∈cG (jy G key 0 n.aH) st.rows,r.g.ae ai=true->r∈st.rows:=fun r hr h1=>by
   rcases bC.1 hr with hr|hr;obtain⟨m,e,kk,_,rfl⟩:=oM r hr;rw[Fy]at h1;cases h1;exact hr
 refine⟨ai,⟨⟨?_,?_,hs.below,by rw[cg];exact hs.defers,?_,?_⟩,bq,bW w,fun k hk=>by rw[lz,b7];exact bF k hk,fun b hb=>.inl ⟨b,by rw[lz,bN]at hb;exact hb,rfl⟩⟩,RG⟩;refine lY (st:={st.bd key n.aH.length with rows:=cG (jy G key 0 n.aH) st.rows}) iX.tmps ?_;simp only[aN.ae,Fy];rfl;rw[lz,bN,cJ];have hm:=iX.mem;exact⟨hm.lP,hm.bb,fun r hr h1=>hm.row r (ho r hr h1) h1,fun b hb r hr h1=>hm.br b hb r (ho r hr h1) h1,fun r hr r' cq ck hw h1 h2=>hm.rr r (ho r hr h1) r' (ho r' cq h2) ck hw h1 h2⟩;refine⟨?_,?_,?_⟩;refine fJ (st:={st.bd key n.aH.length with rows:=cG (jy G key 0 n.aH) st.rows}) (fun t s ht=>aN.ax bF (hs.names.tmps t s ht)) ?_;simp only[aN.all,SV.all,ah];exact⟨BE.ax bF qm,Ba _ LQ⟩;rw[lz,bN,b7];exact fun b hb=>gD.ax bF (hs.names.aR b hb);rw[lz,cJ,b7];intro r' cq;rcases bC.1 cq with cq|cq;obtain⟨m,e,kk,hm,rfl⟩:=oM r' cq;have:=b6 m (cC.1 hm).1;simp only[Row.all,ah];exact⟨this,this,BE.ax bF qm⟩;exact Row.ax bF (hs.names.rows r' cq)
 . exact cP.put (st:={st.bd key n.aH.length with rows:=cG (jy G key 0 n.aH) st.rows}) (iX.nest.next (cc (p:=st.has)) rfl bF (bW w) (fun k hk=>by cases hk) rfl (fun b hb=>.inl ⟨b,hb,rfl⟩) (fun r' cq h1 b hb=>.inl ⟨r',ho r' cq h1,id,h1,hb⟩))
end
section
open Go.RowKit
variable {U:aA}{ph:Ph}{P:Program}
theorem D7{w:World}{B:Nat}{t ty e:TypeId}{room sz:Nat}{a0:Option Addr}{y:Value}{n m:Nat}{xs news:List Value}(ht:P.underlying t=some (.slice e))(hr:ki P e=some room)(sH:P.cellsOf e=sz)
   (h0:a0=none->n=0) (qe:∀j u,xs[j]?=some u->∃a,a0=some a/\w.cell? (a.add j)=some u) (nV:xs.length=n*sz) (hy:Reads w y m news) (hl:news.length=m*sz) (h1:∀u∈news,u.oneCell'=true) (rU:0<m) (jY:n+m<=room) (hB:B<=w.heap.size) :
   ∃(sl:Option Addr×Nat×Nat) (w':World),(Builtin.append_ #[t,t] ty #[.slice a0 n n,y]).run P w = .ok (.slice sl.1 sl.2.1 sl.2.2) w'/\w'.ownsRow B e sz (.slice sl.1 sl.2.1 sl.2.2) (n+m) (xs++news)/\w.grownBy w' none/\
     ((Value.slice sl.1 sl.2.1 sl.2.2).ownBlock=none\/(Value.slice sl.1 sl.2.1 sl.2.2).ownBlock=some w.heap.size):=by
 cases a0 with
 | none=>
   have hn:=h0 rfl;subst hn;have:xs=[]:=BV (by rw[nV,Nat.zero_mul]);subst this;obtain⟨sl,w',e1,e2,e3,e4⟩:=qN (ty:=ty) ht hr sH (World.ownsRow_nil w B e sz) hy hl h1 jY hB;exact⟨sl,w',e1,e2,e3,e4⟩
 | some b=>
   unfold ki at hr;cases hi:P.info? e with
   |none=>simp[hi]at hr
   | some i=>
     simp only[hi]at hr;cases hz:i.zero with
     |none=>simp[hz]at hr
     | some z=>
       simp only[hz]at hr;split at hr;rename_i hc;simp only[ah,aD]at hc;obtain⟨⟨jn,A8⟩,hzs⟩:=hc;simp only[af]at hr;subst hr;have Vr:i.size=sz:=by rw[<- sH,o8 hi]
       have Vs:(n+m)*i.bytes<=140737488355328:=(Nat.le_div_iff_mul_le jn).1 jY;have HJ:n+m<=maxLen:=by
         have:n+m<=(n+m)*i.bytes:=Nat.le_mul_of_pos_right _ jn;unfold maxLen;omega
       obtain⟨base,cap,rfl,hm,tg,ix⟩:=hy;cases base with
       |none=>have:=(tg rfl).1;omega
       | some a=>
         have adx:0<sz:=by omega
         have hlen:(xs++news).length=(n+m)*sz:=by rw[dG,nV,hl,j7]
         obtain⟨v',w',e1,e2,e3⟩:=run_append_arg_grows (P:=P) w t ty e i z sz i.bytes ht hi hz Vr rfl (by rw[hzs,Vr]) adx b n n xs nV
           (fun j u hj=>by obtain⟨a',e,h⟩:=qe j u hj;simp only[af]at e;subst e;exact h) a m cap news hl
           (fun j u hj=>by obtain⟨a',e,h⟩:=ix j u hj;simp only[af]at e;subst e;exact h) (by omega) HJ Vs
         obtain⟨sl,rfl⟩:=kg e2;refine⟨sl,w',e1,⟨e2.1,?_⟩,e3,?_⟩;rcases e2.2 with hh|⟨g,nX,cur,f1,f2,f3⟩;exact .inl hh;exact .inr ⟨g,nX,cur,f1,by omega,f3⟩;rcases e2.2 with⟨hh,_⟩|⟨g,nX,cur,f1,f2,f3,f4⟩;left;rw[hh];rfl
         ·
           right;have hr:=run_append_grow (P:=P) w t ty e i z ht hi hz b n n xs (by rw[nV,Vr]) (fun j u hj=>by obtain⟨a',e,h⟩:=qe j u hj;simp only[af]at e;subst e;exact h) a m cap news (by rw[hl,Vr])
             (fun j u hj=>by obtain⟨a',e,h⟩:=ix j u hj;simp only[af]at e;subst e;exact h) (by omega) (by unfold maxLen at HJ;omega) (growslice_fits (by omega) Vs)
           rw[e1]at hr;simp only[Result.ok.injEq]at hr;rw[hr.1];rfl
       cases hr
theorem yd{Γ:bK}{w0 w:World}{st aW:St}{a:Act}{o:Oper}{t e:TypeId}{x y:Operand}{key room:Nat}{cN:List Ev}{k:aA->Prop}{ra rb:Row}
   (hs:Sat w0 U ph st a w) (ho:o.op = .call {callee:=.builtin .append,args:=#[x,y],argTypes:=#[t,t] }) (hu:P.underlying t=some (.slice e)) (hr:ki P e=some room)
   (hx:bc st (.c true) x=some (.cs ra.id)) (hy:bc st (.c true) y=some (.s rb.id)) (yh:ra∈st.rows) (Am:rb∈st.rows) (Jw:ra.g = .c true) (Cg:rb.g = .c true) (lR:ra.ks=rb.ks) (n8:P.cellsOf e=ra.ks.length)
   (h:newRow st (.c true) key e ra.ks [.aG (BE.lt (.c 0) (.len rb.lv)).mk,.aG (BE.le (IE.add (.len ra.lv) (.len rb.lv)).mk (.c (room:Int))).mk] (.app ra.lv rb.lv) st.rows o.dst=some (cN,aW)) (hk:aL Γ cN k U) :
   mH Γ P w0 U ph st aW o a w k:=by
 unfold newRow at h;split at h;rename_i aQ;simp only[ah]at aQ;obtain⟨aQ,qm⟩:=aQ;simp only[af,ao]at h;obtain⟨rfl,rfl⟩:=h;obtain⟨h0,hk⟩:=iy (es:=[.aG (BE.le (IE.add (.len ra.lv) (.len rb.lv)).mk (.c (room:Int))).mk,.cu key (.app ra.lv rb.lv)]) hk;obtain⟨h1,hk⟩:=iy (es:=[.cu key (.app ra.lv rb.lv)]) hk;have h0:=eB h0;have h1:=bP h1;rw[IE.bY]at h1;simp only[IE.ae]at h0 h1;have cK:k (U.set key (.l ((U ra.lv).list++(U rb.lv).list))):=hk;have Cj:=hs.mem.row ra yh (by rw[Jw];rfl);have Vx:=hs.mem.row rb Am (by rw[Cg];rfl);have ex:=aq hx bU hs.tmps;have ey:=aq hy bU hs.tmps;simp only[ag.ae]at ex ey;obtain⟨base,cap,hv,hn,jn,ix⟩:=Cj.reads;have iJ:ph.v ra.id=(base,(U ra.lv).list.length,cap):=by
   simp only[Ph.val,Value.slice.injEq]at hv;exact Prod.ext hv.1 (Prod.ext hv.2.1 hv.2.2)
 rw[iJ]at ex;have aao:=Vx.reads;rw[<- lR]at aao;obtain⟨sl,w',e1,e2,e3,e5⟩:=D7 (ty:=o.type) hu hr n8 (fun e=>(jn e).1) ix (bH _ _) aao (bH _ _) (hU _ _) (by omega) (by omega) hs.below.size;rw[<- kS,<- dG]at e2;have dH:=kf (dst:=o.dst) (sl:=sl) (row:=none) (rows:=st.rows) hs qm bU aQ Cj.1 (fun _ h=>h) e3 (fun _ h=>by cases h) (fun _ _=>by simp) (fun _ _ _ _ _=>by simp) e2 (by
   rcases e5 with e5|e5;exact .inl e5;exact .inr (.inl e5))
 have hW:qh st ph o.op=none:=by simp[ho,qh,hx]
 refine⟨.value (.slice sl.1 sl.2.1 sl.2.2),w',_,_,_,?_,rfl,by rw[hW];exact dH,cK⟩;simp only[execOp,ho,resolve,invoke,builtin,dz,eU,dc,List.map_toArray,jt,mJ,ex,ey,e1];cases h
theorem Bb{w:World}{B:Nat}{e:TypeId}{sz:Nat}{base:Option Addr}{n cap:Nat}{xs:List Value}(bA:w.ownsRow B e sz (.slice base n cap) n xs)(vs:List Value)(hl:vs.length<=n*sz)(h1:∀v∈vs,v.oneCell'=true) :
   ∃w',(∀a,base=some a->(storeCells a vs).run P w = .ok () w')/\(base=none->w'=w)/\w'.ownsRow B e sz (.slice base n cap) n (vs++xs.drop vs.length)/\w.grownBy w' (Value.slice base n cap).ownBlock:=by
 obtain⟨nV,⟨e1,gY⟩|⟨g,nX,cur,e1,hg,hh,tc,RE,ix,qK⟩⟩:=bA;simp only[Value.slice.injEq]at e1;obtain⟨rfl,rfl,rfl⟩:=e1;have kW:vs=[]:=BV (by simpa using hl);have qe:xs=[]:=BV (by simpa using nV);subst kW qe;exact⟨w,(by intro a h;cases h),(by intro _;rfl),World.ownsRow_nil _ _ _ _,hZ (bW w)⟩;simp only[Value.slice.injEq,true_and]at e1;obtain⟨rfl,rfl⟩:=e1;have mD:cur.toList.length=cap*sz:=by simpa using ix
 have hle:n*sz<=cap*sz:=vn _ tc;obtain⟨w',hr,gn,Le⟩:=jx (P:=P) g e 0 vs 0 cur.toList w (by simpa using hh) (by rw[mD];omega) h1;have o7:=rW vs cur.toList 0 0 (by rw[mD];omega);rw[o7]at Le;simp only[fP,gA,List.take_zero,kG]at Le;refine⟨w',(by intro a ha;cases ha;exact hr),(by intro h;cases h),⟨?_,.inr ⟨g,cap,_,rfl,hg,Le,tc,RE,?_,?_⟩⟩,gn⟩;simp only[dG,List.length_drop,nV];omega;simp only[List.size_toArray,dG,List.length_drop,mD];omega;simp only[BY];rw[List.take_append,oV (by omega),<- qK];congr 1;rw[List.drop_take]
theorem Aq(ks:List CK):∀(xs:List (List Int)) (n:Nat),av ks (xs.drop n)=(av ks xs).drop (n*ks.length):=by
 intro xs;induction xs with
 |nil=>intro n;simp[av]
 | cons r rs ih=>
   intro n;cases n with
   |zero=>simp
   | succ n=>
     simp only[List.drop_succ_cons,av,ih];rw[show(n+1)*ks.length=ks.length+n*ks.length by rw[j7];omega,List.drop_append,b5,ue (l:=bG ks 0 r) (by rw[b5];omega),kG];congr 1;omega
theorem LY{w:World}{B:Nat}{r:Row}(h:fw B U ph r w):∃base cap,ph.val r.id = .slice base (U r.lv).list.length cap/\(base=none->(U r.lv).list.length=0/\cap=0):=by
 obtain⟨base,cap,hv,_,jn,_⟩:=h.reads;exact⟨base,cap,hv,jn⟩
theorem Jx{e:TypeId}(h:(P.info? e).isSome=true):∃i,P.info? e=some i/\i.size=P.cellsOf e:=by
 obtain⟨i,hi⟩:=xT.1 h;exact⟨i,hi,(o8 hi).symm⟩
theorem Jy{Γ:bK}{w0 w:World}{st:St}{a:Act}{o:Oper}{t e:TypeId}{x y:Operand}{key:Nat}{k:aA->Prop}{ra rb:Row}
   (hs:Sat w0 U ph st a w) (ho:o.op = .call {callee:=.builtin .copy,args:=#[x,y],argTypes:=#[t,t] }) (hu:P.underlying t=some (.slice e))
   (hx:bc st (.c true) x=some (.s ra.id)) (hy:bc st (.c true) y=some (.s rb.id)) (yh:ra∈st.rows) (Am:rb∈st.rows) (bA:ra.own=true) (Jw:ra.g = .c true) (Cg:rb.g = .c true) (lR:ra.ks=rb.ks) (n8:P.cellsOf e=ra.ks.length)
   (hi:(P.info? e).isSome=true) (aQ:st.free key 1=true) (hk:aL Γ [.cu key (.LZ ra.lv rb.lv)] k U) :
   mH Γ P w0 U ph st ({st.bd key 1 with rows:=cQ {ra with lv:=key} (st.rows.filter fun r=>decide (r.id≠ra.id)) }.put o.dst ⟨.c true,.v (.one (.i .i64 (.min (.len ra.lv) (.len rb.lv))))⟩) o a w k:=by
 have FP:ra.g.ae U=true:=by rw[Jw];rfl
 have Cj:=hs.mem.row ra yh FP;have Vx:=hs.mem.row rb Am (by rw[Cg];rfl);have ex:=aq hx bU hs.tmps;have ey:=aq hy bU hs.tmps;simp only[ag.ae]at ex ey;have cD:=Cj.2;rw[if_pos bA]at cD;obtain⟨ba,ca,iJ,hba⟩:=LY Cj;obtain⟨bb,cb,hvb,hnb,hbb,hcb⟩:=Vx.reads;rw[iJ]at cD;obtain⟨i,hii,his⟩:=Jx hi;obtain⟨m,hm⟩:∃m,m=Nat.min (U rb.lv).list.length (U ra.lv).list.length:=⟨_,rfl⟩;have tT:m<=(U rb.lv).list.length:=by rw[hm];exact Nat.min_le_left _ _
 have Fv:m<=(U ra.lv).list.length:=by rw[hm];exact Nat.min_le_right _ _
 obtain⟨vs,kW⟩:∃vs,vs=av rb.ks ((U rb.lv).list.take m):=⟨_,rfl⟩;have qL:vs.length=m*ra.ks.length:=by rw[kW,bH,sI,lR];congr 1;omega
 have hlm:m*ra.ks.length<=(U ra.lv).list.length*ra.ks.length:=vn _ Fv;obtain⟨w',dM,L0,ib,gn⟩:=Bb (P:=P) cD vs (by omega) (by rw[kW];exact hU _ _);have vx:(cT.LZ ra.lv rb.lv).ae U=(U rb.lv).list.take m++(U ra.lv).list.drop m:=by
   simp only[cT.ae];rw[hm];rcases Nat.le_total (U rb.lv).list.length (U ra.lv).list.length with hle|hle;rw[show Nat.min (U rb.lv).list.length (U ra.lv).list.length=(U rb.lv).list.length from Nat.min_eq_left hle];rw[oV hle,oV (eZ _)];rw[show Nat.min (U rb.lv).list.length (U ra.lv).list.length=(U ra.lv).list.length from Nat.min_eq_right hle];rw[ue hle,ue (eZ _)]
 obtain⟨k9,Cc⟩:∃k9,k9=(U rb.lv).list.take m++(U ra.lv).list.drop m:=⟨_,rfl⟩;have cK:k (U.set key (.l k9)):=by rw[Cc,<- vx];exact hk
 have nV:k9.length=(U ra.lv).list.length:=by rw[Cc];simp only[dG,sI,List.length_drop];omega
 have Jz:av ra.ks k9=vs++(av ra.ks (U ra.lv).list).drop vs.length:=by
   rw[Cc,kS,kW,<- lR,Aq,bH];congr 2;rw[sI];congr 1;omega
 have hW:qh st ph o.op=(ph.val ra.id).ownBlock:=by simp[ho,qh,hx]
 have th:st.has key=false:=cy aQ (eZ _) (by omega);have kV:=fun(q:Row) (hq:q∈st.rows)=>by
   have:=hs.names.rows q hq;simpa only[Row.all,ah]using this
 have ck:∀k,st.has k=true->k≠key:=fun k hk e=>by rw[e,th]at hk;cases hk
 refine⟨.value (goInt m),w',_,U.set key (.l k9),ph,?_,rfl,?_,cK⟩;have hfc:∀sl:Option Addr,bb=sl->(Builtin.firstCells ra.ks.length m (.slice sl (U rb.lv).list.length cb)).run P w = .ok vs.toArray w:=by
   intro sl D2;cases sl with
   | none=>
     have:=(hbb D2).1;have rU:m=0:=by omega
     rw[kW,rU];simp[Builtin.firstCells,av]
   | some b=>
     have FF:=run_firstCells_some (P:=P) w ra.ks.length m b (U rb.lv).list.length cb vs qL (fun j u hj=>by
       have:(av rb.ks (U rb.lv).list)[j]?=some u:=by
         rw[kW,sV]at hj;rw[xW]at hj;split at hj;exact hj;cases hj
       obtain⟨a',e,h⟩:=hcb j u this;rw[D2,af]at e;subst e;exact h)
     exact FF
 have hfc:=hfc bb rfl;simp only[execOp,ho,resolve,invoke,builtin,dz,eU,dc,List.map_toArray,jt,mJ,ex,ey,iJ,hvb];have cd:(Builtin.copy_ #[t,t] o.type #[.slice ba (U ra.lv).list.length ca,.slice bb (U rb.lv).list.length cb]).run P w = .ok (goInt m) w':=by
   simp only[Builtin.copy_,List.getElem?_toArray,jo,xO,dz,run_underlying hu,dc,Builtin.lenOf,eU,bT (P:=P) (t:=e) (by rw[n8];exact Cj.1),n8,<- hm,hfc];cases JA:ba with
   |none=>simp[L0 JA]
   |some b=>simp[dM b JA]
 rw[cd];rfl;rw[hW];refine qG hs yh bA FP aQ (by rw[iJ,nV,Jz];exact ib) (by rw[iJ];exact gn) ?_ ?_;simp only[aN.all,BE.all,SV.all,V1.all,ag.all,IE.all,Bool.true_and,ah];exact⟨fH (kV ra yh).2.1,fH (kV rb Am).2.1⟩;simp only[aN.ae,BE.ae,if_true,SV.ae,V1.ae,ag.ae,IE.ae,aA.set,ck _ (kV ra yh).2.1,ck _ (kV rb Am).2.1,if_false,goInt];congr 1;rw[hm];have:((Nat.min (U rb.lv).list.length (U ra.lv).list.length:Nat):Int)=min ((U ra.lv).list.length:Int) ((U rb.lv).list.length:Int):=by
   have:Nat.min (U rb.lv).list.length (U ra.lv).list.length=min (U rb.lv).list.length (U ra.lv).list.length:=rfl;rw[this];omega
 exact this
theorem FU{Γ:bK}{w0 w:World}{st:St}{a:Act}{o:Oper}{t e:TypeId}{x:Operand}{key:Nat}{k:aA->Prop}{ra:Row}{z:V1}
   (hs:Sat w0 U ph st a w) (ho:o.op = .call {callee:=.builtin .clear,args:=#[x],argTypes:=#[t] }) (hu:P.underlying t=some (.slice e))
   (hx:bc st (.c true) x=some (.s ra.id)) (yh:ra∈st.rows) (bA:ra.own=true) (Jw:ra.g = .c true) (n8:P.cellsOf e=ra.ks.length) (hz:nZ P e=some z) (Q':z.leaves=ra.ks.map zeroOf)
   (aQ:st.free key 1=true) (hk:aL Γ [.cu key (.rep (.len ra.lv) (List.replicate ra.ks.length 0))] k U) :
   mH Γ P w0 U ph st ({st.bd key 1 with rows:=cQ {ra with lv:=key} (st.rows.filter fun r=>decide (r.id≠ra.id)) }.put o.dst ⟨.c true,.Fu []⟩) o a w k:=by
 have FP:ra.g.ae U=true:=by rw[Jw];rfl
 have Cj:=hs.mem.row ra yh FP;have ex:=aq hx bU hs.tmps;simp only[ag.ae]at ex;have cD:=Cj.2;rw[if_pos bA]at cD;obtain⟨ba,ca,iJ,hba⟩:=LY Cj;rw[iJ]at cD;obtain⟨n,hn⟩:∃n,n=(U ra.lv).list.length:=⟨_,rfl⟩;rw[<- hn]at cD iJ hba;obtain⟨i,zv,hii,Vu,fX⟩:=qP (U:=U) (ph:=ph) hz;rw[Q']at fX;have hzs:zv.cells.size=ra.ks.length:=by rw[fX];simp
 have aap:=vv fX n;have Rb:(Builtin.zeroCells zv.cells n).toList=av ra.ks (List.replicate n (List.replicate ra.ks.length 0)):=by
   rw[<- aap];simp only[Builtin.zeroCells,madeCells,hzs]
 obtain⟨vs,kW⟩:∃vs,vs=av ra.ks (List.replicate n (List.replicate ra.ks.length 0)):=⟨_,rfl⟩;rw[<- kW]at Rb;have qL:vs.length=n*ra.ks.length:=by rw[kW,bH,List.length_replicate]
 obtain⟨w',dM,L0,ib,gn⟩:=Bb (P:=P) cD vs (by omega) (by rw[kW];exact hU _ _);have hd:(av ra.ks (U ra.lv).list).drop vs.length=[]:=ue (by rw[bH,qL,hn];exact eZ _);rw[hd,xk]at ib;obtain⟨k9,Cc⟩:∃k9,k9=List.replicate n (List.replicate ra.ks.length (0:Int)):=⟨_,rfl⟩;have cK:k (U.set key (.l k9)):=by
   have:k (U.set key (.l ((cT.rep (.len ra.lv) (List.replicate ra.ks.length 0)).ae U))):=hk;simp only[cT.ae,IE.ae,<- hn,xe,<- Cc]at this;exact this
 have hW:qh st ph o.op=(ph.val ra.id).ownBlock:=by simp[ho,qh,hx]
 refine⟨.value (.tuple #[]),w',_,U.set key (.l k9),ph,?_,rfl,?_,cK⟩;simp only[execOp,ho,resolve,invoke,builtin,dz,eU,dc,List.map_toArray,jt,mJ,ex,iJ];have cd:(Builtin.clear_ #[t] o.type #[.slice ba n ca]).run P w = .ok (.tuple #[]) w':=by
   simp only[Builtin.clear_,List.getElem?_toArray,jo,dz,run_underlying hu,dc];cases JA:ba with
   | none=>
     have:=L0 JA;subst this;simp
   | some b=>
     cases mT:n with
     | zero=>
       have ady:vs=[]:=BV (by rw[qL,mT,Nat.zero_mul]);have:=dM b JA;rw[ady]at this;simp only[storeCells,eU,Result.ok.injEq,true_and]at this;subst this;simp
     | succ n'=>
       rw[mT]at Rb;have hze:(zeroValue e).run P w = .ok zv w:=by simp[zeroValue,typeInfo,hii,Vu]
       simp[hze,Rb,dM b JA]
 rw[cd];rfl;rw[hW];have tV:k9.length=n:=by rw[Cc];simp
 refine qG hs yh bA FP aQ (by rw[iJ,tV,Cc,<- kW];exact ib) (by rw[iJ];exact gn) rfl rfl
end
section
open Go.RowKit
variable {U:aA}{ph:Ph}{P:Program}
theorem Js{Γ:bK}{w0 w:World}{st:St}{a:Act}{o:Oper}{src Jt e:TypeId}{x:Operand}{key:Nat}{k:aA->Prop}{bs:List UInt8}
   (hs:Sat w0 U ph st a w) (ho:o.op = .convert src Jt x) (Vw:P.underlying src=some .string) (hd:P.underlying Jt=some (.slice e)) (he:P.underlying e=some (.int .u8)) (hx:bc st (.c true) x=some (.str bs)) (hlen:bs.length<=4096)
   (aQ:st.free key 1=true) (hk:aL Γ [.cu key (.lit (bs.map fun b=>[Sum.inl (IE.c (b.toNat:Int))]))] k U) :
   mH Γ P w0 U ph st ({st.bd key 1 with rows:=cQ ⟨key,e,[.i .u8],key,false,.c true⟩ st.rows}.put o.dst ⟨.c true,.v (.one (.kb key bs))⟩) o a w k:=by
 have ex:=aq hx bU hs.tmps;simp only[ag.ae]at ex;obtain⟨s,hsd⟩:∃s:ByteArray,s=⟨bs.toArray⟩:=⟨_,rfl⟩;rw[<- hsd]at ex;have hss:s.size=bs.length:=by rw[hsd];simp[ByteArray.size]
 have cd:=run_bytes_of_string (P:=P) w src Jt e s Vw hd he;have z8:=grownCap_ge w s.size 0 e;obtain⟨cap,Lw⟩:∃cap,cap=grownCap w s.size 0 e:=⟨_,rfl⟩;rw[<- Lw]at cd z8;obtain⟨xs,qe⟩:∃xs:List (List Int),xs=bs.map fun b=>[(b.toNat:Int)]:=⟨_,rfl⟩;have cK:k (U.set key (.l xs)):=by
   have:k (U.set key (.l ((cT.lit (bs.map fun b=>[Sum.inl (IE.c (b.toNat:Int))])).ae U))):=hk;have e:(cT.lit (bs.map fun b=>[Sum.inl (IE.c (b.toNat:Int))])).ae U=xs:=by
     rw[qe];simp only[cT.ae,List.map_map];apply sO;intro b _;rfl
   rw[e]at this;exact this
 have nV:xs.length=bs.length:=by rw[qe];simp
 have th:st.has key=false:=cy aQ (eZ _) (by omega);have ck:∀k,st.has k=true->k≠key:=fun k hk e=>by rw[e,th]at hk;cases hk
 obtain⟨sl,D2⟩:∃sl:Option Addr×Nat×Nat,sl=(some ⟨w.heap.size,0,none⟩,bs.length,cap):=⟨_,rfl⟩;have bq:a8 st.has U (U.set key (.l xs)) ph (ph.uc key sl):=⟨fun k hk=>by simp[aA.set,ck k hk],fun _ _=>rfl,fun k hk=>by simp[Ph.uc,ck k hk]⟩;have fi:(ph.uc key sl).val key = .slice (some ⟨w.heap.size,0,none⟩) bs.length cap:=by simp[Ph.val,Ph.uc,D2]
 have wq:(st.bd key 1).has key=true:=ia (eZ _) (by omega);have hW:qh st ph o.op=none:=by simp[ho,qh]
 obtain⟨W,hWd⟩:∃W,W=w.drew.alloc (.cells (bytesRow s cap) e ((bytesRow s cap).size,(bytesRow s cap).size+1)):=⟨_,rfl⟩;rw[<- hWd]at cd;have adw:w.grownBy W none:=by
   rw[hWd];exact⟨rfl,rfl,rfl,by simp,fun k hk _=>heap_alloc_old w.drew _ (show k<w.drew.heap.size from by simpa using hk)⟩
 refine⟨.value (.slice (some ⟨w.heap.size,0,none⟩) s.size cap),W,a.put o.dst (.slice (some ⟨w.heap.size,0,none⟩) s.size cap),U.set key (.l xs),ph.uc key sl,?_,rfl,?_,cK⟩;simp only[execOp,ho,ex,dz,cd,dc,eU];rw[hW,hss];refine Ca (nr:=⟨key,e,[.i .u8],key,false,.c true⟩) hs rfl rfl rfl aQ (fun _ h=>h) adw (fun _ h=>by cases h) bq rfl wq (fun _ _=>by simp) (fun _ _ _ _ _=>by simp) ⟨by simp,?_⟩ (fun k hk=>?_) ?_ ?_;simp only[iC,if_false,fi,aA.set,if_true,DV.list,nV];refine⟨_,cap,rfl,⟨by unfold maxLen;omega,by omega⟩,fun h=>by simp at h,fun j u hj=>⟨_,rfl,?_⟩⟩;have Fw:j<bs.length:=by
   have:=(cC.1 hj).1;rw[bH,nV]at this;simpa using this
 have hf:=lk [.i .u8] xs j 0 (by omega) (by simp);simp only[List.length_singleton,Nat.mul_one,gA]at hf;rw[hf]at hj;have Ju:xs.getD j []=[((bs[j]'Fw).toNat:Int)]:=by simp[qe,List.getD,Fw]
 simp only[jo,sG,af,Ju]at hj;subst hj;rw[iD];have hh:W.heap[w.heap.size]?=some (.cells (bytesRow s cap) e ((bytesRow s cap).size,(bytesRow s cap).size+1)):=by rw[hWd];exact heap_alloc_new w.drew _
 simp only[World.cell?,hh,fP];rw[hsd];simp[bytesRow,Array.getElem?_append,Fw,CK.val];simp only[Row.bM,Bool.false_or,fi,Value.ownBlock]at hk;split at hk;simp only[af]at hk;exact .inr (by omega);cases hk;simp only[aN.all,BE.all,SV.all,V1.all,ag.all,Bool.true_and];exact wq;simp[aN.ae,BE.ae,SV.ae,V1.ae,ag.ae,fi]
theorem Jv(sz:Nat):∀(n i:Nat) (ps:List (Nat×V1)) (ls:List ag) (cells:List Value),jz sz n i ps=some ls->cells.length=(i+n)*sz->
   Instr.fill (fun i=>some (i*sz,sz)) cells.toArray (ps.map fun p=>(p.1,p.2.ae U ph))=some (cells.take (i*sz)++ls.map (ag.ae U ph)).toArray/\ls.length=n*sz:=by
 intro n;induction n with
 | zero=>
   intro i ps ls cells h hl;cases ps with
   | nil=>
     simp only[jz,af]at h;subst h;refine⟨?_,by simp⟩;simp only[mJ,Instr.fill,xk];rw[oV (by rw[hl,gA];exact eZ _)]
   |cons p ps=>simp[jz]at h
 | succ n ih=>
   intro i ps ls cells h hl;cases ps with
   |nil=>simp[jz]at h
   | cons p ps=>
     obtain⟨j,v⟩:=p;simp only[jz]at h;split at h;rename_i Cf;obtain⟨rfl,qL⟩:=Cf;simp only[bl]at h;obtain⟨HD,RI,rfl⟩:=h;have xg:(v.leaves.map (ag.ae U ph)).length=sz:=by rw[kT,qL]
     have vu:(i+(n+1))*sz=i*sz+sz+n*sz:=by rw[j7,j7,Nat.one_mul];omega
     simp only[jt,Instr.fill,V1.eN];rw[if_neg (by simp[qL,hl,vu]<;>omega)];have o7:=rW (v.leaves.map (ag.ae U ph)) cells (i*sz) 0 (by rw[xg,hl,vu];omega);have Jl:((v.leaves.map (ag.ae U ph)).toArray.zipIdx.foldl (fun cs (x:Value×Nat)=>cs.setIfInBounds (i*sz+x.2) x.1) cells.toArray)=(cells.take (i*sz)++v.leaves.map (ag.ae U ph)++cells.drop (i*sz+sz)).toArray:=by
       apply jv;rw[vi];simp only[BY];rw[o7,xg,gA]
     obtain⟨e1,e2⟩:=ih (i+1) ps HD (cells.take (i*sz)++v.leaves.map (ag.ae U ph)++cells.drop (i*sz+sz)) RI (by
       simp only[dG,sI,List.length_drop,xg,hl,vu];rw[show i+1+n=i+(n+1)by omega,vu];omega)
     refine⟨?_,by simp[qL,e2,j7];omega⟩;refine(congrArg (fun c=>Instr.fill (fun i=>some (i*sz,sz)) c (ps.map fun p=>(p.1,p.2.ae U ph))) Jl).trans ?_;rw[e1];congr 2;rw[show(i+1)*sz=i*sz+sz by rw[j7,Nat.one_mul]];rw[DY (by simp only[dG,sI,xg,hl,vu];omega),oV (by simp only[dG,sI,xg,hl,vu];omega)];simp;cases h
theorem D6{w:World}{t e:TypeId}{n sz:Nat}{parts:Array (Nat×Operand)}{ps:List (Nat×V1)}{ls:List ag}{st:St}{a:Act}(hu:P.underlying t=some (.slice e))(ht:fc U ph st.tmps a.tmps){G:BE}(hG:G.ae U=true)(DF:gp st G parts.toList=some ps)(h0:0<sz)(hz:((P.info? e).bind (·.zero)).isSome=true)
   (jY:n*sz<=16777216) (hc:P.cellsOf e=sz) (xV:jz sz n 0 ps=some ls) :
   (Instr.buildSlice t n (parts.map fun(i,x)=>(i,a.eval x))).run P w = .ok (.slice (some ⟨w.heap.size,0,none⟩) n n) (w.alloc (.cells (ls.map (ag.ae U ph)).toArray e))/\ls.length=n*sz:=by
 have x7:=nB (a:=a) hG ht DF;obtain⟨i,hi,z,HI⟩:∃i,P.info? e=some i/\∃z,i.zero=some z:=by
   cases hi:P.info? e with
   |none=>simp[hi]at hz
   |some i=>simp[hi]at hz;exact⟨i,rfl,xT.1 hz⟩
 have hzr:(zeroValue e).run P w = .ok z w:=by simp[zeroValue,typeInfo,hi,HI]
 obtain⟨z0,Lg⟩:∃z0:Array Value,z0.size=(0+n)*sz/\(Instr.buildSlice t n (parts.map fun(i,x)=>(i,a.eval x))).run P w =
     (match Instr.fill (fun i=>some (i*sz,sz)) z0 (ps.map fun p=>(p.1,p.2.ae U ph))with
      |some cells=>.ok (.slice (some ⟨w.heap.size,0,none⟩) n n) (w.alloc (.cells cells e))
      |none=>.halt (.stuck "buildSlice: a part of the wrong size") w):=by
   by_cases hn:n*sz=0;refine⟨Array.map (fun x=>(#[]:Array Value)[x%(#[]:Array Value).size]!) (Array.range (n*sz)),by simp,?_⟩;simp only[Instr.buildSlice,dz,run_underlying hu,dc,bT (P:=P) (w:=w) (t:=e) (by omega),hc];rw[if_neg (by omega),if_pos hn];simp only[dz,eU,dc,Array.toList_map,x7];generalize Array.map _ (Array.range (n*sz))=zz;cases Instr.fill (fun i=>some (i*sz,sz)) zz (ps.map fun p=>(p.1,p.2.ae U ph))with
   |none=>rfl
   |some cells=>rfl
   refine⟨(Array.range (n*sz)).map (z.cells[· % z.cells.size]!),by simp,?_⟩;simp only[Instr.buildSlice,dz,run_underlying hu,dc,bT (P:=P) (w:=w) (t:=e) (by omega),hc];rw[if_neg (by omega),if_neg hn];simp only[dz,hzr,eU,dc,Array.toList_map,x7];generalize Array.map _ (Array.range (n*sz))=zz;cases Instr.fill (fun i=>some (i*sz,sz)) zz (ps.map fun p=>(p.1,p.2.ae U ph))with
   |none=>rfl
   |some cells=>rfl
 obtain⟨Vq,cd⟩:=Lg;obtain⟨hf,hl⟩:=Jv (U:=U) (ph:=ph) sz n 0 ps ls z0.toList xV (by simpa using Vq);simp only[Nat.zero_mul,List.take_zero,kG,Array.toArray_toList]at hf;rw[hf]at cd;exact⟨cd,hl⟩
theorem RK{Γ:bK}{w0 w:World}{st:St}{a:Act}{o:Oper}{t e:TypeId}{n sz key:Nat}{parts:Array (Nat×Operand)}{ps:List (Nat×V1)}{ls:List ag}{k:aA->Prop}
   (hs:Sat w0 U ph st a w) (ho:o.op = .buildSlice t n parts) (hu:P.underlying t=some (.slice e)) (DF:gp st (.c true) parts.toList=some ps) (h0:0<sz) (hz:((P.info? e).bind (·.zero)).isSome=true)
   (jY:n*sz<=16777216) (hc:P.cellsOf e=sz) (xV:jz sz n 0 ps=some ls) (aQ:st.free key 1=true) (hla:a7 st.has ls=true) (hk:k U) :
   mH Γ P w0 U ph st ({st.bd key 1 with aR:=kU ⟨key,e,ls⟩ st.aR}.put o.dst ⟨.c true,.v (.one (.bs key n sz))⟩) o a w k:=by
 obtain⟨cd,_⟩:=D6 (P:=P) (w:=w) (a:=a) hu hs.tmps bU DF h0 hz jY hc xV;have hW:qh st ph o.op=none:=by simp[ho,qh]
 have dM:=xX (a:=a) (e:=e) (dst:=o.dst) (s:=⟨.c true,.v (.one (.bs key n sz))⟩) (v:=.slice (some ⟨w.heap.size,0,none⟩) n n) hs aQ hla ?_ ?_;refine⟨.value (.slice (some ⟨w.heap.size,0,none⟩) n n),_,_,U,_,?_,rfl,by rw[hW];exact dM,hk⟩;simp only[execOp,ho,dz,cd,dc,eU];simp only[aN.all,BE.all,SV.all,V1.all,ag.all,Bool.true_and];exact ia (eZ _) (by omega);simp[aN.ae,BE.ae,SV.ae,V1.ae,ag.ae,Ph.nE]
end
section
open Go.RowKit
variable {U:aA}{ph:Ph}{P:Program}
theorem gg{b x:df}:∀ {l:List df},b∈tj x l↔b=x\/b∈l:=by
 intro l;induction l with
 |nil=>simp[tj]
 | cons y l ih=>
   simp only[tj];split;simp;simp only[bh,ih];constructor;rintro(h|h|h)<;>simp[h];rintro(h|h|h)<;>simp[h]
theorem ya{w0 w w':World}{st:St}{a:Act}{key:Nat}{e:TypeId}{aH:List NK}{xs:List (List Int)}{rows:List Row}{aV:List df}{dst:Option Tmp}{sl:Option Addr×Nat×Nat}{row:Option Nat}{N:Nat->Prop}
   (h:Sat w0 U ph st a w) (aQ:st.free key 1=true) (Jo:0<aH.length) (eC:∀r∈rows,r∈st.rows) (wD:∀n∈aV,n∈st.aV) (hg:w.grownBy w' row)
   (aY:∀k,row=some k->w0.heap.size<=k/\¬ ph.z k/\∀n∈aV,n.own=true->(ph.val n.id).ownBlock≠some k)
   (jT:∀b∈st.aR,row≠some (ph.r b.id)) (fS:∀r∈rows,r.g.ae U=true->∀k,r.bM U ph=some k->row≠some k)
   (hN:∀k,N k->k<w.heap.size/\(∀b∈st.aR,ph.r b.id≠k)/\(∀r∈rows,r.g.ae U=true->r.bM U ph≠some k)/\(∀n∈aV,n.own=true->(ph.val n.id).ownBlock≠some k)/\row≠some k)
   (bA:BW (fun k=>(ph.z k\/N k)/\w0.heap.size<=k) w' w0.heap.size e aH (.slice sl.1 sl.2.1 sl.2.2) xs)
   (ib:(Value.slice sl.1 sl.2.1 sl.2.2).ownBlock=row\/(Value.slice sl.1 sl.2.1 sl.2.2).ownBlock=some w.heap.size\/(Value.slice sl.1 sl.2.1 sl.2.2).ownBlock=none) :
   Step w0 U (U.set key (.l xs)) ph {ph.uc key sl with z:=fun k=>ph.z k\/N k} st ({st.bd key 1 with rows,aV:=tj ⟨key,e,aH,key,.c true,true⟩ aV}.put dst ⟨.c true,.v (.one (.s key))⟩)
     (a.put dst (.slice sl.1 sl.2.1 sl.2.2)) w w' row:=by
 obtain⟨aJ,LS⟩:∃aJ:Ph,aJ = {ph.uc key sl with z:=fun k=>ph.z k\/N k}:=⟨_,rfl⟩;rw[<- LS];have HI:∀k,aJ.z k↔(ph.z k\/N k):=fun k=>by rw[LS]
 have th:st.has key=false:=cy aQ (eZ _) (by omega);have ck:∀k,st.has k=true->k≠key:=fun k hk e=>by rw[e,th]at hk;cases hk
 have bq:a8 st.has U (U.set key (.l xs)) ph aJ:=⟨fun k hk=>by simp[aA.set,ck k hk],fun _ _=>by rw[LS];rfl,fun k hk=>by rw[LS];simp[Ph.uc,ck k hk]⟩;have fi:aJ.val key = .slice sl.1 sl.2.1 sl.2.2:=by rw[LS];simp[Ph.val,Ph.uc]
 have wq:(st.bd key 1).has key=true:=ia (eZ _) (by omega);have bF:∀k,st.has k=true->(st.bd key 1).has k=true:=fun k hk=>fH hk;have D3:=h.mem.congr bq h.names.aR h.names.rows;have kV:=fun(q:Row) (hq:q∈st.rows)=>by
   have:=h.names.rows q hq;simpa only[Row.all,ah]using this
 have dT:∀r∈st.rows,r.bM (U.set key (.l xs)) aJ=r.bM U ph:=fun r hr=>by
   unfold Row.bM;rw[<- bq.e _ (kV r hr).2.1];simp only[Ph.val,bq.v _ (kV r hr).1]
 have mQ:∀r∈st.rows,r.g.ae (U.set key (.l xs))=r.g.ae U:=fun r hr=>(BE.ak bq.e (kV r hr).2.2).symm;have qg:∀b∈st.aR,aJ.r b.id=ph.r b.id:=fun b hb=>by
   have:=h.names.aR b hb;simp only[gD.all,ah]at this;exact(bq.r _ this.1).symm
 have Zy:∀n∈st.aV,aJ.val n.id=ph.val n.id/\(U.set key (.l xs)) n.lv=U n.lv/\n.g.ae (U.set key (.l xs))=n.g.ae U:=fun n hn=>by
   have:=h.nest.nm n hn;simp only[df.all,ah]at this;exact⟨by simp only[Ph.val,bq.v _ this.1],(bq.e _ this.2.1).symm,(BE.ak bq.e this.2.2).symm⟩
 have D4:∀k,(Value.slice sl.1 sl.2.1 sl.2.2).ownBlock=some k->row=some k\/k=w.heap.size:=fun k hk=>by
   rcases ib with e|e|e;exact .inl (by rw[<- e,hk]);rw[hk]at e;simp only[af]at e;exact .inr e;rw[hk]at e;cases e
 have aal:∀k,aJ.z k->k<w.heap.size:=fun k hk=>by
   rcases(HI k).1 hk with hk|hk;exact h.nest.lt k hk;exact(hN k hk).1
 have aam:∀k,row=some k->¬ aJ.z k:=fun k hk Jg=>by
   rcases(HI k).1 Jg with e|e;exact(aY k hk).2.1 e;exact(hN k e).2.2.2.2 hk
 refine⟨⟨?_,?_,h.below.grown hg h.below.size (fun k hk=>(aY k hk).1),by rw[cg];exact h.defers,?_,?_⟩,bq,hg,fun k hk=>by rw[b7];exact bF k hk,fun b hb=>.inl ⟨b,by rw[bN]at hb;exact hb,rfl⟩⟩;refine lY (st:={st.bd key 1 with rows,aV:=tj ⟨key,e,aH,key,.c true,true⟩ aV}) ⟨h.tmps.1,fun t s ht=>?_⟩ ?_;rw[<- aN.ak bq (h.names.tmps t s ht)];exact h.tmps.2 t s ht;simp[aN.ae,BE.ae,SV.ae,V1.ae,ag.ae,fi];rw[bN,cJ];refine⟨fun b hb=>(D3.lP b hb).grown hg (fun e=>jT b hb (by rw[<- e,qg b hb])),D3.bb,fun r hr h1=>?_,fun b hb r hr h1=>D3.br b hb r (eC r hr) h1,fun r hr r' cq kF ho h1 h2=>D3.rr r (eC r hr) r' (eC r' cq) kF ho h1 h2⟩;have dg:=eC r hr;exact(D3.row r dg h1).grown hg (fun k hk e=>by
   rw[dT r dg]at hk;rw[mQ r dg]at h1;exact fS r hr h1 k hk e.symm)
 refine⟨?_,?_,?_⟩;refine fJ (st:={st.bd key 1 with rows,aV:=tj ⟨key,e,aH,key,.c true,true⟩ aV}) (fun t s ht=>aN.ax bF (h.names.tmps t s ht)) ?_;simp only[aN.all,BE.all,SV.all,V1.all,ag.all,Bool.true_and];exact wq;rw[bN,b7];exact fun b hb=>gD.ax bF (h.names.aR b hb);rw[cJ,b7];exact fun r hr=>Row.ax bF (h.names.rows r (eC r hr));refine cP.put (st:={st.bd key 1 with rows,aV:=tj ⟨key,e,aH,key,.c true,true⟩ aV}) ⟨fun k hk=>B9 (aal k hk) hg.size,fun b hb LJ=>?_,fun r hr ho h1 k hk Jg=>?_,fun n hn h1=>?_,fun n hn=>?_,fun n hn ho=>?_⟩;rw[qg b hb]at LJ;rcases(HI _).1 LJ with e|e;exact h.nest.bz b hb e;exact(hN _ e).2.1 b hb rfl;have dg:=eC r hr;rw[dT r dg]at hk;rw[mQ r dg]at h1;rcases(HI _).1 Jg with e|e;exact h.nest.rz r dg ho h1 k hk e;exact(hN _ e).2.2.1 r hr h1 hk;rcases gg.1 hn with rfl|hn;refine⟨Jo,?_⟩;unfold eH;rw[if_pos rfl];simp only[fi,aA.set,if_true,DV.list];refine bA.ln (fun _ _=>rfl) (fun k hk=>⟨(HI k).2 hk.1,hk.2⟩) (fun _ _=>rfl);have gY:=wD n hn;obtain⟨e1,e2,e3⟩:=Zy n gY;obtain⟨h0,z7⟩:=h.nest.rd n gY (by rw[<- e3];exact h1);refine⟨h0,?_⟩;unfold eH at *;rw[e1,e2];split;rename_i ho;rw[if_pos ho]at z7;exact z7.ln (fun k hk=>hg.block k (h.nest.lt k hk.1) (fun e=>(aY k e.symm).2.1 hk.1)) (fun k hk=>⟨(HI k).2 (.inl hk.1),hk.2⟩) (fun k hk=>hg.block k (h.nest.nA gY ho hk).2 (fun e=>(aY k e.symm).2.2 n hn ho hk));rename_i ho;rw[if_neg ho]at z7;exact z7.ln (fun k hk=>hg.block k (h.nest.lt k hk) (fun e=>(aY k e.symm).2.1 hk)) (fun k hk=>(HI k).2 (.inl hk));rcases gg.1 hn with rfl|hn;simp only[df.all,BE.all,Bool.and_true];rw[show({st.bd key 1 with rows,aV:=tj ⟨key,e,aH,key,.c true,true⟩ aV}:St).has key=(st.bd key 1).has key from rfl,wq];rfl;exact df.ax bF (h.nest.nm n (wD n hn));rcases gg.1 hn with rfl|hn;refine⟨rfl,fun k hk=>?_⟩;simp only[fi]at hk;have hnz:∀k',k=k'->¬ aJ.z k':=fun k' ek Jg=>by
   subst ek;rcases D4 k hk with e|e;exact aam k e Jg;have:=aal k Jg;omega
 refine⟨hnz k rfl,fun b hb he=>?_,fun r hr gn hf=>?_,fun n' mT oL kF=>?_⟩;rw[qg b hb]at he;rcases D4 k hk with e|e;exact jT b hb (by rw[e,he]);have:=(h.mem.lP b hb).lt;omega;have dg:=eC r hr;rw[dT r dg]at hf;rw[mQ r dg]at gn;rcases D4 k hk with e|e;exact fS r hr gn k hf e;have:=(h.mem.row r dg gn).rQ hf;omega;rcases gg.1 mT with rfl|mT;exact absurd rfl kF;have gY:=wD n' mT;rw[(Zy n' gY).1];intro hf;rcases D4 k hk with e|e;exact(aY k e).2.2 n' mT oL hf;have:=(h.nest.nA gY oL hf).2;omega;have gY:=wD n hn;obtain⟨h1,h2⟩:=h.nest.oz n gY ho;refine⟨h1,fun k hk=>?_⟩;rw[(Zy n gY).1]at hk;obtain⟨g1,g2,g3,g4⟩:=h2 k hk;refine⟨fun Jg=>?_,fun b hb he=>?_,fun r hr gn hf=>?_,fun n' mT oL kF=>?_⟩;rcases(HI _).1 Jg with e|e;exact g1 e;exact(hN _ e).2.2.2.1 n hn ho hk;rw[qg b hb]at he;exact g2 b hb he;have dg:=eC r hr;rw[dT r dg]at hf;rw[mQ r dg]at gn;exact g3 r dg gn hf;rcases gg.1 mT with rfl|mT;simp only[fi];intro hf;rcases D4 k hf with e|e;exact(aY k e).2.2 n hn ho hk;have:=(h.nest.nA gY ho hk).2;omega;rw[(Zy n' (wD n' mT)).1];exact g4 n' (wD n' mT) oL kF
def D5(z:Nat->Prop)(w:World)(aH:List NK)(cs:List Value)(xs:List (List Int)):Prop:=
 ∀i r,xs[i]?=some r->∀j nk,aH[j]?=some nk->∃u,cs[i*aH.length+j]?=some u/\pV z w nk (r.getD j 0) (fW aH r j) u
theorem D5.append{z:Nat->Prop}{w:World}{aH:List NK}{cs oa:List Value}{xs k9:List (List Int)}(hl:cs.length=xs.length*aH.length)(h:D5 z w aH cs xs)(h':D5 z w aH oa k9):D5 z w aH (cs++oa) (xs++k9):=by
 intro i r hi j nk hj;have Fw:=(cC.1 hj).1;by_cases cF:i<xs.length;rw[nT cF]at hi;obtain⟨u,hu,hc⟩:=h i r hi j nk hj;exact⟨u,by rw[nT (cC.1 hu).1];exact hu,hc⟩;rw[qv (by omega)]at hi;obtain⟨u,hu,hc⟩:=h' _ r hi j nk hj;have e:i*aH.length=xs.length*aH.length+(i-xs.length)*aH.length:=by rw[<- j7];congr 1;omega
 refine⟨u,?_,hc⟩;rw[qv (by rw[hl,e];omega),hl,e,<- hu];congr 1;omega
theorem D5.take{z:Nat->Prop}{w:World}{aH:List NK}{cs:List Value}{xs:List (List Int)}(h:D5 z w aH cs xs)(m:Nat):D5 z w aH (cs.take (m*aH.length)) (xs.take m):=by
 intro i r hi j nk hj;have Fw:=(cC.1 hj).1;rw[xW]at hi;split at hi;rename_i him;obtain⟨u,hu,hc⟩:=h i r hi j nk hj;refine⟨u,?_,hc⟩;have:(i+1)*aH.length<=m*aH.length:=vn _ him;rw[j7]at this;rw[xW,if_pos (by omega)];exact hu;cases hi
theorem D5.RH{z:Nat->Prop}{w:World}{aH:List NK}{cs:List Value}{xs:List (List Int)}(hl:cs.length=xs.length*aH.length)(h:D5 z w aH cs xs):∀u∈cs,u.oneCell'=true:=by
 intro u hu;obtain⟨q,hq⟩:=List.getElem?_of_mem hu;have Lb:=(cC.1 hq).1;rw[hl]at Lb;have h0:0<aH.length:=by
   rcases Nat.eq_zero_or_pos aH.length with e|e;rw[e]at Lb;omega;exact e
 have hd:q/aH.length<xs.length:=(Nat.div_lt_iff_lt_mul h0).2 Lb;have hm:=Nat.mod_lt q h0;obtain⟨v,hv,hc⟩:=h (q/aH.length) _ (fV hd) (q%aH.length) _ (fV hm);rw[Nat.div_add_mod']at hv;rw[hq,af]at hv;subst hv;cases Jo:aH[q%aH.length]with
 | c k=>
   rw[Jo]at hc;rw[show u=k.val _ from hc];exact CK.mO _ _
 | s e k=>
   rw[Jo]at hc;obtain⟨_,⟨b,c,rfl,_⟩,_⟩:=hc;rfl
theorem D5.ln{z z':Nat->Prop}{w w':World}{aH:List NK}{cs:List Value}{xs:List (List Int)}(h:D5 z w aH cs xs)(hz:∀k,z k->w'.heap[k]?=w.heap[k]?)(Hx:∀k,z k->z' k):D5 z' w' aH cs xs:=by
 intro i r hi j nk hj;obtain⟨u,hu,hc⟩:=h i r hi j nk hj;exact⟨u,hu,hc.ln hz Hx⟩
theorem xm(k:CK):∀xs:List (List Int),av [k] ((xs.map fun r=>r.getD 0 0).map fun x=>[x])=av [k] xs:=by
 intro xs;induction xs with
 |nil=>rfl
 |cons r rs ih=>simp only[jt,av,ih];rfl
theorem FR{w w':World}{B:Nat}{st:St}{z:Nat->Prop}(hm:je B U ph st.aR st.rows w)(hg:w.grownBy w' none):∀ {aH:List NK} {ls:List ag} {xs:List bI} {gone:List Nat},mb st aH ls=some (xs,gone)->(∀r∈st.rows,r.id∈gone->r.own=true->r.g = .c true->∀k,(ph.val r.id).ownBlock=some k->z k)->
   ls.length=aH.length/\xs.length=aH.length/\∀j nk,aH[j]?=some nk->∃l,ls[j]?=some l/\pV z w' nk ((xs.map (bI.head U)).getD j 0) (mL aH (xs.map (bI.head U)) (xs.flatMap (bI.tail U)) j) (l.ae U ph):=by
 intro aH;induction aH with
 | nil=>
   intro ls xs gone h _;cases ls with
   |nil=>simp only[mb,af,ao]at h;obtain⟨rfl,rfl⟩:=h;exact⟨rfl,rfl,fun j nk hj=>by simp at hj⟩
   |cons l ls=>simp[mb]at h
 | cons nk aH ih=>
   intro ls xs gone h hz;cases ls with
   |nil=>cases nk<;>simp[mb]at h
   | cons l ls=>
     cases nk with
     | c k=>
       simp only[mb]at h;split at h;rename_i x k9 gs hx qe;simp only[af,ao]at h;obtain⟨rfl,rfl⟩:=h;obtain⟨e1,e2,e3⟩:=ih qe hz;refine⟨by simp[e1],by simp[e2],fun j nk hj=>?_⟩;cases j with
       | zero=>
         simp only[jo,af]at hj;subst hj;refine⟨l,rfl,?_⟩;show l.ae U ph=k.val _;rw[o0 (U:=U) (ph:=ph) hx];rfl
       | succ j=>
         obtain⟨l',h1,h2⟩:=e3 j nk (by simpa using hj);refine⟨l',by simpa using h1,?_⟩;simp only[jt,List.getD_cons_succ,mL,List.tail_cons,List.flatMap_cons,bI.tail,kG];exact h2
       cases h
     | s e k=>
       have step:∀(c:bI) (k9:List bI) (gs:List Nat),mb st aH ls=some (k9,gs)->(∀r∈gs,r∈gone)->xs=c::k9->c.head U=((c.tail U).length:Int)->pV z w' (.s e k) (c.head U) (c.tail U) (l.ae U ph)->
           (l::ls).length=(NK.s e k::aH).length/\xs.length=(NK.s e k::aH).length/\∀j nk,(NK.s e k::aH)[j]?=some nk->∃l',(l::ls)[j]?=some l'/\pV z w' nk ((xs.map (bI.head U)).getD j 0) (mL (NK.s e k::aH) (xs.map (bI.head U)) (xs.flatMap (bI.tail U)) j) (l'.ae U ph):=by
         intro c k9 gs qe hgs hx hh hc;subst hx;obtain⟨e1,e2,e3⟩:=ih qe (fun r hr Jp=>hz r hr (hgs _ Jp));refine⟨by simp[e1],by simp[e2],fun j nk hj=>?_⟩;cases j with
         | zero=>
           simp only[jo,af]at hj;subst hj;refine⟨l,rfl,?_⟩;simp only[jt,List.getD_cons_zero,mL,List.headD_cons,List.flatMap_cons,hh,xe,List.take_left];rw[<- hh];exact hc
         | succ j=>
           obtain⟨l',h1,h2⟩:=e3 j nk (by simpa using hj);refine⟨l',by simpa using h1,?_⟩;simp only[jt,List.getD_cons_succ,mL,List.tail_cons,List.headD_cons,List.flatMap_cons,hh,xe,List.drop_left];exact h2
       unfold mb at h;split at h;rename_i heq;cases heq;rename_i heq _;cases heq;rename_i e' k' aan r HD LU LV;simp only[List.cons.injEq,NK.s.injEq]at LU LV;obtain⟨⟨rfl,rfl⟩,rfl⟩:=LU;obtain⟨rfl,rfl⟩:=LV;split at h;rename_i x k9 gs hx qe;split at h;rename_i hc;simp only[ah,aD]at hc;obtain⟨⟨⟨bA,mK⟩,he⟩,lR⟩:=hc;simp only[af,ao]at h;obtain⟨rfl,rfl⟩:=h;obtain⟨a6,rfl⟩:=aT hx;refine step (.s x.lv) k9 gs qe (fun r hr=>aZ _ hr) rfl (by simp[bI.head,bI.tail]) ?_;have z7:=(hm.row x a6 (by rw[mK];rfl)).reads;rw[lR]at z7;refine⟨by simp[bI.head,bI.tail],?_,fun _ b hb=>hz x a6 (aM ..) bA mK b hb⟩;simp only[bI.tail,kT];rw[xm];exact z7.grown hg (fun _ _ _=>by simp);cases h;cases h;rename_i e' k' aan HD LU LV;simp only[List.cons.injEq,NK.s.injEq]at LU LV;obtain⟨⟨rfl,rfl⟩,rfl⟩:=LU;obtain⟨rfl,rfl⟩:=LV;split at h;rename_i k9 gs qe;simp only[af,ao]at h;obtain⟨rfl,rfl⟩:=h;refine step .nil k9 gs qe (fun r hr=>hr) rfl (by simp[bI.head,bI.tail]) ⟨rfl,⟨none,0,rfl,⟨Nat.zero_le _,Nat.zero_le _⟩,fun _=>⟨rfl,rfl⟩,fun j u hj=>?_⟩,fun ck=>absurd rfl ck⟩;simp[bI.tail,av]at hj;cases h;cases h
theorem ug{w w':World}{B:Nat}{st:St}{z:Nat->Prop}(hm:je B U ph st.aR st.rows w)(hg:w.grownBy w' none){aH:List NK}:∀ {n i:Nat} {ps:List (Nat×V1)} {rows:List (List bI)} {gone:List Nat},kH st aH n i ps=some (rows,gone)->(∀r∈st.rows,r.id∈gone->r.own=true->r.g = .c true->∀k,(ph.val r.id).ownBlock=some k->z k)->
   ∃ls,jz aH.length n i ps=some ls/\rows.length=n/\D5 z w' aH (ls.map (ag.ae U ph)) (rows.map fun r=>r.map (bI.head U)++r.flatMap (bI.tail U)):=by
 intro n;induction n with
 | zero=>
   intro i ps rows gone h _;cases ps with
   | nil=>
     simp only[kH,af,ao]at h;obtain⟨rfl,rfl⟩:=h;exact⟨[],rfl,rfl,fun i r hi=>by simp at hi⟩
   |cons p ps=>simp[kH]at h
 | succ n ih=>
   intro i ps rows gone h hz;cases ps with
   |nil=>simp[kH]at h
   | cons p ps=>
     obtain⟨j,v⟩:=p;simp only[kH]at h;split at h;rename_i Cf;subst Cf;split at h;rename_i r g rs gs hr vr;simp only[af,ao]at h;obtain⟨rfl,rfl⟩:=h;obtain⟨e1,e2,e3⟩:=FR (z:=z) hm hg hr (fun r hr Jp=>hz r hr (yb _ Jp));obtain⟨ls,f1,f2,f3⟩:=ih vr (fun r hr Jp=>hz r hr (Ci _ Jp));refine⟨v.leaves++ls,by simp[jz,e1,f1],by simp[f2],?_⟩;have h1:D5 z w' aH (v.leaves.map (ag.ae U ph)) [r.map (bI.head U)++r.flatMap (bI.tail U)]:=by
       intro i' r' Ra j nk hj;cases i' with
       | zero=>
         simp only[jo,af]at Ra;subst Ra;obtain⟨l,h1,h2⟩:=e3 j nk hj;have Fw:=(cC.1 hj).1;refine⟨l.ae U ph,by simp[h1],?_⟩;have hl:(r.map (bI.head U)).length=aH.length:=by simp[e2]
         have a1:(r.map (bI.head U)++r.flatMap (bI.tail U)).getD j 0=(r.map (bI.head U)).getD j 0:=by
           simp only[eI];rw[nT (by omega)]
         have a2:fW aH (r.map (bI.head U)++r.flatMap (bI.tail U)) j=mL aH (r.map (bI.head U)) (r.flatMap (bI.tail U)) j:=by
           unfold fW;rw[List.take_left' hl,List.drop_left' hl]
         rw[a1,a2];exact h2
       |succ i'=>simp at Ra
     have:=h1.append (by simp[e1]) f3;simpa using this;cases h;cases h
theorem Jq{Γ:bK}{w0 w:World}{st aW:St}{a:Act}{o:Oper}{t:TypeId}{n:Nat}{parts:Array (Nat×Operand)}{e:TypeId}{ps:List (Nat×V1)}{aH:List NK}{rows:List (List bI)}{gone:List Nat}{key:Nat}{cN:List Ev}{k:aA->Prop}
   (hs:Sat w0 U ph st a w) (ho:o.op = .buildSlice t n parts) (hu:P.underlying t=some (.slice e)) (DF:gp st (.c true) parts.toList=some ps) (hz:((P.info? e).bind (·.zero)).isSome=true)
   (jY:n*aH.length<=16777216) (hc:P.cellsOf e=aH.length) (fS:kH st aH n 0 ps=some (rows,gone)) (h:Ap st key e aH [] (.yc rows) (st.rows.filter fun r=>!gone.contains r.id) st.aV o.dst=some (cN,aW)) (hk:aL Γ cN k U) :
   mH Γ P w0 U ph st aW o a w k:=by
 unfold Ap at h;split at h;rename_i ma;simp only[ah,aD]at ma;obtain⟨aQ,h0⟩:=ma;simp only[af,ao]at h;obtain⟨rfl,rfl⟩:=h;obtain⟨N,hN⟩:∃N:Nat->Prop,N=fun k=>∃r∈st.rows,r.id∈gone/\r.own=true/\r.g = .c true/\(ph.val r.id).ownBlock=some k:=⟨_,rfl⟩;have hNz:∀k,N k->w0.heap.size<=k/\k<w.heap.size:=fun k hk=>by
   rw[hN]at hk;obtain⟨r,hr,_,HK,LW,hb⟩:=hk;have aY:=(hs.mem.row r hr (by rw[LW];rfl)).2;rw[if_pos HK]at aY;exact aY.lt k hb
 obtain⟨ls,xV,hrl,_⟩:=ug (z:=fun _=>True) (U:=U) (ph:=ph) hs.mem (bW w) fS (fun _ _ _ _ _ _ _=>trivial);obtain⟨cd,Zw⟩:=D6 (P:=P) (w:=w) (a:=a) hu hs.tmps bU DF h0 hz jY hc xV;have gn:w.grownBy (w.alloc (.cells (ls.map (ag.ae U ph)).toArray e)) none:=World.grownBy_alloc w _ none;obtain⟨HD,RI,_,ix⟩:=ug (z:=fun k=>(ph.z k\/N k)/\w0.heap.size<=k) (U:=U) (ph:=ph) hs.mem gn fS (fun r hr Jp HK LW k hb=>by
   have:N k:=by rw[hN];exact⟨r,hr,Jp,HK,LW,hb⟩
   exact⟨.inr this,(hNz k this).1⟩)
 rw[xV,af]at RI;subst RI;obtain⟨xs,qe⟩:∃xs,xs=rows.map fun r=>r.map (bI.head U)++r.flatMap (bI.tail U):=⟨_,rfl⟩;rw[<- qe]at ix;have nV:xs.length=n:=by rw[qe,kT,hrl]
 have cK:k (U.set key (.l xs)):=by rw[qe];exact hk
 have gY:n<=maxLen:=by
   have:n<=n*aH.length:=Nat.le_mul_of_pos_right n h0;unfold maxLen;omega
 have bA:(w.alloc (.cells (ls.map (ag.ae U ph)).toArray e)).ownsRow w0.heap.size e aH.length (.slice (some ⟨w.heap.size,0,none⟩) n n) xs.length (ls.map (ag.ae U ph)):=by
   refine⟨by rw[kT,Zw,nV],.inr ⟨w.heap.size,n,(ls.map (ag.ae U ph)).toArray,by rw[nV],hs.below.size,heap_alloc_new w _,by omega,gY,by simp[Zw],?_⟩⟩;simp only[BY];exact oV (by rw[kT,Zw,nV];exact eZ _)
 have qH:∀q∈st.rows.filter (fun r=>!gone.contains r.id),q∈st.rows/\q.id∉gone:=fun q hq=>by
   have:=iK.1 hq;exact⟨this.1,by simpa using this.2⟩
 have dH:=ya (U:=U) (ph:=ph) (dst:=o.dst) (key:=key) (e:=e) (aH:=aH) (xs:=xs) (rows:=st.rows.filter fun r=>!gone.contains r.id) (aV:=st.aV) (sl:=(some ⟨w.heap.size,0,none⟩,n,n)) (row:=none) (N:=N) hs aQ h0 (fun q hq=>(qH q hq).1) (fun _ h=>h) gn (fun k hk=>by cases hk)
   (fun b _=>by simp) (fun r _ _ k _=>by simp) (fun k hk=>by
     have cF:=(hNz k hk).2;rw[hN]at hk;obtain⟨r,hr,Jp,HK,LW,hb⟩:=hk;have ky:r.g.ae U=true:=by rw[LW];rfl
     obtain⟨⟨_,_,a1⟩,a2,a3⟩:=lS (B:=0) hs hr HK ky hb;exact⟨cF,fun b mE e=>a2 b mE (by rw[e]),fun q hq LM hf=>a3 q (qH q hq).1 (fun e=>(qH q hq).2 (by rw[e];exact Jp)) LM k hf rfl,a1,by simp⟩) ⟨_,bA,ix⟩ (.inr (.inl rfl))
 have hW:qh st ph o.op=none:=by simp[ho,qh]
 refine⟨.value (.slice (some ⟨w.heap.size,0,none⟩) n n),_,_,_,_,?_,rfl,by rw[hW];exact dH,cK⟩;simp only[execOp,ho,dz,cd,dc,eU];cases h
theorem uh{Γ:bK}{w0 w:World}{st aW:St}{a:Act}{o:Oper}{t e:TypeId}{x y:Operand}{key room:Nat}{cN:List Ev}{k:aA->Prop}{v:Value}{xs:List (List Int)}{cs:List Value}{rb:df}{aV:List df}{ne:BE}{op:cT}
   (hs:Sat w0 U ph st a w) (ho:o.op = .call {callee:=.builtin .append,args:=#[x,y],argTypes:=#[t,t] }) (hu:P.underlying t=some (.slice e)) (hr:ki P e=some room)
   (hx:a.eval x=v) (hy:bc st (.c true) y=some (.s rb.id)) (Am:rb∈st.aV) (LN:rb.own=true) (n8:P.cellsOf e=rb.aH.length)
   (hv:w.ownsRow w0.heap.size e rb.aH.length v xs.length cs) (ix:D5 (fun k=>ph.z k/\w0.heap.size<=k) w rb.aH cs xs) (hW:qh st ph o.op=v.ownBlock) (wD:∀n∈aV,n∈st.aV)
   (Vt:∀k,v.ownBlock=some k->¬ ph.z k/\(∀n∈aV,n.own=true->(ph.val n.id).ownBlock≠some k)/\(∀b∈st.aR,ph.r b.id≠k)/\∀r∈st.rows,r.g.ae U=true->r.bM U ph≠some k)
   (nF:op.ae U=xs++(U rb.lv).list) (ck:ne.ae U=true->xs.length+(U rb.lv).list.length<=room)
   (h:Ap st key e rb.aH [.aG ne] op st.rows aV o.dst=some (cN,aW)) (hk:aL Γ cN k U) :
   mH Γ P w0 U ph st aW o a w k:=by
 unfold Ap at h;split at h;rename_i ma;simp only[ah,aD]at ma;obtain⟨aQ,h0⟩:=ma;simp only[af,ao]at h;obtain⟨rfl,rfl⟩:=h;obtain⟨hn,hk⟩:=iy (es:=[.cu key op]) hk;have cK:k (U.set key (.l (xs++(U rb.lv).list))):=by rw[<- nF];exact hk
 obtain⟨Cg,_,csb,T0,RJ⟩:=hs.nest.own Am LN;have ey:=aq hy bU hs.tmps;simp only[ag.ae]at ey;have RJ:D5 (fun k=>ph.z k/\w0.heap.size<=k) w rb.aH csb (U rb.lv).list:=RJ;have hlb:=T0.1;obtain⟨sl,w',e1,e2,e3,e5⟩:=qN (ty:=o.type) hu hr n8 hv (ny T0) hlb (RJ.RH hlb) (ck hn) hs.below.size;rw[<- dG]at e2;have hzw:∀k,(ph.z k/\w0.heap.size<=k)->w'.heap[k]?=w.heap[k]? :=fun k hk=>e3.block k (hs.nest.lt k hk.1) (fun e=>(Vt k e.symm).1 hk.1);have Zz:=((ix.append hv.1 RJ).ln (z':=fun k=>(ph.z k\/False)/\w0.heap.size<=k) hzw (fun k hk=>⟨.inl hk.1,hk.2⟩));have dH:=ya (U:=U) (ph:=ph) (dst:=o.dst) (key:=key) (e:=e) (aH:=rb.aH) (rows:=st.rows) (aV:=aV) (sl:=sl) (row:=v.ownBlock) (N:=fun _=>False) hs aQ h0 (fun _ h=>h) wD e3 (fun k hk=>⟨(hv.lt k hk).1,(Vt k hk).1,(Vt k hk).2.1⟩)
   (fun b hb e=>(Vt _ e).2.2.1 b hb rfl) (fun r hr hr1 k hk e=>(Vt _ e).2.2.2 r hr hr1 hk) (fun k hk=>hk.elim) ⟨_,e2,Zz⟩ (by
     rcases e5 with e5|e5;exact .inl e5;exact .inr (.inl e5))
 refine⟨.value (.slice sl.1 sl.2.1 sl.2.2),w',_,_,_,?_,rfl,by rw[hW];exact dH,cK⟩;simp only[execOp,ho,resolve,invoke,builtin,dz,eU,dc,List.map_toArray,jt,mJ,hx,ey,e1];cases h
theorem Jr{w:World}{B:Nat}{e:TypeId}{sz:Nat}{base:Option Addr}{n cap m:Nat}{cs:List Value}(h:w.ownsRow B e sz (.slice base n cap) n cs)(hm:m<=n) :
   w.ownsRow B e sz (.slice base m cap) m (cs.take (m*sz)):=by
 have hle:m*sz<=n*sz:=vn _ hm;refine⟨by rw[sI,h.1];omega,?_⟩;rcases h.2 with⟨e1,e2⟩|⟨g,nX,cur,e1,hg,hh,tc,RE,ix,qK⟩;simp only[Value.slice.injEq]at e1;obtain⟨rfl,h0,rfl⟩:=e1;have:m=0:=by omega
 subst this;exact .inl ⟨rfl,rfl⟩;simp only[Value.slice.injEq,true_and]at e1;obtain⟨rfl,rfl⟩:=e1;refine .inr ⟨g,cap,cur,rfl,hg,hh,by omega,RE,ix,?_⟩;rw[<- qK,List.take_take];congr 1;omega
theorem FT{Γ:bK}{w0 w:World}{st aW:St}{a:Act}{o:Oper}{t e:TypeId}{x h':Operand}{key:Nat}{cN:List Ev}{k:aA->Prop}{ra:df}{kd:IntKind}{n:IE}
   (hs:Sat w0 U ph st a w) (ho:o.op = .slice t x none (some h') none) (hu:P.underlying t=some (.slice e)) (hx:bc st (.c true) x=some (.s ra.id)) (hh:bc st (.c true) h'=some (.i kd n))
   (a6:ra∈st.aV) (bA:ra.own=true) (he:ra.e=e) (n8:P.cellsOf e=ra.aH.length)
   (h:Ap st key e ra.aH [.aG (BE.le (.c 0) n).mk,.aG (BE.le n (.len ra.lv)).mk] (.take ra.lv n) st.rows (st.aV.filter fun r=>decide (r.id≠ra.id)) o.dst=some (cN,aW)) (hk:aL Γ cN k U) :
   mH Γ P w0 U ph st aW o a w k:=by
 unfold Ap at h;split at h;rename_i ma;simp only[ah,aD]at ma;obtain⟨aQ,Jo⟩:=ma;simp only[af,ao]at h;obtain⟨rfl,rfl⟩:=h;obtain⟨h0,hk⟩:=iy (es:=[.aG (BE.le n (.len ra.lv)).mk,.cu key (.take ra.lv n)]) hk;obtain⟨h1,hk⟩:=iy (es:=[.cu key (.take ra.lv n)]) hk;have h0:=bP h0;have h1:=bP h1;simp only[IE.ae]at h0 h1;have cK:k (U.set key (.l ((U ra.lv).list.take (n.ae U).toNat))):=hk;obtain⟨mK,_,cs,cD,ix⟩:=hs.nest.own a6 bA;have ix:D5 (fun k=>ph.z k/\w0.heap.size<=k) w ra.aH cs (U ra.lv).list:=ix;rw[he]at cD;have ex:=aq hx bU hs.tmps;have eh:=aq hh bU hs.tmps;simp only[ag.ae]at ex eh;obtain⟨base,cap,hv,tc⟩:∃base cap,ph.val ra.id = .slice base (U ra.lv).list.length cap/\(U ra.lv).list.length<=cap:=by
   rcases cD.2 with⟨e1,e2⟩|⟨g,nX,cur,e1,_,_,tc,_⟩;exact⟨none,0,by rw[e1,e2],by omega⟩;exact⟨_,nX,e1,tc⟩
 rw[hv]at cD;have hm:(n.ae U).toNat<=(U ra.lv).list.length:=by omega
 have htk:=Jr cD hm;have hl:((U ra.lv).list.take (n.ae U).toNat).length=(n.ae U).toNat:=by rw[sI];omega
 have LN:∀m m':Nat,(Value.slice base m cap).ownBlock=(Value.slice base m' cap).ownBlock:=fun _ _=>by cases base<;>rfl
 obtain⟨_,LX⟩:=hs.nest.oz ra a6 bA;have qH:∀q∈st.aV.filter (fun r=>decide (r.id≠ra.id)),q∈st.aV/\q.id≠ra.id:=fun q hq=>by
   have:=iK.1 hq;exact⟨this.1,by simpa using this.2⟩
 have Zz:=(ix.take (n.ae U).toNat).ln (z':=fun k=>(ph.z k\/False)/\w0.heap.size<=k) (fun _ _=>rfl) (fun k hk=>⟨.inl hk.1,hk.2⟩);have dH:=ya (U:=U) (ph:=ph) (dst:=o.dst) (key:=key) (e:=e) (aH:=ra.aH) (rows:=st.rows) (aV:=st.aV.filter fun r=>decide (r.id≠ra.id)) (sl:=(base,(n.ae U).toNat,cap)) (row:=(Value.slice base (U ra.lv).list.length cap).ownBlock) (N:=fun _=>False) hs aQ Jo (fun _ h=>h) (fun q hq=>(qH q hq).1) (hZ (bW w))
   (fun k hk=>⟨(cD.lt k hk).1,(LX k (by rw[hv,hk])).1,fun q hq oL=>(LX k (by rw[hv,hk])).2.2.2 q (qH q hq).1 oL (qH q hq).2⟩)
   (fun b hb e=>(LX _ (by rw[hv,e])).2.1 b hb rfl) (fun r hr hr1 k hk e=>(LX _ (by rw[hv,e])).2.2.1 r hr hr1 hk) (fun k hk=>hk.elim) ⟨_,by rw[hl];exact htk,Zz⟩ (.inl (LN _ _))
 refine⟨.value (.slice base (n.ae U).toNat cap),w,_,_,_,?_,rfl,⟨dH.sat,dH.agree,?_,dH.mono,dH.fresh⟩,cK⟩;simp only[execOp,ho,Option.map_none,sG,ex,eh,hv,dz,run_sliceAt_slice (P:=P) (w:=w) t _ _ _ _ (by simp[Program.elem,hu]),qO hu (by rw[n8];exact Jo) h0 h1 tc,dc,eU];rw[ho];exact bW w;cases h
end
section
open Go.RowKit
variable {U:aA}{ph:Ph}{P:Program}
theorem yj{α:Type}{a:Array α}{x:α}(h:a.toList=[x]):a = #[x]:=jv (by simpa using h)
theorem JB{Γ:bK}{w0 w:World}{st aW:St}{a:Act}{o:Oper}{key:Nat}{cN:List Ev}{k:aA->Prop}(hs:Sat w0 U ph st a w)(h:L3 P st key o.dst o.op=some (cN,aW))(hk:aL Γ cN k U) :
   mH Γ P w0 U ph st aW o a w k:=by
 obtain⟨op,ho⟩:∃op,op=o.op:=⟨_,rfl⟩;rw[<- ho]at h;unfold L3 at h;split at h;rename_i e;split at h;rename_i z hz;refine x8 hs (by rw[<- ho];rfl) ?_ h hk;simp only[execOp,<- ho,Instr.alloc,dz,vj (ph:=ph) (U:=U) hz,newVar,Go.newRow,run_newObj_alloc,eU,dc,V1.eN];cases h;rename_i e x;split at h;rename_i v hv;refine x8 hs (by rw[<- ho];rfl) ?_ h hk;have ex:=cf hv bU hs.tmps;simp only[execOp,<- ho,ex,Instr.box,dz,newVar,Go.newRow,run_newObj_alloc,eU,dc,V1.eN];cases h;rename_i t x y;split at h;rename_i l v hl hv;split at h;rename_i hc;exact FO hs ho.symm hl hv hc.1 hc.2 h hk;cases h;cases h;rename_i t n c;split at h;rename_i e kd x Zx y hu hn hc;split at h;rename_i room ks z hr hfl hz;split at h;rename_i ma;simp only[ah,aD]at ma;obtain⟨⟨h0,n8⟩,Q'⟩:=ma;split at h;rename_i hxy;subst hxy;exact Jn hs ho.symm hu hn hc hr hz h0 n8 Q' h hk;exact x9 hs ho.symm hu hn hc hr hz h0 n8 Q' h hk;cases h;cases h;cases h;rename_i t x h';split at h;rename_i e a1 kd n hu hx hh;split at h;rename_i ra yh;obtain⟨a6,rfl⟩:=aT yh;split at h;rename_i hc;simp only[ah,aD]at hc;obtain⟨⟨⟨bA,hg⟩,he⟩,n8⟩:=hc;exact Jm hs ho.symm hu hx hh a6 bA hg he n8 h hk;cases h;split at h;rename_i ra yh;obtain⟨a6,rfl⟩:=cH yh;split at h;rename_i hc;simp only[ah,aD]at hc;obtain⟨⟨bA,he⟩,n8⟩:=hc;exact FT hs ho.symm hu hx hh a6 bA he n8 h hk;cases h;cases h;cases h;rename_i args argTypes;split at h;rename_i x y t t' ew ym;have ew:=o9 ew;have ym:=o9 ym;split at h;rename_i htt;subst htt;subst ew ym;split at h;rename_i e hu;split at h;rename_i room b hr hx hy;split at h;rename_i rb Am;obtain⟨a6,rfl⟩:=aT Am;split at h;rename_i hc;simp only[ah,aD]at hc;obtain⟨⟨hg,he⟩,n8⟩:=hc;have ex:=aq hx bU hs.tmps;refine wy (v:=.slice none 0 0) (xs:=[]) hs ho.symm hu hr ex hy a6 hg n8 (World.ownsRow_nil _ _ _ _) ?_ (fun _ h=>h) (fun k hk=>by simp[Value.ownBlock]at hk) (fun _ _=>by simp[Value.ownBlock]) (fun _ _ _ _ _=>by simp[Value.ownBlock]) ?_ ?_ h hk;rw[<- ho];simp[qh,hx,Value.ownBlock];simp[cT.ae];intro hn;have:=bP hn;simp only[IE.ae]at this;simp;omega;cases h;split at h;rename_i rb Am;obtain⟨a6,rfl⟩:=cH Am;split at h;rename_i hc;simp only[ah,aD]at hc;obtain⟨⟨LN,he⟩,n8⟩:=hc;have ex:=aq hx bU hs.tmps;refine uh (v:=.slice none 0 0) (xs:=[]) (cs:=[]) hs ho.symm hu hr ex hy a6 LN n8 (World.ownsRow_nil _ _ _ _) (fun i r hi=>by simp at hi) ?_ (fun _ h=>h) (fun k hk=>by simp[Value.ownBlock]at hk) ?_ ?_ h hk;rw[<- ho];simp[qh,hx,Value.ownBlock];simp[cT.ae];intro hn;have:=bP hn;simp only[IE.ae]at this;simp;omega;cases h;cases h;rename_i room a1 b hr hx hy;split at h;rename_i ra rb yh Am;obtain⟨qQ,rfl⟩:=aT yh;obtain⟨a6,rfl⟩:=aT Am;split at h;rename_i hc;simp only[ah,aD]at hc;obtain⟨⟨⟨⟨⟨Jw,Cg⟩,hea⟩,heb⟩,lR⟩,n8⟩:=hc;exact yd hs ho.symm hu hr hx hy qQ a6 Jw Cg lR n8 h hk;cases h;cases h;rename_i room a1 b hr hx hy;split at h;rename_i ra rb yh Am;obtain⟨qQ,rfl⟩:=aT yh;obtain⟨a6,rfl⟩:=aT Am;split at h;rename_i hc;simp only[ah,aD]at hc;obtain⟨⟨⟨⟨⟨⟨⟨bA,Jw⟩,Cg⟩,hea⟩,heb⟩,lR⟩,hab⟩,n8⟩:=hc;have ex:=aq hx bU hs.tmps;simp only[ag.ae]at ex;have FP:ra.g.ae U=true:=by rw[Jw];rfl
 have aY:=hs.mem.row ra qQ FP;have cD:=aY.2;rw[if_pos bA,hea]at cD;have dT:ra.bM U ph=(ph.val ra.id).ownBlock:=by simp[Row.bM,bA]
 rw[lR]at h cD n8;refine wy (v:=ph.val ra.id) (xs:=(U ra.lv).list) hs ho.symm hu hr ex hy a6 Cg n8 cD ?_ (fun r hr=>(iK.1 hr).1) (fun k hk=>(lS (B:=0) hs qQ bA FP hk).1.2) (fun b hb e=>hs.mem.br b hb ra qQ FP (by rw[dT,e])) (fun r hr h1 k hk e=>?_) ?_ ?_ h hk;rw[<- ho];simp[qh,hx];have hm:=iK.1 hr;exact hs.mem.rr ra qQ r hm.1 (fun e=>by simp[e]at hm) bA FP h1 k (by rw[dT,e]) hk;rfl;intro hn;have:=bP hn;rw[IE.bY]at this;simp only[IE.ae]at this;omega;cases h;split at h;rename_i ra rb yh Am;obtain⟨qQ,rfl⟩:=cH yh;obtain⟨a6,rfl⟩:=cH Am;split at h;rename_i hc;simp only[ah,aD]at hc;obtain⟨⟨⟨⟨⟨⟨hoa,LN⟩,hea⟩,heb⟩,lR⟩,hab⟩,n8⟩:=hc;have ex:=aq hx bU hs.tmps;simp only[ag.ae]at ex;obtain⟨_,_,cs,cD,ix⟩:=hs.nest.own qQ hoa;obtain⟨_,LX⟩:=hs.nest.oz ra qQ hoa;rw[hea,lR]at cD;rw[lR]at ix h n8;refine uh (v:=ph.val ra.id) (xs:=(U ra.lv).list) (cs:=cs) hs ho.symm hu hr ex hy a6 LN n8 cD ix ?_ (fun r hr=>(iK.1 hr).1) (fun k hk=>⟨(LX k hk).1,fun n hn oc=>(LX k hk).2.2.2 n (iK.1 hn).1 oc (by simpa using(iK.1 hn).2),(LX k hk).2.1,(LX k hk).2.2.1⟩) ?_ ?_ h hk;rw[<- ho];simp[qh,hx];rfl;intro hn;have:=bP hn;rw[IE.bY]at this;simp only[IE.ae]at this;omega;cases h;cases h;cases h;cases h;cases h;cases h;cases h;rename_i args argTypes;split at h;rename_i x y t t' ew ym;have ew:=o9 ew;have ym:=o9 ym;split at h;rename_i htt;subst htt;subst ew ym;split at h;rename_i e a1 b1 hu hx hy;split at h;rename_i ra rb yh Am;obtain⟨qQ,rfl⟩:=aT yh;obtain⟨a6,rfl⟩:=aT Am;split at h;rename_i hc;simp only[ah,aD]at hc;obtain⟨⟨⟨⟨⟨⟨⟨bA,Jw⟩,Cg⟩,lR⟩,hab⟩,n8⟩,hi⟩,aQ⟩:=hc;simp only[af,ao]at h;obtain⟨rfl,rfl⟩:=h;exact Jy hs ho.symm hu hx hy qQ a6 bA Jw Cg lR n8 hi aQ hk;cases h;cases h;cases h;cases h;cases h;rename_i args argTypes;split at h;rename_i x t ew ym;have ew:=yj ew;have ym:=yj ym;subst ew ym;split at h;rename_i e a1 hu hx;split at h;rename_i ra z yh hz;obtain⟨a6,rfl⟩:=aT yh;split at h;rename_i hc;simp only[ah,aD]at hc;obtain⟨⟨⟨⟨⟨bA,Jw⟩,n8⟩,hi⟩,Q'⟩,aQ⟩:=hc;simp only[af,ao]at h;obtain⟨rfl,rfl⟩:=h;exact FU hs ho.symm hu hx a6 bA Jw n8 hz Q' aQ hk;cases h;cases h;cases h;cases h;rename_i src Jt x;split at h;rename_i e bs Vw hd hx;split at h;rename_i he;split at h;rename_i hc;simp only[ah,aD]at hc;obtain⟨⟨⟨hi,n8⟩,hlen⟩,aQ⟩:=hc;simp only[af,ao]at h;obtain⟨rfl,rfl⟩:=h;exact Js hs ho.symm Vw hd he hx hlen aQ hk;cases h;cases h;cases h;cases h
end
section
open Go.RowKit
variable {U ai:aA}{ph aJ:Ph}{P:Program}
theorem aA.bn:∀ {ds:List DV} {U:aA} {k j:Nat},j<k->U.ay k ds j=U j:=by
 intro ds;induction ds with
 |nil=>intro U k j _;rfl
 | cons d ds ih=>
   intro U k j h;rw[aA.ay,ih (by omega),aA.set,if_neg (by omega)]
theorem aA.dr:∀ {ds:List DV} {U:aA} {k i:Nat} {d:DV},ds[i]?=some d->U.ay k ds (k+i)=d:=by
 intro ds;induction ds with
 |nil=>intro U k i d h;simp at h
 | cons x ds ih=>
   intro U k i d h;cases i with
   | zero=>
     simp only[jo,af]at h;subst h;rw[aA.ay,gA,aA.bn (by omega)];simp[aA.set]
   | succ i=>
     rw[xO]at h;have:=ih (U:=U.set k x) (k:=k+1) h;rw[aA.ay,show k+(i+1)=k+1+i by omega];exact this
theorem aA.iS:∀ {ds:List DV} {U:aA} {k j:Nat},k+ds.length<=j->U.ay k ds j=U j:=by
 intro ds;induction ds with
 |nil=>intro U k j _;rfl
 | cons d ds ih=>
   intro U k j h;simp only[tY]at h;rw[aA.ay,ih (by omega),aA.set,if_neg (by omega)]
abbrev fK:=TypeId->List CK ⊕ List NK->Value->List (List Int)->Prop
def jE(R:fK):CT->Value->DV->Prop
 |.c (.i k),v,.i n=>v = .int k n
 |.c .b,v,.b b=>v = .bool b
 |.c .f,v,.i n=>v = .float .f64 n.toNat
 |.s e ks,v,.l xs=>R e (.inl ks) v xs
 |.n e aH,v,.l xs=>R e (.inr aH) v xs
 |_,_,_=>False
def fitAll(R:fK):List CT->List Value->List DV->Prop
 | [],[],[]=>True
 |c::cs,v::vs,d::ds=>jE R c v d/\fitAll R cs vs ds
 |_,_,_=>False
def p6:Value->Value
 |.slice base _ _=>.pointer base
 |_=>undef
def bQ:List VT->List Value->List Value
 | [],_=>[]
 |.one _::ts,cs=>cs.headD undef::bQ ts cs.tail
 |.agg ks::ts,cs=>.agg (cs.take ks.length).toArray::bQ ts (cs.drop ks.length)
 |.ptr _ _::ts,cs=>p6 (cs.headD undef)::bQ ts cs.tail
 |.fn g ks::ts,cs=>.func (.func g) #[] ((cs.take ks.length).map p6).toArray::bQ ts (cs.drop ks.length)
def kX(w:World):fK:=fun _ ks v xs=>match ks with
 |.inl ks=>0<ks.length/\Reads w v xs.length (av ks xs)
 |.inr aH=>0<aH.length/\qw (fun k=>k<w.heap.size) w aH v xs
def j4(w:World)(B:Nat):fK:=fun e ks v xs=>match ks with
 |.inl ks=>0<ks.length/\w.ownsRow B e ks.length v xs.length (av ks xs)
 |.inr aH=>0<aH.length/\∃zi:Nat->Prop,(∀k,zi k->B<=k/\k<w.heap.size)/\(∀k,v.ownBlock=some k->¬ zi k)/\BW zi w B e aH v xs
def fM(bL:List Value):Prop:=∀(i j:Nat) (u v:Value),i≠j->bL[i]?=some u->bL[j]?=some v->∀k,u.ownBlock=some k->v.ownBlock≠some k
def packed:List Value->Value
 | [v]=>v
 |vs=>.tuple vs.toArray
def yB(w:World)(args:List VT)(vs:List Value)(ds:List DV):Prop:=∃bL,vs=bQ args bL/\fitAll (kX w) (bt args) bL ds
def yC(P:Program)(f:FuncId)(c:cL):Prop:=
 (∀w args,(callFunc f args).run P w = .ok (.enter f args) w)/\
 ∀w vs ds,yB w c.sig.args vs ds->c.pre ds->Calls P f vs.toArray w (fun e w'=>∃bL fE,e = .returned (packed (bQ c.sig.res bL))/\Below w.heap.size w w'/\
   fitAll (j4 w' w.heap.size) (bt c.sig.res) bL fE/\fM bL/\c.rel ds fE)
theorem As{R:fK}:∀ {cs oa:List CT} {vs Lj:List Value} {ds xr:List DV},fitAll R cs vs ds->fitAll R oa Lj xr->fitAll R (cs++oa) (vs++Lj) (ds++xr):=by
 intro cs;induction cs with
 |nil=>intro oa vs Lj ds xr h h';cases vs<;>cases ds<;>simp_all[fitAll]
 | cons c cs ih=>
   intro oa vs Lj ds xr h h';cases vs with
   |nil=>simp[fitAll]at h
   | cons v vs=>cases ds with
     |nil=>simp[fitAll]at h
     |cons d ds=>exact⟨h.1,ih h.2 h'⟩
theorem ml{R:fK}:∀ {cs:List CT} {vs:List Value} {ds:List DV},fitAll R cs vs ds->vs.length=cs.length/\ds.length=cs.length:=by
 intro cs;induction cs with
 |nil=>intro vs ds h;cases vs<;>cases ds<;>simp_all[fitAll]
 | cons c cs ih=>
   intro vs ds h;cases vs with
   |nil=>simp[fitAll]at h
   | cons v vs=>cases ds with
     |nil=>simp[fitAll]at h
     |cons d ds=>simp[ih h.2]
theorem iZ{R:fK}:∀ {cs:List CT} {vs:List Value} {ds:List DV} {i:Nat} {c:CT},fitAll R cs vs ds->cs[i]?=some c->∃v d,vs[i]?=some v/\ds[i]?=some d/\jE R c v d:=by
 intro cs;induction cs with
 |nil=>intro vs ds i c _ h;simp at h
 | cons c cs ih=>
   intro vs ds i c' h hi;cases vs with
   |nil=>simp[fitAll]at h
   | cons v vs=>cases ds with
     |nil=>simp[fitAll]at h
     | cons d ds=>
       cases i with
       |zero=>simp at hi;subst hi;exact⟨v,d,rfl,rfl,h.1⟩
       |succ i=>simpa using ih h.2 (by simpa using hi)
theorem ie{R:fK}:∀ {cs:List CT} {vs:List Value} {ds:List DV},fitAll R cs vs ds->kinds cs ds=true:=by
 intro cs;induction cs with
 |nil=>intro vs ds h;cases vs<;>cases ds<;>simp_all[fitAll,kinds]
 | cons c cs ih=>
   intro vs ds h;cases vs with
   |nil=>simp[fitAll]at h
   | cons v vs=>cases ds with
     |nil=>simp[fitAll]at h
     | cons d ds=>
       simp only[kinds,ih h.2,Bool.and_true];have:=h.1;cases c with
       |c k=>cases k<;>cases d<;>simp_all[jE,DV.kind]
       |s e ks=>cases d<;>simp_all[jE,DV.kind]
       |n e aH=>cases d<;>simp_all[jE,DV.kind]
theorem mo(G:BE):∀(cs oa:List CT) (id:Nat),aF G id (cs++oa)=((aF G id cs).1++(aF G (id+cs.length) oa).1,(aF G id cs).2++(aF G (id+cs.length) oa).2):=by
 intro cs;induction cs with
 |nil=>intro oa id;simp[aF]
 | cons c cs ih=>
   intro oa id;simp only[nU,aF,ih,tY,aaq];rw[show id+1+cs.length=id+(cs.length+1)by omega]
theorem xt(G:BE):∀(cs:List CT) (id:Nat),(aF G id cs).1.length=cs.length:=by
 intro cs;induction cs with
 |nil=>intro id;rfl
 |cons c cs ih=>intro id;simp[aF,ih]
theorem yD(G:BE):∀(cs:List (TypeId×IntKind)) (id:Nat),(gu G id cs).2=(aF G id (cs.map fun c=>CT.s c.1 [.i c.2])).2:=by
 intro cs;induction cs with
 |nil=>intro id;rfl
 |cons c cs ih=>intro id;simp[gu,aF,cn,ih]
theorem At(G:BE):∀(cs:List (TypeId×IntKind)) (id:Nat),(gu G id cs).1.map (kR ph)=((aF G id (cs.map fun c=>CT.s c.1 [.i c.2])).1.map (ag.ae U ph)).map p6:=by
 intro cs;induction cs with
 |nil=>intro id;rfl
 |cons c cs ih=>intro id;simp[gu,aF,cn,ih (id+1),kR,ag.ae,Ph.val,p6]
theorem Au{q:Nat->Bool}(G:BE):∀(cs:List (TypeId×IntKind)) (id:Nat),(∀i,i<cs.length->q (id+i)=true)->((gu G id cs).1.all fun c=>q c.2)=true:=by
 intro cs;induction cs with
 |nil=>intro id _;rfl
 | cons c cs ih=>
   intro id h;have h0:q id=true:=by have:=h 0 (by simp);simpa using this
   simp only[gu,List.all_cons,h0,Bool.true_and];exact ih (id+1) fun i hi=>by rw[show id+1+i=id+(i+1)by omega];exact h (i+1) (by simpa using hi)
theorem dW(G:BE):∀(ts:List VT) (id:Nat),(bR G id ts).2=(aF G id (bt ts)).2:=by
 intro ts;induction ts with
 |nil=>intro id;rfl
 | cons t ts ih=>
   intro id;have e:bt (t::ts)=t.bt++bt ts:=by simp[bt]
   rw[e,mo];simp only[bR,ih];congr 1;cases t with
   |one c=>simp[iR,VT.bt,aF]
   |agg cs=>simp[iR,VT.bt]
   |ptr e k=>simp[iR,VT.bt,aF,cn]
   |fn g cs=>exact yD G cs id
theorem pz(G:BE):∀(ts:List VT) (id:Nat) (bL:List Value),(aF G id (bt ts)).1.map (ag.ae U ph)=bL->(bR G id ts).1.map (V1.ae U ph)=bQ ts bL:=by
 intro ts;induction ts with
 |nil=>intro id bL _;rfl
 | cons t ts ih=>
   intro id bL h;have e:bt (t::ts)=t.bt++bt ts:=by simp[bt]
   rw[e,mo,od]at h;subst h;have hl:(aF G id t.bt).1.length=t.bt.length:=xt G _ _;simp only[bR,jt];rw[ih (id+t.bt.length) _ rfl];cases t with
   |one c=>simp[iR,VT.bt,aF,bQ,V1.ae]
   | ptr e k=>
     simp only[iR,VT.bt,aF,cn,bQ,V1.ae,jt,mJ,nU,kG,List.headD_cons,List.tail_cons,ag.ae,Ph.val,p6,IE.ae];congr 1;cases(ph.v id).1 with
     |none=>rfl
     |some a=>simp[Addr.add_zero']
   | fn g cs=>
     simp only[VT.bt,kT]at hl;simp only[iR,VT.bt,bQ,V1.ae,ag.ae,At (U:=U) G cs id];rw[DY (by simp[hl]),oV (by simp[hl]),FN (by simp[hl]),ue (by simp[hl])];simp
   | agg cs=>
     simp only[VT.bt]at hl;simp only[iR,VT.bt,bQ,V1.ae];rw[DY (by simp[hl]),oV (by simp[hl]),FN (by simp[hl]),ue (by simp[hl])];simp
theorem tv{R:fK}(own:Bool)(G:BE):∀(cs:List CT) (id:Nat) (bL:List Value) (fE:List DV),fitAll R cs bL fE->(∀(i:Nat) (d:DV),fE[i]?=some d->U (id+i)=d)->
   (∀(i:Nat) (v:Value),bL[i]?=some v->∀e ks,(cs[i]?=some (.s e ks)\/∃aH,cs[i]?=some (.n e aH))->ph.val (id+i)=v)->
   (aF G id cs).1.map (ag.ae U ph)=bL/\(∀r∈(aF G id cs).2,∃i:Nat,i<cs.length/\r=⟨id+i,r.e,r.ks,id+i,true,G⟩/\bL[i]?=some (ph.val r.id)/\R r.e (.inl r.ks) (ph.val r.id) (U r.lv).list)/\
     (∀n∈dj own G id cs,∃i:Nat,i<cs.length/\n=⟨id+i,n.e,n.aH,id+i,G,own⟩/\bL[i]?=some (ph.val n.id)/\R n.e (.inr n.aH) (ph.val n.id) (U n.lv).list/\cs[i]?=some (.n n.e n.aH)):=by
 intro cs;induction cs with
 |nil=>intro id bL fE h _ _;cases bL<;>cases fE<;>simp_all[fitAll,aF,dj]
 | cons c cs ih=>
   intro id bL fE h he hp;cases bL with
   |nil=>simp[fitAll]at h
   | cons v vs=>cases fE with
     |nil=>simp[fitAll]at h
     | cons d ds=>
       obtain⟨e1,e2,e4⟩:=ih (id+1) vs ds h.2 (fun i d hd=>by rw[show id+1+i=id+(i+1)by omega];exact he (i+1) d (by simpa using hd))
         (fun i v hv e ks hc=>by rw[show id+1+i=id+(i+1)by omega];exact hp (i+1) v (by simpa using hv) e ks (by simpa using hc))
       have Ab:U id=d:=by have:=he 0 d rfl;simpa using this
       have hf:=h.1;have xQ:∀r∈(aF G (id+1) cs).2,∃i:Nat,i<(c::cs).length/\r=⟨id+i,r.e,r.ks,id+i,true,G⟩/\(v::vs)[i]?=some (ph.val r.id)/\R r.e (.inl r.ks) (ph.val r.id) (U r.lv).list:=fun r hr=>by
         obtain⟨i,h1,h2,h3,h4⟩:=e2 r hr;refine⟨i+1,by simpa using h1,?_,by simpa using h3,h4⟩;rw[show id+(i+1)=id+1+i by omega];exact h2
       have F3:∀n∈dj own G (id+1) cs,∃i:Nat,i<(c::cs).length/\n=⟨id+i,n.e,n.aH,id+i,G,own⟩/\(v::vs)[i]?=some (ph.val n.id)/\R n.e (.inr n.aH) (ph.val n.id) (U n.lv).list/\(c::cs)[i]?=some (.n n.e n.aH):=fun n hn=>by
         obtain⟨i,h1,h2,h3,h4,h5⟩:=e4 n hn;refine⟨i+1,by simpa using h1,?_,by simpa using h3,h4,by simpa using h5⟩;rw[show id+(i+1)=id+1+i by omega];exact h2
       cases c with
       | n e aH=>
         have hv:ph.val id=v:=by have:=hp 0 v rfl e [] (.inr ⟨aH,rfl⟩);simpa using this
         refine⟨?_,fun r hr=>xQ r (by simpa[aF,cn]using hr),fun n hn=>?_⟩;simp only[aF,jt,e1,cn,ag.ae,hv]
         . simp only[dj,bh]at hn;rcases hn with rfl|hn
           . refine⟨0,by simp,by simp,by simp[hv],?_,by simp⟩;simp only[hv,Ab];cases d<;>simp_all[jE,DV.list]
           exact F3 n hn
       | c k=>
         refine⟨?_,?_,fun n hn=>F3 n (by simpa[dj]using hn)⟩
         . simp only[aF,jt,e1];congr 1;cases k<;>cases d<;>simp_all[jE,cn,ag.ae,IE.ae,BE.ae,DV.int,DV.bool]
         intro r hr;have:r∈(aF G (id+1) cs).2:=by cases k<;>simpa[aF,cn]using hr
         exact xQ r this
       | s e ks=>
         have hv:ph.val id=v:=by have:=hp 0 v rfl e ks (.inl rfl);simpa using this
         refine⟨?_,?_,fun n hn=>F3 n (by simpa[dj]using hn)⟩;simp only[aF,jt,e1,cn,ag.ae,hv]
         . intro r hr;simp only[aF,cn,nU,kG,bh]at hr;rcases hr with rfl|hr
           . refine⟨0,by simp,by simp,by simp[hv],?_⟩;simp only[hv,Ab];cases d<;>simp_all[jE,DV.list]
           exact xQ r hr
theorem gk{q:Nat->Bool}(G:BE)(hG:G.all q=true):∀(cs:List CT) (id:Nat),(∀i,i<cs.length->q (id+i)=true)->a7 q (aF G id cs).1=true/\∀r∈(aF G id cs).2,r.all q=true:=by
 intro cs;induction cs with
 |nil=>intro id _;simp[aF,a7]
 | cons c cs ih=>
   intro id h;obtain⟨e1,e2⟩:=ih (id+1) (fun i hi=>by rw[show id+1+i=id+(i+1)by omega];exact h (i+1) (by simpa using hi));have h0:q id=true:=by have:=h 0 (by simp);simpa using this
   cases c with
   |c k=>cases k<;>simp_all[aF,cn,a7,ag.all,IE.all,BE.all]
   |n e aH=>simp_all[aF,cn,a7,ag.all]
   | s e ks=>
     refine⟨by simp_all[aF,cn,a7,ag.all],?_⟩;intro r hr;simp only[aF,cn,nU,kG,bh]at hr;rcases hr with rfl|hr;simp[Row.all,h0,hG];exact e2 r hr
theorem tw{q:Nat->Bool}(own:Bool)(G:BE)(hG:G.all q=true):∀(cs:List CT) (id:Nat),(∀i,i<cs.length->q (id+i)=true)->∀n∈dj own G id cs,n.all q=true:=by
 intro cs;induction cs with
 |nil=>intro id _ n hn;simp[dj]at hn
 | cons c cs ih=>
   intro id h n hn;have hr:=ih (id+1) (fun i hi=>by rw[show id+1+i=id+(i+1)by omega];exact h (i+1) (by simpa using hi)) n;have h0:q id=true:=by have:=h 0 (by simp);simpa using this
   cases c with
   |c k=>exact hr (by simpa[dj]using hn)
   |s e ks=>exact hr (by simpa[dj]using hn)
   | n e aH=>
     simp only[dj,bh]at hn;rcases hn with rfl|hn;simp[df.all,h0,hG];exact hr hn
theorem lC{q:Nat->Bool}(G:BE)(hG:G.all q=true):∀(ts:List VT) (id:Nat),(∀i,i<(bt ts).length->q (id+i)=true)->cV q (bR G id ts).1=true:=by
 intro ts;induction ts with
 |nil=>intro id _;rfl
 | cons t ts ih=>
   intro id h;have e:bt (t::ts)=t.bt++bt ts:=by simp[bt]
   rw[e,dG]at h;have h1:=(gk G hG t.bt id (fun i hi=>h i (by omega))).1;have h2:=ih (id+t.bt.length) (fun i hi=>by rw[Nat.add_assoc];exact h _ (by omega));simp only[bR,cV,h2,Bool.and_true];cases t with
   |one c=>simpa[iR,VT.bt,aF,a7,V1.all]using h1
   |ptr e k=>simpa[iR,VT.bt,aF,cn,a7,V1.all,ag.all,IE.all]using h1
   | fn g cs=>
     simp only[iR,V1.all,ag.all];exact Au G cs id fun i hi=>h i (by simp[VT.bt];omega)
   |agg cs=>simpa[iR,VT.bt,V1.all]using h1
end
section
open Go.RowKit
variable {U ai:aA}{ph aJ:Ph}{P:Program}
def Ph.cX(ph:Ph)(key:Nat)(bL:List Value):Ph:=
 { ph with v:=fun k=>if key<=k then(match bL[k-key]? with
   |some (.slice a b c)=>(a,b,c)
   |_=>ph.v k)else ph.v k}
theorem sc{ph:Ph}{key i:Nat}{bL:List Value}{a:Option Addr}{b c:Nat}(h:bL[i]?=some (.slice a b c)):(ph.cX key bL).val (key+i) = .slice a b c:=by
 simp[Ph.val,Ph.cX,h]
theorem pB{w:World}{B B':Nat}{e:TypeId}{sz:Nat}{v:Value}{n:Nat}{xs:List Value}(h:w.ownsRow B' e sz v n xs)(hb:B<=B'):w.ownsRow B e sz v n xs:=by
 obtain⟨h1,h2|⟨g,cap,cur,e1,e2,e3⟩⟩:=h;exact⟨h1,.inl h2⟩;exact⟨h1,.inr ⟨g,cap,cur,e1,jS hb e2,e3⟩⟩
theorem se{vs:List V1}:(og vs).ae U ph=packed (vs.map (V1.ae U ph)):=by
 match vs with
 | []=>rfl
 | [v]=>rfl
 |_::_::_=>rfl
theorem ot{q:Nat->Bool}{G:BE}{vs:List V1}(hG:G.all q=true)(h:cV q vs=true):(⟨G,og vs⟩:aN).all q=true:=by
 match vs with
 | []=>simp[aN.all,hG,og,SV.all,cV]
 | [v]=>simpa[aN.all,hG,og,SV.all,cV]using h
 |_::_::_=>simpa[aN.all,hG,og,SV.all]using h
def Ph.kY(ph:Ph)(cs:List CT)(own:Bool)(bL:List Value)(lo hi:Nat):Ph:={ph with z:=fun k=>ph.z k\/(cs.any CT.u5=true/\lo<=k/\k<hi/\(own=true->∀v∈bL,v.ownBlock≠some k)) }
theorem ig{r:df}:∀ {rs l:List df},r∈p5 rs l↔r∈rs\/r∈l:=by
 intro rs;induction rs with
 |nil=>intro l;simp[p5]
 | cons x rs ih=>
   intro l;show r∈tj x (p5 rs l)↔_;rw[gg,ih,bh,or_assoc]
theorem Ax(G:BE):∀(cs:List CT) (id:Nat),∀r∈(aF G id cs).2,cs.any CT.ZA=true:=by
 intro cs;induction cs with
 |nil=>intro id r hr;simp[aF]at hr
 | cons c cs ih=>
   intro id r hr;cases c with
   |s e ks=>simp[CT.ZA]
   |c k=>simp only[List.any_cons,ih (id+1) r (by cases k<;>simpa[aF,cn]using hr),Bool.or_true]
   |n e aH=>simp only[List.any_cons,ih (id+1) r (by simpa[aF,cn]using hr),Bool.or_true]
theorem ou(own:Bool)(G:BE):∀(cs:List CT) (id:Nat),∀r∈dj own G id cs,r.g=G/\r.own=own:=by
 intro cs;induction cs with
 |nil=>intro id r hr;simp[dj]at hr
 | cons c cs ih=>
   intro id r hr;cases c with
   |c k=>exact ih _ r (by simpa[dj]using hr)
   |s e ks=>exact ih _ r (by simpa[dj]using hr)
   | n e aH=>
     simp only[dj,bh]at hr;rcases hr with rfl|hr;exact⟨rfl,rfl⟩;exact ih _ r hr
theorem Mc:∀ {cs:List CT} {i j:Nat} {c d:CT},cs.countP CT.u5<=1->cs[i]?=some c->cs[j]?=some d->c.u5=true->d.u5=true->i=j:=by
 intro cs;induction cs with
 |nil=>intro i j c d _ h;simp at h
 | cons x cs ih=>
   intro i j c d hc hi hj h1 h2;have Ua:∀ {j:Nat} {d:CT},x.u5=true->cs[j]?=some d->d.u5=true->False:=fun hx hj hd=>by
     have:0<cs.countP CT.u5:=List.countP_pos_iff.2 ⟨_,qi hj,hd⟩;rw[List.countP_cons_of_pos hx]at hc;omega
   cases i with
   | zero=>
     simp only[jo,af]at hi;cases j with
     |zero=>rfl
     |succ j=>exact(Ua (by rw[hi];exact h1) (by simpa using hj) h2).elim
   | succ i=>
     cases j with
     | zero=>
       simp only[jo,af]at hj;exact(Ua (by rw[hj];exact h2) (by simpa using hi) h1).elim
     | succ j=>
       have:=ih (i:=i) (j:=j) (jS (List.Sublist.countP_le (List.sublist_cons_self ..)) hc) (by simpa using hi) (by simpa using hj) h1 h2;omega
theorem Ef{w0 w w':World}{st:St}{a:Act}{key:Nat}{G:BE}{res:List VT}{bL:List Value}{fE:List DV}{dst:Option Tmp}(h:Sat w0 U ph st a w)(aQ:st.free key (width res)=true)(Cr:pg (bt res)=true)(hG:G.all st.has=true)
   (Vo:G.ae U=true) (hb:Below w.heap.size w w') (hf:fitAll (j4 w' w.heap.size) (bt res) bL fE) (Rd:fM bL) :
   Step w0 U (U.ay key fE) ph ((ph.cX key bL).kY (bt res) (decide (G=BE.c true)) bL w.heap.size w'.heap.size) st ({st.bd key (width res)with rows:=cG (bR G key res).2 st.rows,aV:=p5 (dj (decide (G=BE.c true)) G key (bt res)) st.aV}.put dst ⟨G,og (bR G key res).1⟩) (a.put dst (packed (bQ res bL))) w w' none:=by
 obtain⟨Fz,FF⟩:=ml hf;have hw:width res=(bt res).length:=rfl;have yF:∀k,st.has k=true->k<key\/key+(bt res).length<=k:=fun k hk=>by
   rcases pf k key with h1|h1;exact .inl h1;rcases pf k (key+(bt res).length)with h2|h2;rw[cy aQ h1 h2]at hk;cases hk;exact .inr h2
 have bq:a8 st.has U (U.ay key fE) ph ((ph.cX key bL).kY (bt res) (decide (G=BE.c true)) bL w.heap.size w'.heap.size):=by
   refine⟨fun k hk=>?_,fun _ _=>rfl,fun k hk=>?_⟩;rcases yF k hk with h1|h1;rw[aA.bn h1];rw[aA.iS (by omega)];rcases yF k hk with h1|h1;simp only[Ph.kY,Ph.cX];rw[if_neg (by omega)];simp only[Ph.kY,Ph.cX];rw[if_pos (by omega),tW (by omega)]
 have adA:a8 st.has U (U.ay key fE) ph (ph.cX key bL):=⟨bq.e,bq.r,bq.v⟩;have A8:=h.congr adA;have aau:a8 st.has (U.ay key fE) (U.ay key fE) (ph.cX key bL) ((ph.cX key bL).kY (bt res) (decide (G=BE.c true)) bL w.heap.size w'.heap.size):=⟨fun _ _=>rfl,fun _ _=>rfl,fun _ _=>rfl⟩;have Rb:∀k,((ph.cX key bL).kY (bt res) (decide (G=BE.c true)) bL w.heap.size w'.heap.size).z k->ph.z k\/(w.heap.size<=k/\k<w'.heap.size/\(bt res).any CT.u5=true/\((decide (G=BE.c true))=true->∀v∈bL,v.ownBlock≠some k)):=fun k hk=>hk.imp (fun h=>h) (fun h=>⟨h.2.1,h.2.2.1,h.1,h.2.2.2⟩);have iX:je w0.heap.size (U.ay key fE) ((ph.cX key bL).kY (bt res) (decide (G=BE.c true)) bL w.heap.size w'.heap.size) st.aR st.rows w:=je.congr aau h.names.aR h.names.rows A8.mem;have ht':fc (U.ay key fE) ((ph.cX key bL).kY (bt res) (decide (G=BE.c true)) bL w.heap.size w'.heap.size) st.tmps a.tmps:=⟨A8.tmps.1,fun t s ht=>by rw[A8.tmps.2 t s ht,aN.ak aau (h.names.tmps t s ht)]⟩;have Fy:G.ae (U.ay key fE)=true:=by rw[<- BE.ak bq.e hG];exact Vo
 obtain⟨e1,e2,e2N⟩:=tv (U:=U.ay key fE) (ph:=(ph.cX key bL).kY (bt res) (decide (G=BE.c true)) bL w.heap.size w'.heap.size) (decide (G=BE.c true)) G (bt res) key bL fE hf (fun i d hd=>aA.dr hd) (fun i v hv e ks hc=>by
   have VE:∃a b c,v = .slice a b c:=by
     rcases hc with hc|⟨aH,hc⟩;obtain⟨v',d,tR,hd,cY⟩:=iZ hf hc;rw[hv]at tR;simp only[af]at tR;subst tR;cases d with
     |i n=>simp[jE]at cY
     |b x=>simp[jE]at cY
     | l xs=>
       obtain⟨_,ho⟩:=cY;obtain⟨sl,rfl⟩:=kg ho;exact⟨_,_,_,rfl⟩
     obtain⟨v',d,tR,hd,cY⟩:=iZ hf hc;rw[hv]at tR;simp only[af]at tR;subst tR;cases d with
     |i n=>simp[jE]at cY
     |b x=>simp[jE]at cY
     | l xs=>
       obtain⟨_,zi,_,_,cs,ho,_⟩:=cY;obtain⟨sl,rfl⟩:=kg ho;exact⟨_,_,_,rfl⟩
   obtain⟨a0,b0,c0,rfl⟩:=VE;exact sc (ph:=ph) hv)
 rw[<- dW]at e2;have vx:=pz (U:=U.ay key fE) (ph:=(ph.cX key bL).kY (bt res) (decide (G=BE.c true)) bL w.heap.size w'.heap.size) G res key bL e1;have bF:∀k,st.has k=true->(st.bd key (width res)).has k=true:=fun k hk=>fH hk;have ib:∀i,i<(bt res).length->(st.bd key (width res)).has (key+i)=true:=fun i hi=>ia (by omega) (by rw[hw];omega);have b6:=gk (q:=(st.bd key (width res)).has) G (BE.ax bF hG) (bt res) key ib;have gn:w.grownBy w' none:=ke hb;have hB:w0.heap.size<=w.heap.size:=h.below.size;have oM:∀r∈(bR G key res).2,∃i:Nat,i<(bt res).length/\r.id=key+i/\r.own=true/\bL[i]?=some (((ph.cX key bL).kY (bt res) (decide (G=BE.c true)) bL w.heap.size w'.heap.size).val r.id)/\fw w0.heap.size (U.ay key fE) ((ph.cX key bL).kY (bt res) (decide (G=BE.c true)) bL w.heap.size w'.heap.size) r w'/\∀k,r.bM (U.ay key fE) ((ph.cX key bL).kY (bt res) (decide (G=BE.c true)) bL w.heap.size w'.heap.size)=some k->(((ph.cX key bL).kY (bt res) (decide (G=BE.c true)) bL w.heap.size w'.heap.size).val r.id).ownBlock=some k/\w.heap.size<=k:=by
   intro r hr;obtain⟨i,hi,Md,F4,hR⟩:=e2 r hr;obtain⟨h0,ho⟩:=hR;have bA:r.own=true:=by rw[Md]
   refine⟨i,hi,by rw[Md],bA,F4,⟨h0,?_⟩,fun k hk=>?_⟩;rw[if_pos bA];exact pB ho hB;have cK:(((ph.cX key bL).kY (bt res) (decide (G=BE.c true)) bL w.heap.size w'.heap.size).val r.id).ownBlock=some k:=by simpa[Row.bM,bA]using hk
   exact⟨cK,(ho.lt k cK).1⟩
 have hold:∀r∈st.rows,r.g.ae (U.ay key fE)=true->∀k,r.bM (U.ay key fE) ((ph.cX key bL).kY (bt res) (decide (G=BE.c true)) bL w.heap.size w'.heap.size)=some k->k<w.heap.size:=fun r hr h1 k hk=>(iX.row r hr h1).rQ hk;refine⟨⟨?_,?_,h.below.grown gn h.below.size (fun k hk=>by cases hk),by rw[cg];exact h.defers,?_,?_⟩,bq,gn,fun k hk=>by rw[b7];exact bF k hk,fun b hb=>.inl ⟨b,by rw[bN]at hb;exact hb,rfl⟩⟩;refine lY (st:={st.bd key (width res)with rows:=cG (bR G key res).2 st.rows,aV:=p5 (dj (decide (G=BE.c true)) G key (bt res)) st.aV}) ht' ?_;simp only[aN.ae,Fy,if_true,se,vx];rw[bN,cJ];have hk:=iX.grown gn;refine⟨hk.lP,hk.bb,fun r hr h1=>?_,fun b hb r hr h1=>?_,fun r hr r' cq ck ho h1 h2 k vE sK=>?_⟩;rcases bC.1 hr with hr|hr;obtain⟨_,_,_,_,_,iQ,_⟩:=oM r hr;exact iQ;exact hk.row r hr h1;rcases bC.1 hr with hr|hr;obtain⟨_,_,_,_,_,_,xC⟩:=oM r hr;intro e;have:=(xC _ e).2;have:=h.mem.BX hb;have e3:((ph.cX key bL).kY (bt res) (decide (G=BE.c true)) bL w.heap.size w'.heap.size).r b.id=ph.r b.id:=rfl;omega;exact hk.br b hb r hr h1;rcases bC.1 hr with hr|hr<;>rcases bC.1 cq with cq|cq;obtain⟨i,_,kF,_,F4,_,xC⟩:=oM r hr;obtain⟨i',_,Cs,_,VF,_,VG⟩:=oM r' cq;exact Rd i i' _ _ (fun e=>ck (by rw[kF,Cs,e])) F4 VF k (xC k vE).1 (VG k sK).1;obtain⟨_,_,_,_,_,_,xC⟩:=oM r hr;have:=(xC k vE).2;have:=hold r' cq h2 k sK;omega;obtain⟨_,_,_,_,_,_,xC⟩:=oM r' cq;have:=(xC k sK).2;have:=hold r hr h1 k vE;omega;exact hk.rr r hr r' cq ck ho h1 h2 k vE sK;refine⟨?_,?_,?_⟩;exact fJ (st:={st.bd key (width res)with rows:=cG (bR G key res).2 st.rows,aV:=p5 (dj (decide (G=BE.c true)) G key (bt res)) st.aV}) (fun t s ht=>aN.ax bF (h.names.tmps t s ht)) (ot (BE.ax bF hG) (lC G (BE.ax bF hG) res key ib));rw[bN,b7];exact fun b hb=>gD.ax bF (h.names.aR b hb);rw[cJ,b7];intro r hr;rcases bC.1 hr with hr|hr;rw[dW]at hr;exact b6.2 r hr;exact Row.ax bF (h.names.rows r hr);refine cP.put (st:={st.bd key (width res)with rows:=cG (bR G key res).2 st.rows,aV:=p5 (dj (decide (G=BE.c true)) G key (bt res)) st.aV}) ?_;have hn:=A8.nest;obtain⟨zz,Hx⟩:∃zz:Nat->Prop,zz=((ph.cX key bL).kY (bt res) (decide (G=BE.c true)) bL w.heap.size w'.heap.size).z:=⟨_,rfl⟩;have hS:∀r∈(bR G key res).2,(bt res).any CT.u5=true->False:=fun r hr hN=>by
   have hS:(bt res).any CT.ZA=true:=by
     rw[dW]at hr;exact Ax G _ _ r hr
   unfold pg at Cr;rw[hN,hS]at Cr;cases Cr
 have Ct:(bt res).any CT.u5=true->(bt res).countP CT.u5<=1:=fun hN=>by
   unfold pg at Cr;rw[hN]at Cr;simp only[Bool.not_true,Bool.false_or,ah,aD]at Cr;exact Cr.2
 have Cu:(bt res).any CT.u5=true->(bt res).any CT.ZA=false:=fun hN=>by
   unfold pg at Cr;rw[hN]at Cr;simp only[Bool.not_true,Bool.false_or,ah,mG]at Cr;exact Cr.1
 have adB:∀(i j:Nat) (v u:Value) (e:TypeId) (aH:List NK) (k:Nat),(bt res)[i]?=some (.n e aH)->bL[i]?=some v->bL[j]?=some u->u.ownBlock=some k->v=u:=fun i j v u e aH k hi hv hu hk=>by
   have hN:(bt res).any CT.u5=true:=kI.2 ⟨_,qi hi,rfl⟩;have hj:∃c,(bt res)[j]?=some c:=by
     have:=(cC.1 hu).1;exact⟨_,fV (by omega)⟩
   obtain⟨c,hc⟩:=hj;obtain⟨u',d,La,_,cY⟩:=iZ hf hc;rw[hu,af]at La;subst La;cases c with
   |c kk=>cases kk<;>cases d<;>simp only[jE]at cY<;>subst cY<;>simp[Value.ownBlock]at hk
   | s e' ks=>
     have:=Cu hN;rw[List.any_eq_false]at this;exact absurd rfl (this _ (qi hc))
   | n e' aan=>
     have:=Mc (Ct hN) hi hc rfl rfl;subst this;rw[hv,af]at hu;exact hu
 have hnN:∀n∈dj (decide (G=BE.c true)) G key (bt res),∃i:Nat,n.id=key+i/\(bt res)[i]?=some (.n n.e n.aH)/\bL[i]?=some (((ph.cX key bL).kY (bt res) (decide (G=BE.c true)) bL w.heap.size w'.heap.size).val n.id)/\0<n.aH.length/\eH w0.heap.size (U.ay key fE) ((ph.cX key bL).kY (bt res) (decide (G=BE.c true)) bL w.heap.size w'.heap.size) n w'/\
     ∀k,(((ph.cX key bL).kY (bt res) (decide (G=BE.c true)) bL w.heap.size w'.heap.size).val n.id).ownBlock=some k->w.heap.size<=k/\k<w'.heap.size:=fun n eX=>by
   obtain⟨i,hi,aah,F4,⟨h2,zi,h3,h3',VH⟩,h4⟩:=e2N n eX;have hN:(bt res).any CT.u5=true:=kI.2 ⟨_,qi h4,rfl⟩;have cF:∀k,(((ph.cX key bL).kY (bt res) (decide (G=BE.c true)) bL w.heap.size w'.heap.size).val n.id).ownBlock=some k->w.heap.size<=k/\k<w'.heap.size:=fun k hk=>by
     obtain⟨cs,ho,_⟩:=VH;exact ho.lt k hk
   refine⟨i,by rw[aah],h4,F4,h2,?_,cF⟩;have bA:=(ou _ G _ _ n eX).2;have aav:∀k,zi k->((ph.cX key bL).kY (bt res) (decide (G=BE.c true)) bL w.heap.size w'.heap.size).z k:=fun k hk=>.inr ⟨hN,(h3 k hk).1,(h3 k hk).2,fun _ v hv e=>by
     obtain⟨j,hj⟩:=List.getElem?_of_mem hv;have:=adB i j _ v _ _ k h4 F4 hj e;subst this;exact h3' k e hk⟩
   unfold eH;split;obtain⟨cs,ho,ix⟩:=VH.ln (z':=fun k=>((ph.cX key bL).kY (bt res) (decide (G=BE.c true)) bL w.heap.size w'.heap.size).z k/\w0.heap.size<=k) (fun _ _=>rfl) (fun k hk=>⟨aav k hk,jS hB (h3 k hk).1⟩) (fun _ _=>rfl);exact⟨cs,pB ho hB,ix⟩;rename_i oc;exact VH.reads h2 aav (fun k hk=>.inr ⟨hN,(cF k hk).1,(cF k hk).2,fun ht=>by rw[bA]at oc;exact absurd ht oc⟩)
 have A4:∀b∈st.aR,((ph.cX key bL).kY (bt res) (decide (G=BE.c true)) bL w.heap.size w'.heap.size).r b.id<w.heap.size:=fun b hb=>h.mem.BX hb;refine⟨fun k hk=>?_,fun b hb hz=>?_,fun r hr ho h1 k hk hz=>?_,fun n eX h1=>?_,fun n eX=>?_,fun n eX ho=>?_⟩;rcases Rb k hk with h2|h2;exact B9 (hn.lt k h2) gn.size;exact h2.2.1;rcases Rb _ hz with h2|h2;exact hn.bz b hb h2;have:=A4 b hb;omega;rcases bC.1 hr with hr|hr;obtain⟨i,hi,_,_,_,_,xC⟩:=oM r hr;have h3:=(xC k hk).2;rcases Rb _ hz with h2|h2;have:=hn.lt k h2;omega;exact hS r hr h2.2.2.1;rcases Rb _ hz with h2|h2;exact hn.rz r hr ho h1 k hk h2;have:=hold r hr h1 k hk;omega;rcases ig.1 eX with eX|eX;obtain⟨i,_,_,_,h2,h3,_⟩:=hnN n eX;exact⟨h2,h3⟩;obtain⟨h2,h3⟩:=hn.rd n eX h1;refine⟨h2,?_⟩;unfold eH at *;split;rename_i ho;rw[if_pos ho]at h3;exact h3.ln (fun k hk=>gn.block k (hn.lt k hk.1) (by simp)) (fun k hk=>⟨.inl hk.1,hk.2⟩) (fun k hk=>gn.block k (hn.nA eX ho hk).2 (by simp));rename_i ho;rw[if_neg ho]at h3;exact h3.ln (fun k hk=>gn.block k (hn.lt k hk) (by simp)) fun k hk=>.inl hk;rcases ig.1 eX with eX|eX;exact tw _ G (BE.ax bF hG) (bt res) key ib n eX;exact df.ax bF (h.nest.nm n eX);rcases ig.1 eX with eX|eX;obtain⟨LW,HK⟩:=ou _ G _ _ n eX;obtain⟨i,kF,h4,F4,_,_,cF⟩:=hnN n eX;have hGc:G = .c true:=by rw[HK]at ho;simpa using ho
 have hN:(bt res).any CT.u5=true:=kI.2 ⟨_,qi h4,rfl⟩;refine⟨by rw[LW,hGc],fun k hk=>?_⟩;obtain⟨vE,sK⟩:=cF k hk;refine⟨fun hz=>?_,fun b hb e=>?_,fun r hr F5 z6=>?_,fun n' mT oL Cs=>?_⟩;rcases Rb _ hz with h2|h2;have:=hn.lt k h2;omega;exact h2.2.2.2 (by simpa using hGc) _ (qi F4) hk;have:=A4 b hb;omega;rcases bC.1 hr with hr|hr;exact hS r hr hN;have:=hold r hr F5 k z6;omega;intro z6;rcases ig.1 mT with mT|mT;obtain⟨i',adC,h4',_⟩:=hnN n' mT;have:=Mc (Ct hN) h4 h4' rfl rfl;subst this;exact Cs (by rw[kF,adC]);have:=(hn.nA mT oL (k:=k) z6).2;omega;obtain⟨g1,g2⟩:=hn.oz n eX ho;refine⟨g1,fun k hk=>?_⟩;obtain⟨f1,f2,f3,f4⟩:=g2 k hk;have cF:=(hn.nA eX ho hk).2;refine⟨fun hz=>?_,f2,fun r hr F5 z6=>?_,fun n' mT oL Cs=>?_⟩;rcases Rb _ hz with h2|h2;exact f1 h2;omega;rcases bC.1 hr with hr|hr;obtain⟨_,_,_,_,_,_,xC⟩:=oM r hr;have:=(xC k z6).2;omega;exact f3 r hr F5 z6;intro z6;rcases ig.1 mT with mT|mT;obtain⟨_,_,_,_,_,_,JJ⟩:=hnN n' mT;have:=(JJ k z6).1;omega;exact f4 n' mT oL Cs z6
theorem F6{w0 w:World}{st:St}{a:Act}{key:Nat}{G:BE}{res:List VT}{fE:List DV}{dst:Option Tmp}(h:Sat w0 U ph st a w)(aQ:st.free key (width res)=true)(hG:G.all st.has=true)
   (hGf:G.ae U=false) (hl:fE.length=(bt res).length) :
   Step w0 U (U.ay key fE) ph ph st ({st.bd key (width res)with rows:=cG (bR G key res).2 st.rows,aV:=p5 (dj (decide (G=BE.c true)) G key (bt res)) st.aV}.put dst ⟨G,og (bR G key res).1⟩) (a.put dst undef) w w none:=by
 have hw:width res=(bt res).length:=rfl;have bq:a8 st.has U (U.ay key fE) ph ph:=by
   refine⟨fun k hk=>?_,fun _ _=>rfl,fun k hk=>rfl⟩;rcases pf k key with h1|h1;rw[aA.bn h1];rcases pf k (key+(bt res).length)with h2|h2;rw[cy aQ h1 h2]at hk;cases hk;rw[aA.iS (by omega)]
 have iX:=h.congr bq;have Fy:G.ae (U.ay key fE)=false:=by rw[<- BE.ak bq.e hG];exact hGf
 have bF:∀k,st.has k=true->(st.bd key (width res)).has k=true:=fun k hk=>fH hk;have ib:∀i,i<(bt res).length->(st.bd key (width res)).has (key+i)=true:=fun i hi=>ia (by omega) (by rw[hw];omega);have b6:=gk (q:=(st.bd key (width res)).has) G (BE.ax bF hG) (bt res) key ib;have ZC:∀r∈(bR G key res).2,r.g=G:=by
   have:∀(cs:List CT) (id:Nat),∀r∈(aF G id cs).2,r.g=G:=by
     intro cs;induction cs with
     |nil=>intro id r hr;simp[aF]at hr
     | cons c cs ih=>
       intro id r hr;simp only[aF,oQ]at hr;rcases hr with hr|hr;cases c with
       |c k=>cases k<;>simp[cn]at hr
       |s e ks=>simp[cn]at hr;rw[hr]
       |n e aH=>simp[cn]at hr
       exact ih _ r hr
   rw[dW];exact this _ _
 refine⟨⟨?_,?_,h.below,by rw[cg];exact h.defers,?_,?_⟩,bq,bW w,fun k hk=>by rw[b7];exact bF k hk,fun b hb=>.inl ⟨b,by rw[bN]at hb;exact hb,rfl⟩⟩;refine lY (st:={st.bd key (width res)with rows:=cG (bR G key res).2 st.rows,aV:=p5 (dj (decide (G=BE.c true)) G key (bt res)) st.aV}) iX.tmps ?_;simp only[aN.ae,Fy];rfl;rw[bN,cJ];have hk:=iX.mem;have ho:∀r∈cG (bR G key res).2 st.rows,r.g.ae (U.ay key fE)=true->r∈st.rows:=fun r hr h1=>by
   rcases bC.1 hr with hr|hr;rw[ZC r hr,Fy]at h1;cases h1;exact hr
 exact⟨hk.lP,hk.bb,fun r hr h1=>hk.row r (ho r hr h1) h1,fun b hb r hr h1=>hk.br b hb r (ho r hr h1) h1,fun r hr r' cq ck hw h1 h2=>hk.rr r (ho r hr h1) r' (ho r' cq h2) ck hw h1 h2⟩;refine⟨?_,?_,?_⟩;exact fJ (st:={st.bd key (width res)with rows:=cG (bR G key res).2 st.rows,aV:=p5 (dj (decide (G=BE.c true)) G key (bt res)) st.aV}) (fun t s ht=>aN.ax bF (h.names.tmps t s ht)) (ot (BE.ax bF hG) (lC G (BE.ax bF hG) res key ib));rw[bN,b7];exact fun b hb=>gD.ax bF (h.names.aR b hb);rw[cJ,b7];intro r hr;rcases bC.1 hr with hr|hr;rw[dW]at hr;exact b6.2 r hr;exact Row.ax bF (h.names.rows r hr);refine cP.put (st:={st.bd key (width res)with rows:=cG (bR G key res).2 st.rows,aV:=p5 (dj (decide (G=BE.c true)) G key (bt res)) st.aV}) ?_;have hn:=iX.nest;have Ub:∀n∈dj (decide (G=BE.c true)) G key (bt res),n.own=true->False:=fun n eX ho=>by
   obtain⟨_,HK⟩:=ou _ G _ _ n eX;rw[HK]at ho;have hGc:G = .c true:=by simpa using ho
   rw[hGc]at hGf;cases hGf
 refine⟨hn.lt,hn.bz,fun r hr ho h1 k hk=>?_,fun n eX h1=>?_,fun n eX=>?_,fun n eX ho=>?_⟩;rcases bC.1 hr with hr|hr;rw[ZC r hr,Fy]at h1;cases h1;exact hn.rz r hr ho h1 k hk;rcases ig.1 eX with eX|eX;rw[(ou _ G _ _ n eX).1,Fy]at h1;cases h1;exact hn.rd n eX h1;rcases ig.1 eX with eX|eX;exact tw _ G (BE.ax bF hG) (bt res) key ib n eX;exact df.ax bF (h.nest.nm n eX);rcases ig.1 eX with eX|eX;exact(Ub n eX ho).elim;obtain⟨g1,g2⟩:=hn.oz n eX ho;refine⟨g1,fun k hk=>?_⟩;obtain⟨f1,f2,f3,f4⟩:=g2 k hk;refine⟨f1,f2,fun r hr F5 z6=>?_,fun n' mT oL Cs=>?_⟩;rcases bC.1 hr with hr|hr;rw[ZC r hr,Fy]at F5;cases F5;exact f3 r hr F5 z6;rcases ig.1 mT with mT|mT;exact(Ub n' mT oL).elim;exact f4 n' mT oL Cs
end
end Go.Sx

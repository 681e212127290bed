/- The symbolic executor: memory and own rows. -/
import Derived.Test.YtohebioanhliiaaGreatDoorKA1
import Derived.Maps.AppendAt
import Derived.Laws.OwnMore
import Derived.ArgAppend
import Derived.Laws.IdiomStrings
import Derived.Calls
set_option linter.unusedVariables false
set_option linter.unusedSimpArgs false
namespace Go.Sx
open Go.RowKit
variable {U:az}{ph:Ph}{P:Program}
theorem Reads.grown{w w':World}{v:Value}{n:Nat}{cells:List Value}{row:Option Nat}(h:Reads w v n cells)(hg:w.grownBy w' row)(cx:cells≠[]->∀k,v.ownBlock=some k->some k≠row):Reads w' v n cells:=by
 obtain⟨base,cap,rfl,hn,h0,hc⟩:=h;refine⟨base,cap,rfl,hn,h0,fun j u hj=>?_⟩
 obtain⟨a,rfl,ha⟩:=hc j u hj;refine⟨a,rfl,?_⟩;have jI:(a.add j).block=a.block:=by unfold Addr.add;split<;>rfl
 exact hg.cell ha (by rw[jI];exact cx (by intro e;rw[e]at hj;simp at hj) _ (by simp[Value.ownBlock]))
theorem sq{w w':World}{B:Nat}{e:TypeId}{sz:Nat}{v:Value}{n:Nat}{xs:List Value}{row:Option Nat}(h:w.ownsRow B e sz v n xs)(hg:w.grownBy w' row)(cx:∀k,v.ownBlock=some k->some k≠row):w'.ownsRow B e sz v n xs:=
 h.kept hg (by
   cases hv:v.ownBlock with
   |none=>exact .inl rfl
   |some k=>exact .inr (cx k hv))
theorem fE.grown{B:Nat}{r:Row}{w w':World}{row:Option Nat}(h:fE B U ph r w)(hg:w.grownBy w' row)(cx:∀k,r.bQ U ph=some k->some k≠row):fE B U ph r w':=by
 obtain⟨h0,h⟩:=h;refine⟨h0,?_⟩;split at h
 . rename_i ho;rw[if_pos ho];exact sq h hg (fun k hk=>cx k (by simp[Row.bQ,ho,hk]))
 . rename_i ho;rw[if_neg ho];exact h.grown hg (fun hc k hk=>cx k (by
     have:(U r.lv).list.length≠0:=fun e=>hc (List.eq_nil_of_length_eq_zero (by rw[bM,e,Nat.zero_mul]))
     simp[Row.bQ,this,hk]))
theorem sj.lt{B:Nat}{b:gC}{w:World}(h:sj B U ph b w):ph.r b.id<w.heap.size:=(Array.getElem?_eq_some_iff.1 h.2).1
theorem sj.grown{B:Nat}{b:gC}{w w':World}{row:Option Nat}(h:sj B U ph b w)(hg:w.grownBy w' row)(cx:some (ph.r b.id)≠row):sj B U ph b w':=
 ⟨h.1,by rw[hg.block _ h.lt cx];exact h.2⟩
theorem iW.grown{B:Nat}{aT:List gC}{rows:List Row}{w w':World}(h:iW B U ph aT rows w)(hg:w.grownBy w' none):iW B U ph aT rows w':=
 ⟨fun b hb=>(h.lQ b hb).grown hg (by simp),h.bb,fun r hr h1=>(h.row r hr h1).grown hg (by simp),h.br,h.rr⟩
theorem cd(w:World):w.grownBy w none:=⟨rfl,rfl,rfl,Nat.le_refl _,fun _ _ _=>rfl⟩
theorem jU{w w':World}(h:Below w.heap.size w w'):w.grownBy w' none:=⟨h.os,h.tape,h.output,h.size,fun k hk _=>h.block k hk⟩
theorem ny{a b c:World}{row:Option Nat}(h:a.grownBy b row)(k:b.grownBy c row):a.grownBy c row:=
 ⟨k.os.trans h.os,k.tape.trans h.tape,k.output.trans h.output,Nat.le_trans h.size k.size,fun i hi cx=>(k.block i (Nat.lt_of_lt_of_le hi h.size) cx).trans (h.block i hi cx)⟩
theorem hU{a b:World}{row:Option Nat}(h:a.grownBy b none):a.grownBy b row:=⟨h.os,h.tape,h.output,h.size,fun i hi _=>h.block i hi (by simp)⟩
theorem EW{q:Nat×Nat->Bool}{d:Nat×Nat}:∀ {l:List (Nat×Nat)},(uN d l).any q=(q d||l.any q):=by
 intro l;induction l with
 |nil=>simp[uN]
 | cons x l ih=>
   simp only[uN];split
   . simp
   . simp only[List.any_cons,ih];cases q x<;>cases q d<;>simp
theorem uO{st:St}{a n k:Nat}:(st.bn a n).has k=(st.has k||(decide (a<=k)&&decide (k<a+n))):=by
 show(decide (k<st.next)||(uN (a,a+n) st.nz).any _)=_
 rw[EW];show(decide (k<st.next)||(_||_))=((decide (k<st.next)||_)||_)
 rw[Bool.or_assoc,Bool.or_comm (decide (a<=k)&&decide (k<a+n))]
theorem fO{st:St}{a n k:Nat}(h:st.has k=true):(st.bn a n).has k=true:=by rw[uO,h];rfl
theorem hZ{st:St}{a n k:Nat}(h1:a<=k)(h2:k<a+n):(st.bn a n).has k=true:=by rw[uO];simp[h1,h2]
theorem cM{st:St}{a n k:Nat}(h:st.free a n=true)(h1:a<=k)(h2:k<a+n):st.has k=false:=by
 simp only[St.free,ao,aC,List.all_eq_true,fy]at h;simp only[St.has,Bool.or_eq_false_iff,decide_eq_false_iff_not,List.any_eq_false,ao,aC,not_and];refine⟨by omega,fun d hd h3=>?_⟩
 have:=h.2 d hd;omega
theorem IE.aB{p q:Nat->Bool}(h:∀k,p k=true->q k=true):∀ {e:IE},e.all p=true->e.all q=true:=by
 intro e;induction e with
 |v k=>simp only[IE.all];exact h k
 |c n=>simp[IE.all]
 |len k=>simp only[IE.all];exact h k
 |get k i j ih=>simp only[IE.all,ao];exact fun ha=>⟨h k ha.1,ih ha.2⟩
 |kq i n a b rW rX Un=>simp only[IE.all,ao];exact fun ha=>⟨rW ha.1,rX ha.2.1,Un ha.2.2⟩
 |ediv a n ih=>simp only[IE.all];exact ih
 |emod a n ih=>simp only[IE.all];exact ih
 |wrap k a ih=>simp only[IE.all];exact ih
 |bits op k a b rW rX=>simp only[IE.all,ao];exact fun ha=>⟨rW ha.1,rX ha.2⟩
 |_ a b rW rX=>simp only[IE.all,ao];exact fun ha=>⟨rW ha.1,rX ha.2⟩
theorem BE.aB{p q:Nat->Bool}(h:∀k,p k=true->q k=true):∀ {e:BE},e.all p=true->e.all q=true:=by
 intro e;induction e with
 |v k=>simp only[BE.all];exact h k
 |c n=>simp[BE.all]
 |not a ih=>simp only[BE.all];exact ih
 |si a=>simp only[BE.all];exact IE.aB h
 |and a b rW rX=>simp only[BE.all,ao];exact fun ha=>⟨rW ha.1,rX ha.2⟩
 |or a b rW rX=>simp only[BE.all,ao];exact fun ha=>⟨rW ha.1,rX ha.2⟩
 |iff a b rW rX=>simp only[BE.all,ao];exact fun ha=>⟨rW ha.1,rX ha.2⟩
 |_ a b=>simp only[BE.all,ao];exact fun ha=>⟨IE.aB h ha.1,IE.aB h ha.2⟩
theorem c8.aB{p q:Nat->Bool}(h:∀k,p k=true->q k=true){l:c8}(ha:l.all p=true):l.all q=true:=by
 cases l with
 |i k e=>exact IE.aB h ha
 |b e=>exact BE.aB h ha
 |s r=>exact h _ ha
 |jH=>rfl
theorem ah.aB{p q:Nat->Bool}(h:∀k,p k=true->q k=true){l:ah}(ha:l.all p=true):l.all q=true:=by
 cases l with
 |i k e=>exact IE.aB h ha
 |b e=>exact BE.aB h ha
 |p b o=>exact h _ ha
 |ep r s i j=>simp only[ah.all,ao]at ha ⊢;exact⟨h _ ha.1,IE.aB h ha.2⟩
 |pi b o s n x=>simp only[ah.all,ao]at ha ⊢;exact⟨h _ ha.1,IE.aB h ha.2⟩
 |s r=>exact h _ ha
 |fn g dg=>simp only[ah.all,List.all_eq_true]at ha ⊢;exact fun c hc=>h _ (ha c hc)
 |fl e=>exact IE.aB h ha
 |bf g a ls=>simp only[ah.all,List.all_eq_true]at ha ⊢;exact fun c hc=>c8.aB h (ha c hc)
 |vw r s lo n=>simp only[ah.all,ao]at ha ⊢;exact⟨h _ ha.1,IE.aB h ha.2.1,IE.aB h ha.2.2⟩
 |cs r=>exact h _ ha
 |bs b n s=>exact h _ ha
 |kb r bs=>exact h _ ha
 |ab r i b=>exact h _ ha
 |_=>rfl
theorem lZ{p q:Nat->Bool}(h:∀k,p k=true->q k=true):∀ {ls:List ah},bh p ls=true->bh q ls=true:=by
 intro ls;induction ls with
 |nil=>intro _;rfl
 |cons l ls ih=>simp only[bh,ao];exact fun ha=>⟨ah.aB h ha.1,ih ha.2⟩
theorem V1.aB{p q:Nat->Bool}(h:∀k,p k=true->q k=true){v:V1}(ha:v.all p=true):v.all q=true:=by
 cases v with
 |one l=>exact ah.aB h ha
 |agg ls=>exact lZ h ha
theorem vD{p q:Nat->Bool}(h:∀k,p k=true->q k=true):∀ {ls:List V1},dm p ls=true->dm q ls=true:=by
 intro ls;induction ls with
 |nil=>intro _;rfl
 |cons l ls ih=>simp only[dm,ao];exact fun ha=>⟨V1.aB h ha.1,ih ha.2⟩
theorem aP.aB{p q:Nat->Bool}(h:∀k,p k=true->q k=true){s:aP}(ha:s.all p=true):s.all q=true:=by
 simp only[aP.all,ao]at ha ⊢;refine⟨BE.aB h ha.1,?_⟩;cases hs:s.sv with
 |v x=>rw[hs]at ha;exact V1.aB h ha.2
 |ED xs=>rw[hs]at ha;exact vD h ha.2
theorem gC.aB{p q:Nat->Bool}(h:∀k,p k=true->q k=true){b:gC}(ha:b.all p=true):b.all q=true:=by
 simp only[gC.all,ao]at ha ⊢;exact⟨h _ ha.1,lZ h ha.2⟩
theorem Row.aB{p q:Nat->Bool}(h:∀k,p k=true->q k=true){r:Row}(ha:r.all p=true):r.all q=true:=by
 simp only[Row.all,ao]at ha ⊢;exact⟨h _ ha.1,h _ ha.2.1,BE.aB h ha.2.2⟩
theorem cj{st:St}{dst:Option Tmp}{s:aP}:(st.put dst s).has=st.has:=by
 cases dst<;>rfl
theorem bR{st:St}{dst:Option Tmp}{s:aP}:(st.put dst s).aT=st.aT:=by cases dst<;>rfl
theorem cU{st:St}{dst:Option Tmp}{s:aP}:(st.put dst s).rows=st.rows:=by cases dst<;>rfl
theorem fj.put{ts:List (Option aP)}{tmps:Array Value}(h:fj U ph ts tmps)(d:Nat)(s:aP):fj U ph (ts.set d (some s)) (tmps.setIfInBounds d (s.ae U ph)):=by
 refine⟨by simpa using h.1,fun t s' ht=>?_⟩
 rw[List.getElem?_set]at ht;rw[Array.getElem?_setIfInBounds];by_cases hd:d=t
 . subst hd;simp only[if_true]at ht ⊢;split at ht
   . rename_i cQ;simp only[af]at ht;subst ht;rw[if_pos (by rw[<- h.1];exact cQ)]
   . cases ht
 . simp only[hd,if_false]at ht ⊢;exact h.2 t s' ht
theorem ma{st:St}{a:Act}{dst:Option Tmp}{s:aP}{v:Value}(h:fj U ph st.tmps a.tmps)(hv:v=s.ae U ph):fj U ph (st.put dst s).tmps (a.put dst v).tmps:=by
 subst hv;cases dst with
 |none=>exact h
 |some d=>exact h.put d s
theorem fP{st:St}{dst:Option Tmp}{s:aP}(h:∀(t:Nat) (s:aP),st.tmps[t]?=some (some s)->s.all st.has=true)(hs:s.all st.has=true) :
   ∀(t:Nat) (s':aP),(st.put dst s).tmps[t]?=some (some s')->s'.all (st.put dst s).has=true:=by
 intro t s' ht;rw[cj];cases dst with
 |none=>exact h t s' ht
 | some d=>
   simp only[St.put]at ht;rw[List.getElem?_set]at ht;split at ht
   . split at ht
     . simp only[af]at ht;subst ht;exact hs
     . cases ht
   . exact h t s' ht
theorem cA{a:Act}{dst:Option Tmp}{v:Value}:(a.put dst v).defers=a.defers:=by cases dst<;>rfl
theorem Ik{st:St}{dst:Option Tmp}{s:aP}:(st.put dst s).aY=st.aY:=by cases dst<;>rfl
theorem dG.aB{p q:Nat->Bool}(h:∀k,p k=true->q k=true){r:dG}(ha:r.all p=true):r.all q=true:=by
 simp only[dG.all,ao]at ha ⊢;exact⟨h _ ha.1,h _ ha.2.1,BE.aB h ha.2.2⟩
theorem da.next{B:Nat}{st aZ:St}{w w':World}{row:Option Nat}(h:da B U ph st w){ak:az}{aH:Ph}(bF:bj st.has U ak ph aH)(hz:aH.z=ph.z)(hm:∀k,st.has k=true->aZ.has k=true)(hg:w.grownBy w' row)(bc:∀k,row=some k->¬ ph.z k/\∀n∈st.aY,n.own=true->(ph.val n.id).ownBlock≠some k)(hn:aZ.aY=st.aY)
   (hb:∀b∈aZ.aT,(∃b0∈st.aT,aH.r b.id=ph.r b0.id)\/w.heap.size<=aH.r b.id)
   (hr:∀r∈aZ.rows,r.g.ae ak=true->∀k,r.bQ ak aH=some k->(∃r0∈st.rows,(r.own=true->r0.own=true)/\r0.g.ae U=true/\r0.bQ U ph=some k)\/w.heap.size<=k\/row=some k\/(r.own=false/\ph.z k)):da B ak aH aZ w':=by
 have hv:∀n∈st.aY,aH.val n.id=ph.val n.id/\ak n.lv=U n.lv/\n.g.ae ak=n.g.ae U:=fun n hn=>by
   have:=h.nm n hn;simp only[dG.all,ao]at this;exact⟨by simp only[Ph.val,bF.v _ this.1],(bF.e _ this.2.1).symm,(BE.aq bF.e this.2.2).symm⟩
 refine⟨fun k hk=>Nat.lt_of_lt_of_le (h.lt k (by rw[<- hz];exact hk)) hg.size,fun b Ac KL=>?_,fun r QE ho h1 k hk Il=>?_,fun n iK h1=>?_,fun n iK=>dG.aB hm (h.nm n (by rw[<- hn];exact iK)),fun n iK ho=>?_⟩
 . rw[hz]at KL;rcases hb b Ac with⟨b0,h0,e⟩|e
   . rw[e]at KL;exact h.bz b0 h0 KL
   . have:=h.lt _ KL;omega
 . rw[hz]at Il;rcases hr r QE h1 k hk with⟨r0,h0,h2,h3,h4⟩|e|e|⟨e,_⟩
   . exact h.rz r0 h0 (h2 ho) h3 k h4 Il
   . have:=h.lt _ Il;omega
   . exact(bc k e).1 Il
   . rw[e]at ho;cases ho
 . rw[hn]at iK;obtain⟨e1,e2,e3⟩:=hv n iK;obtain⟨h0,ze⟩:=h.rd n iK (by rw[<- e3];exact h1)
   refine⟨h0,?_⟩;unfold eU at *;rw[hz,e1,e2];split
   . rename_i ho;rw[if_pos ho]at ze;refine ze.lk (fun k hk=>hg.block k (h.lt k hk.1) (fun e=>(bc k e.symm).1 hk.1)) (fun _ h=>h) (fun k hk=>hg.block k (h.nu iK ho hk).2 (fun e=>(bc k e.symm).2 n iK ho hk))
   . rename_i ho;rw[if_neg ho]at ze;exact ze.lk (fun k hk=>hg.block k (h.lt k hk) (fun e=>(bc k e.symm).1 hk)) (fun _ h=>h)
 . rw[hn]at iK;obtain⟨e1,e2,e3⟩:=hv n iK;obtain⟨h1,h2⟩:=h.oz n iK ho;refine⟨h1,fun k hk=>?_⟩
   rw[e1]at hk;obtain⟨g1,g2,g3,g4⟩:=h2 k hk;have cQ:=(h.nu iK ho hk).2;refine⟨by rw[hz];exact g1,fun b Ac he=>?_,fun r QE gn hf=>?_,fun n' jL ow cx=>?_⟩
   . rcases hb b Ac with⟨b0,h0,e⟩|e
     . exact g2 b0 h0 (by rw[<- e];exact he)
     . omega
   . rcases hr r QE gn k hf with⟨r0,h0,_,h3,h4⟩|e|e|⟨_,e⟩
     . exact g3 r0 h0 h3 h4
     . omega
     . exact(bc k e).2 n iK ho hk
     . exact g1 e
   . rw[hn]at jL;rw[(hv n' jL).1];exact g4 n' jL ow cx
theorem da.same{B:Nat}{st aZ:St}{w:World}(h:da B U ph st w)(hm:∀k,st.has k=true->aZ.has k=true)(h1:aZ.aT=st.aT)(h2:aZ.rows=st.rows)(h3:aZ.aY=st.aY):da B U ph aZ w:=
 ⟨h.lt,by rw[h1];exact h.bz,by rw[h2];exact h.rz,by rw[h3];exact h.rd,by rw[h3];exact fun n hn=>dG.aB hm (h.nm n hn),by rw[h1,h2,h3];exact h.oz⟩
theorem da.put{B:Nat}{st:St}{w:World}{dst:Option Tmp}{s:aP}(h:da B U ph st w):da B U ph (st.put dst s) w:=
 h.same (fun k hk=>by rw[cj];exact hk) bR cU Ik
theorem Sat.put{w0 w:World}{st:St}{a:Act}{dst:Option Tmp}{s:aP}{v:Value}(h:Sat w0 U ph st a w)(hs:s.all st.has=true)(hv:v=s.ae U ph):Sat w0 U ph (st.put dst s) (a.put dst v) w:=
 ⟨ma h.tmps hv,by rw[bR,cU];exact h.mem,h.below,by rw[cA];exact h.defers,
   ⟨fP h.names.tmps hs,by rw[bR,cj];exact h.names.aT,by rw[cU,cj];exact h.names.rows⟩,h.nest.put⟩
theorem mb:jk.ae U ph=undef:=rfl
theorem mc{p:Nat->Bool}:jk.all p=true:=rfl
end Go.Sx
namespace Go.Sx
open Go.RowKit
variable {U:az}{ph:Ph}{P:Program}
theorem jl(g:Nat)(ty:TypeId)(off:Nat):∀(vs:List Value) (i:Nat) (cur:List Value) (w:World),w.heap[g]?=some (.cells cur.toArray ty (0,0))->off+i+vs.length<=cur.length->(∀v∈vs,v.oneCell'=true)->
   ∃w',(storeCells ⟨g,off,none⟩ vs i).run P w = .ok () w'/\w.grownBy w' (some g)/\w'.heap[g]?=some (.cells ((vs.zipIdx i).foldl (fun cs (x:Value×Nat)=>cs.set (off+x.2) x.1) cur).toArray ty (0,0)):=by
 intro vs;induction vs with
 |nil=>intro i cur w hg _ _;exact⟨w,rfl,hU (cd w),hg⟩
 | cons v vs ih=>
   intro i cur w hg hl h1;simp only[List.length_cons]at hl;have cQ:off+i<cur.length:=by omega
   have kZ:w.cell? ⟨g,off+i,none⟩=some cur[off+i]:=by
     rw[cell_of_row w g _ _ _ _ hg];simp[cQ]
   have hfz:=frozen_of_row w g (off+i) cur.toArray ty hg;have dB:(store ((⟨g,off,none⟩:Addr).add i) v).run P w = .ok () (w.setCell ⟨g,off+i,none⟩ v):=by
     rw[iy,run_store P w _ v _ (h1 v (aO ..))];simp[stored,kZ,hfz]
   have Ak:(w.setCell ⟨g,off+i,none⟩ v).heap[g]?=some (.cells (cur.set (off+i) v).toArray ty (0,0)):=by
     have:=heap_setCell_same w g (off+i) cur.toArray ty v hg;rw[this];simp
   obtain⟨w',hr,gn,hh⟩:=ih (i+1) (cur.set (off+i) v) (w.setCell ⟨g,off+i,none⟩ v) Ak (by simp;omega) (fun u hu=>h1 u (bp _ hu))
   refine⟨w',?_,?_,?_⟩
   . simp only[storeCells,Sem.run_bind,dB,Result.andThen_ok,hr]
   . have EF:w.grownBy (w.setCell ⟨g,off+i,none⟩ v) (some g):=⟨rfl,rfl,rfl,by simp,fun k _ hk=>heap_setCell_other w ⟨g,off+i,none⟩ k v (fun e=>hk (by rw[e]))⟩
     exact ny EF gn
   . simpa[List.zipIdx_cons]using hh
theorem vE{t:TypeId}{g off:Nat}{ty:TypeId}{v:V1}{cs:List ah}{w:World}(hs:v.leaves.length=P.cellsOf t)(lh:0<P.cellsOf t)(hg:w.heap[g]?=some (.cells (cs.map (ah.ae U ph)).toArray ty (0,0)))
   (hl:off+v.leaves.length<=cs.length) :
   ∃w',(Instr.storeAt t (.pointer (some ⟨g,off,none⟩)) (v.ae U ph)).run P w = .ok () w'/\w.grownBy w' (some g)/\w'.heap[g]?=some (.cells ((gJ cs off v.leaves).map (ah.ae U ph)).toArray ty (0,0)):=by
 obtain⟨w',hr,gn,hh⟩:=jl (P:=P) g ty off (v.leaves.map (ah.ae U ph)) 0 (cs.map (ah.ae U ph)) w hg (by simpa using hl) (fun u hu=>by
   obtain⟨l,_,rfl⟩:=List.mem_map.1 hu;exact ah.vC l)
 refine⟨w',?_,gn,by rw[hh,lq]⟩
 simp only[Instr.storeAt,Instr.sureAddr,Sem.run_bind,Sem.run_pure,Result.andThen_ok,storeVar,bZ lh,V1.fc];rw[if_neg (by simp[hs])]
 simpa using hr
theorem fA{b x:gC}:∀ {l:List gC},b∈kL x l↔b=x\/b∈l:=by
 intro l;induction l with
 |nil=>simp[kL]
 | cons y l ih=>
   simp only[kL];split
   . simp
   . simp only[bq,ih];constructor
     . rintro(h|h|h)<;>simp[h]
     . rintro(h|h|h)<;>simp[h]
theorem dp{b x:Row}:∀ {l:List Row},b∈dc x l↔b=x\/b∈l:=by
 intro l;induction l with
 |nil=>simp[dc]
 | cons y l ih=>
   simp only[dc];split
   . simp
   . simp only[bq,ih];constructor
     . rintro(h|h|h)<;>simp[h]
     . rintro(h|h|h)<;>simp[h]
structure Step(w0:World)(U ak:az)(ph aH:Ph)(st aZ:St)(a':Act)(w w':World)(row:Option Nat):Prop where
 sat:Sat w0 ak aH aZ a' w'
 agree:bj st.has U ak ph aH
 grown:w.grownBy w' row
 mono:∀k,st.has k=true->aZ.has k=true
 fresh:∀b∈aZ.aT,(∃b0∈st.aT,b0.id=b.id)\/w.heap.size<=aH.r b.id
theorem cw{p:Nat->Bool}:bj p U U ph ph:=⟨fun _ _=>rfl,fun _ _=>rfl,fun _ _=>rfl⟩
theorem xj{w0 w:World}{st:St}{a:Act}{key:Nat}{e:TypeId}{ls:List ah}{dst:Option Tmp}{s:aP}{v:Value}(h:Sat w0 U ph st a w)(aR:st.free key 1=true)(uz:bh st.has ls=true)
   (Y6:s.all (st.bn key 1).has=true) (hv:v=s.ae U (ph.nA key w.heap.size)) :
   Step w0 U U ph (ph.nA key w.heap.size) st ({st.bn key 1 with aT:=kL ⟨key,e,ls⟩ st.aT}.put dst s) (a.put dst v) w (w.alloc (.cells (ls.map (ah.ae U ph)).toArray e)) none:=by
   have sP:st.has key=false:=cM aR (Nat.le_refl _) (by omega)
   have bF:bj st.has U U ph (ph.nA key w.heap.size):=⟨fun _ _=>rfl,fun k hk=>by
     have:k≠key:=fun e=>by rw[e,sP]at hk;cases hk
     simp[Ph.nA,this],fun _ _=>rfl⟩
   have iP:=h.congr bF;have gn:w.grownBy (w.alloc (.cells (ls.map (ah.ae U ph)).toArray e)) none:=World.grownBy_alloc w _ none;have bI:∀k,st.has k=true->(st.bn key 1).has k=true:=fun k hk=>fO hk
   have hB:w0.heap.size<=w.heap.size:=h.below.size;refine⟨⟨?_,?_,h.below.alloc hB _,by rw[cA];exact h.defers,?_,?_⟩,bF,gn,fun k hk=>by rw[cj];exact bI k hk,fun b hb=>?_⟩
   rotate_right
   . rw[bR]at hb;rcases fA.1 hb with rfl|hb
     . exact .inr (by simp[Ph.nA])
     . exact .inl ⟨b,hb,rfl⟩
   . refine ma (st:={st.bn key 1 with aT:=kL ⟨key,e,ls⟩ st.aT}) iP.tmps ?_;exact hv
   . rw[bR,cU];have hm:=iP.mem.grown gn;have akA:∀b∈st.aT,b.id≠key:=fun b hb e=>by
       have:=h.names.aT b hb;simp only[gC.all,ao]at this;rw[e,sP]at this;simp at this
     refine⟨fun b hb=>?_,fun b hb b' la cx=>?_,hm.row,fun b hb r hr h1=>?_,hm.rr⟩
     . rcases fA.1 hb with rfl|hb
       . refine⟨by simp[Ph.nA];exact hB,?_⟩
         simp only[Ph.nA,if_true,heap_alloc_new];have:=jh bF uz;rw[this];rfl
       . exact hm.lQ b hb
     . have cQ:∀b∈st.aT,(ph.nA key w.heap.size).r b.id<w.heap.size:=fun b hb=>(iP.mem.lQ b hb).lt
       rcases fA.1 hb with rfl|hb<;>rcases fA.1 la with rfl|la
       . exact absurd rfl cx
       . have:=cQ b' la;simp only[Ph.nA,if_true]at this ⊢;omega
       . have:=cQ b hb;simp only[Ph.nA,if_true]at this ⊢;omega
       . exact hm.bb b hb b' la cx
     . rcases fA.1 hb with rfl|hb
       . intro Y7;simp only[Ph.nA,if_true]at Y7;have:=(iP.mem.row r hr h1).rm Y7;omega
       . exact hm.br b hb r hr h1
   . refine⟨?_,?_,?_⟩
     . refine fP (st:={st.bn key 1 with aT:=kL ⟨key,e,ls⟩ st.aT}) (fun t s ht=>aP.aB bI (h.names.tmps t s ht)) Y6
     . rw[bR,cj];intro b hb;rcases fA.1 hb with rfl|hb
       . simp only[gC.all,ao];exact⟨hZ (st:=st) (a:=key) (n:=1) (Nat.le_refl _) (by omega),lZ bI uz⟩
       . exact gC.aB bI (h.names.aT b hb)
     . rw[cU,cj];exact fun r hr=>Row.aB bI (h.names.rows r hr)
   . refine da.put (st:={st.bn key 1 with aT:=kL ⟨key,e,ls⟩ st.aT}) (h.nest.next bF rfl bI gn (fun k hk=>by cases hk) rfl (fun b hb=>?_) (fun r hr h1 k hk=>?_))
     . rcases fA.1 hb with rfl|hb
       . exact .inr (by simp[Ph.nA])
       . have:=h.names.aT b hb;simp only[gC.all,ao]at this;exact .inl ⟨b,hb,(bF.r _ this.1).symm⟩
     . have cF:r∈st.rows:=hr;have:=h.names.rows r cF;simp only[Row.all,ao]at this;refine .inl ⟨r,cF,id,h1,?_⟩;unfold Row.bQ at hk ⊢;simp only[Ph.val,bF.v _ this.1];exact hk
theorem Al{w0 w:World}{st:St}{a:Act}{key:Nat}{e:TypeId}{ls:List ah}{dst:Option Tmp}{cY:List Ev}{aZ:St}(h:Sat w0 U ph st a w)(ha:nS st key e ls dst=some (cY,aZ)) :
   cY=[]/\Step w0 U U ph (ph.nA key w.heap.size) st aZ (a.put dst (.pointer (some ⟨w.heap.size,0,none⟩))) w (w.alloc (.cells (ls.map (ah.ae U ph)).toArray e)) none:=by
 unfold nS at ha;split at ha
 . rename_i hc;simp only[ao]at hc;obtain⟨aR,uz⟩:=hc;simp only[af,ax]at ha;obtain⟨rfl,rfl⟩:=ha;refine⟨rfl,xj h aR uz ?_ ?_⟩
   . simp only[aP.all,BE.all,SV.all,V1.all,ah.all,Bool.true_and];exact hZ (Nat.le_refl _) (by omega)
   . simp[aP.ae,BE.ae,SV.ae,V1.ae,ah.ae,Ph.nA]
 . cases ha
end Go.Sx
namespace Go.Sx
open Go.RowKit
variable {U:az}{ph:Ph}{P:Program}
theorem tE{w0 w w':World}{st aZ:St}{a:Act}{b:gC}{cs:List ah}{dst:Option Tmp}{cY:List Ev}(h:Sat w0 U ph st a w)(hs:setCells st b cs dst=some (cY,aZ))(hb:b∈st.aT)
   (hg:w.grownBy w' (some (ph.r b.id))) (hw:w'.heap[ph.r b.id]?=some (.cells (cs.map (ah.ae U ph)).toArray b.ty (0,0))) :
   cY=[]/\Step w0 U U ph ph st aZ (a.put dst undef) w w' (some (ph.r b.id)):=by
 unfold setCells at hs;split at hs
 . rename_i iu;simp only[af,ax]at hs;obtain⟨rfl,rfl⟩:=hs;have hB:=(h.mem.lQ b hb).1;have mem_set:∀y∈(uP st {b with cells:=cs}).aT,(y = {b with cells:=cs})\/(y∈st.aT/\y.id≠b.id):=by
     intro y hy;simp only[uP,List.mem_map]at hy;obtain⟨x,hx,rfl⟩:=hy;split
     . exact .inl rfl
     . rename_i cx;exact .inr ⟨hx,cx⟩
   refine⟨rfl,⟨?_,?_,h.below.grown hg h.below.size (fun k hk=>by cases hk;exact hB),by rw[cA];exact h.defers,?_,?_⟩,cw,hg,fun k hk=>by rw[cj];exact hk,fun y hy=>?_⟩
   rotate_right
   . rw[bR]at hy;rcases mem_set y hy with rfl|⟨hy,_⟩
     . exact .inl ⟨b,hb,rfl⟩
     . exact .inl ⟨y,hy,rfl⟩
   . exact ma (st:=uP st {b with cells:=cs}) h.tmps mb.symm
   . rw[bR,cU];refine⟨fun y hy=>?_,fun y hy y' Qd cx=>?_,fun r hr h1=>?_,fun y hy r hr h1=>?_,h.mem.rr⟩
     . rcases mem_set y hy with rfl|⟨hy,cx⟩
       . exact⟨hB,hw⟩
       . exact(h.mem.lQ y hy).grown hg (fun e=>by
           simp only[af]at e;exact h.mem.bb y hy b hb cx e)
     . rcases mem_set y hy with rfl|⟨hy,Y8⟩<;>rcases mem_set y' Qd with rfl|⟨Qd,KM⟩
       . exact absurd rfl cx
       . exact h.mem.bb b hb y' Qd cx
       . exact h.mem.bb y hy b hb cx
       . exact h.mem.bb y hy y' Qd cx
     . exact(h.mem.row r hr h1).grown hg (fun k hk e=>by
         simp only[af]at e;subst e;exact h.mem.br b hb r hr h1 hk)
     . rcases mem_set y hy with rfl|⟨hy,_⟩
       . exact h.mem.br b hb r hr h1
       . exact h.mem.br y hy r hr h1
   . refine⟨fP (st:=uP st {b with cells:=cs}) h.names.tmps mc,?_,?_⟩
     . rw[bR,cj];intro y hy;rcases mem_set y hy with rfl|⟨hy,_⟩
       . have:=h.names.aT b hb;simp only[gC.all,ao]at this ⊢;exact⟨this.1,iu⟩
       . exact h.names.aT y hy
     . rw[cU,cj];exact h.names.rows
   . refine da.put (st:=uP st {b with cells:=cs}) (h.nest.next cw rfl (fun _ h=>h) hg (fun k hk=>?_) rfl (fun y hy=>?_) (fun r hr h1 k hk=>.inl ⟨r,hr,id,h1,hk⟩))
     . simp only[af]at hk;subst hk;exact⟨h.nest.bz b hb,fun n hn ho e=>((h.nest.oz n hn ho).2 _ e).2.1 b hb rfl⟩
     . rcases mem_set y hy with rfl|⟨hy,_⟩
       . exact .inl ⟨b,hb,rfl⟩
       . exact .inl ⟨y,hy,rfl⟩
 . cases hs
theorem vF(r:List Int)(j j':Nat)(x:Int):(nB r j x).getD j' 0=if j'=j then x else r.getD j' 0:=by
 unfold nB;split
 . rename_i h;by_cases e:j'=j
   . subst e;simp[List.getD,h]
   . have e':j≠j':=fun h=>e h.symm
     simp[List.getD,List.getElem?_set,e,e']
 . rename_i h;by_cases e:j'=j
   . subst e;simp only[if_true,List.getD];rw[List.getElem?_append_right (by omega),List.getElem?_append_right (by simp)]
     simp
   . simp only[e,if_false,List.getD];by_cases h1:j'<r.length
     . rw[List.getElem?_append_left h1]
     . rw[List.getElem?_append_right (by omega)]
       by_cases h2:j'<j
       . rw[List.getElem?_append_left (by simp;omega)]
         simp[List.getElem?_replicate,List.getElem?_eq_none (Nat.le_of_not_lt h1)];split<;>rfl
       . rw[List.getElem?_append_right (by simp;omega)]
         rw[List.getElem?_eq_none (by simp;omega),List.getElem?_eq_none (Nat.le_of_not_lt h1)]
theorem wy(ks:List CK):∀(j0 j:Nat) (r:List Int) (x:Int) (k:CK),ks[j]?=some k->bL ks j0 (nB r (j0+j) x)=(bL ks j0 r).set j (k.val x):=by
 intro j0 j r x k hk;apply List.ext_getElem?;intro j';rw[gZ,List.getElem?_set,cg];have hj:j<ks.length:=(cT.1 hk).1;by_cases e:j=j'
 . subst e;rw[hk];simp only[Option.map_some,vF,if_true,hj]
 . simp only[e,if_false];rw[gZ];cases h:ks[j']? with
   |none=>rfl
   | some k'=>
     simp only[Option.map_some,vF];rw[if_neg (by omega)]
theorem qc(ks:List CK):∀(xs:List (List Int)) (i j:Nat) (x:Int) (k:CK),i<xs.length->ks[j]?=some k->
   aA ks (setAt xs (i:Int) j x)=(aA ks xs).set (i*ks.length+j) (k.val x):=by
 intro xs;induction xs with
 |nil=>intro i j x k hi;simp at hi
 | cons r rs ih=>
   intro i j x k hi hk;have hj:j<ks.length:=(cT.1 hk).1;cases i with
   | zero=>
     simp only[setAt,Int.toNat_natCast,List.modify_zero_cons,aA,Nat.zero_mul,Nat.zero_add];have:=wy ks 0 j r x k hk;rw[Nat.zero_add]at this;rw[this,List.set_append_left _ _ (by rw[cg];exact hj)]
   | succ i=>
     have Tg:=ih i j x k (by simpa using hi) hk
     simp only[setAt,Int.toNat_natCast]at Tg ⊢;simp only[List.modify_succ_cons,aA,Tg];have e:(i+1)*ks.length+j=(bL ks 0 r).length+(i*ks.length+j):=by rw[cg,Nat.add_mul];omega
     rw[e,List.set_append_right _ _ (by omega)]
     simp
theorem tF(xs:List (List Int))(i:Int)(j:Nat)(x:Int):(setAt xs i j x).length=xs.length:=by simp[setAt]
theorem Br{w0 w w':World}{st:St}{a:Act}{key:Nat}{nr:Row}{xs:List (List Int)}{rows:List Row}{dst:Option Tmp}{row:Option Nat}{aH:Ph}{s:aP}{v:Value}
   (h:Sat w0 U ph st a w) (wz:nr.lv=key) (pP:nr.g.all st.has=true) (Uv:nr.g.ae U=true) (aR:st.free key 1=true) (dX:∀r∈rows,r∈st.rows) (hg:w.grownBy w' row)
   (bc:∀k,row=some k->w0.heap.size<=k/\¬ ph.z k/\∀n∈st.aY,n.own=true->(ph.val n.id).ownBlock≠some k)
   (bF:bj st.has U (U.set key (.l xs)) ph aH) (hz:aH.z=ph.z) (ado:(st.bn key 1).has nr.id=true)
   (jI:∀b∈st.aT,row≠some (ph.r b.id)) (fU:∀r∈rows,r.g.ae U=true->∀k,r.bQ U ph=some k->row≠some k)
   (gD:fE w0.heap.size (U.set key (.l xs)) aH nr w') (ia:∀k,nr.bQ (U.set key (.l xs)) aH=some k->row=some k\/w.heap.size<=k)
   (Y6:s.all (st.bn key 1).has=true) (hv:v=s.ae (U.set key (.l xs)) aH) :
   Step w0 U (U.set key (.l xs)) ph aH st ({st.bn key 1 with rows:=dc nr rows}.put dst s) (a.put dst v) w w' row:=by
 have sP:st.has key=false:=cM aR (Nat.le_refl _) (by omega)
 have iP:=h.congr bF hz;have bI:∀k,st.has k=true->(st.bn key 1).has k=true:=fun k hk=>fO hk
 have kM:=fun(q:Row) (hq:q∈st.rows)=>by
   have:=h.names.rows q hq;simpa only[Row.all,ao]using this
 have eB:∀r∈st.rows,r.bQ (U.set key (.l xs)) aH=r.bQ U ph:=fun r hr=>by
   unfold Row.bQ;rw[<- bF.e _ (kM r hr).2.1];simp only[Ph.val,bF.v _ (kM r hr).1]
 have mP:∀r∈st.rows,r.g.ae (U.set key (.l xs))=r.g.ae U:=fun r hr=>(BE.aq bF.e (kM r hr).2.2).symm
 have pI:∀b∈st.aT,aH.r b.id=ph.r b.id:=fun b hb=>by
   have:=h.names.aT b hb;simp only[gC.all,ao]at this;exact(bF.r _ this.1).symm
 have xk:∀k,nr.bQ (U.set key (.l xs)) aH=some k->(∀b∈st.aT,ph.r b.id≠k)/\(∀r∈rows,r.g.ae U=true->r.bQ U ph≠some k):=by
   intro k hk;rcases ia k hk with e|e
   . exact⟨fun b hb he=>jI b hb (by rw[e,he]),fun r hr h1 hf=>fU r hr h1 k hf e⟩
   . refine⟨fun b hb he=>?_,fun r hr h1 hf=>?_⟩
     . have:=(h.mem.lQ b hb).lt;omega
     . have:=(h.mem.row r (dX r hr) h1).rm hf;omega
 refine⟨⟨?_,?_,h.below.grown hg h.below.size (fun k hk=>(bc k hk).1),by rw[cA];exact h.defers,?_,?_⟩,bF,hg,fun k hk=>by rw[cj];exact bI k hk,fun b hb=>?_⟩
 . exact ma (st:={st.bn key 1 with rows:=dc nr rows}) iP.tmps hv
 . rw[bR,cU];refine⟨fun b hb=>(iP.mem.lQ b hb).grown hg (fun e=>jI b hb (by rw[<- e,pI b hb])),iP.mem.bb,fun r hr h1=>?_,fun b hb r hr h1=>?_,fun r hr r' cF kx ho h1 h2=>?_⟩
   . rcases dp.1 hr with rfl|hr
     . exact gD
     . have dH:=dX r hr;rw[mP r dH]at h1;exact(iP.mem.row r dH (by rw[mP r dH];exact h1)).grown hg (fun k hk e=>by
         rw[eB r dH]at hk;exact fU r hr h1 k hk e.symm)
   . rcases dp.1 hr with rfl|hr
     . intro hk;rw[pI b hb]at hk;exact(xk _ hk).1 b hb rfl
     . exact iP.mem.br b hb r (dX r hr) h1
   . rcases dp.1 hr with e1|q<;>rcases dp.1 cF with e2|q'
     . exact absurd (by rw[e1,e2]) kx
     . intro k hk cO;rw[e1]at hk;rw[eB r' (dX r' q')]at cO;rw[mP r' (dX r' q')]at h2;exact(xk k hk).2 r' q' h2 cO
     . intro k hk cO;rw[e2]at cO;rw[eB r (dX r q)]at hk;rw[mP r (dX r q)]at h1;exact(xk k cO).2 r q h1 hk
     . exact iP.mem.rr r (dX r q) r' (dX r' q') kx ho h1 h2
 . refine⟨?_,?_,?_⟩
   . exact fP (st:={st.bn key 1 with rows:=dc nr rows}) (fun t s ht=>aP.aB bI (h.names.tmps t s ht)) Y6
   . rw[bR,cj];exact fun b hb=>gC.aB bI (h.names.aT b hb)
   . rw[cU,cj];intro r hr;rcases dp.1 hr with rfl|hr
     . simp only[Row.all,ao];have:(st.bn key 1).has key=true:=hZ (Nat.le_refl _) (by omega)
       exact⟨ado,by rw[wz];exact this,BE.aB bI pP⟩
     . exact Row.aB bI (h.names.rows r (dX r hr))
 . refine da.put (st:={st.bn key 1 with rows:=dc nr rows}) (h.nest.next bF hz bI hg (fun k hk=>(bc k hk).2) rfl (fun b hb=>.inl ⟨b,hb,pI b hb⟩) (fun r hr h1 k hk=>?_))
   rcases dp.1 hr with rfl|hr
   . rcases ia k hk with e|e
     . exact .inr (.inr (.inl e))
     . exact .inr (.inl e)
   . have dH:=dX r hr;exact .inl ⟨r,dH,id,by rw[<- mP r dH];exact h1,by rw[<- eB r dH];exact hk⟩
 . rw[bR]at hb;exact .inl ⟨b,hb,rfl⟩
theorem jV{w0 w w':World}{st:St}{a:Act}{key:Nat}{e:TypeId}{ks:List CK}{xs:List (List Int)}{rows:List Row}{dst:Option Tmp}{sl:Option Addr×Nat×Nat}{row:Option Nat}{G:BE}
   (h:Sat w0 U ph st a w) (pP:G.all st.has=true) (Uv:G.ae U=true) (aR:st.free key 1=true) (lS:0<ks.length) (dX:∀r∈rows,r∈st.rows) (hg:w.grownBy w' row)
   (bc:∀k,row=some k->w0.heap.size<=k/\¬ ph.z k/\∀n∈st.aY,n.own=true->(ph.val n.id).ownBlock≠some k)
   (jI:∀b∈st.aT,row≠some (ph.r b.id)) (fU:∀r∈rows,r.g.ae U=true->∀k,r.bQ U ph=some k->row≠some k)
   (bG:w'.ownsRow w0.heap.size e ks.length (.slice sl.1 sl.2.1 sl.2.2) xs.length (aA ks xs)) (ia:(Value.slice sl.1 sl.2.1 sl.2.2).ownBlock=row\/(Value.slice sl.1 sl.2.1 sl.2.2).ownBlock=some w.heap.size\/(Value.slice sl.1 sl.2.1 sl.2.2).ownBlock=none) :
   Step w0 U (U.set key (.l xs)) ph (ph.tG key sl) st ({st.bn key 1 with rows:=dc ⟨key,e,ks,key,true,G⟩ rows}.put dst ⟨G,.v (.one (.s key))⟩)
     (a.put dst (.slice sl.1 sl.2.1 sl.2.2)) w w' row:=by
 have sP:st.has key=false:=cM aR (Nat.le_refl _) (by omega)
 have cx:∀k,st.has k=true->k≠key:=fun k hk e=>by rw[e,sP]at hk;cases hk
 have bF:bj st.has U (U.set key (.l xs)) ph (ph.tG key sl):=⟨fun k hk=>by simp[az.set,cx k hk],fun _ _=>rfl,fun k hk=>by simp[Ph.tG,cx k hk]⟩
 have fq:(ph.tG key sl).val key = .slice sl.1 sl.2.1 sl.2.2:=by simp[Ph.val,Ph.tG]
 have vG:(st.bn key 1).has key=true:=hZ (Nat.le_refl _) (by omega)
 refine Br (nr:=⟨key,e,ks,key,true,G⟩) h rfl pP Uv aR dX hg bc bF rfl vG jI fU ⟨lS,?_⟩ (fun k hk=>?_) ?_ ?_
 . simp only[if_true,fq,az.set,DV.list];exact bG
 . simp only[Row.bQ,Bool.true_or,if_true,fq]at hk;rcases ia with e|e|e
   . exact .inl (by rw[<- e,hk])
   . rw[hk]at e;simp only[af]at e;exact .inr (by omega)
   . rw[hk]at e;cases e
 . simp only[aP.all,SV.all,V1.all,ah.all,ao];exact⟨BE.aB (fun k hk=>fO hk) pP,vG⟩
 . have adp:G.ae (U.set key (.l xs))=true:=by rw[<- BE.aq bF.e pP];exact Uv
   simp[aP.ae,adp,SV.ae,V1.ae,ah.ae,fq]
theorem Im{w0 w:World}{st:St}{a:Act}{key:Nat}{e:TypeId}{ks:List CK}{xs:List (List Int)}{dst:Option Tmp}{G:BE}
   (h:Sat w0 U ph st a w) (pP:G.all st.has=true) (Y9:G.ae U=false) (aR:st.free key 1=true) :
   Step w0 U (U.set key (.l xs)) ph ph st ({st.bn key 1 with rows:=dc ⟨key,e,ks,key,true,G⟩ st.rows}.put dst ⟨G,.v (.one (.s key))⟩) (a.put dst undef) w w none:=by
 have sP:st.has key=false:=cM aR (Nat.le_refl _) (by omega)
 have cx:∀k,st.has k=true->k≠key:=fun k hk e=>by rw[e,sP]at hk;cases hk
 have bF:bj st.has U (U.set key (.l xs)) ph ph:=⟨fun k hk=>by simp[az.set,cx k hk],fun _ _=>rfl,fun k hk=>rfl⟩
 have iP:=h.congr bF;have bI:∀k,st.has k=true->(st.bn key 1).has k=true:=fun k hk=>fO hk
 have EJ:G.ae (U.set key (.l xs))=false:=by rw[<- BE.aq bF.e pP];exact Y9
 have ia:(st.bn key 1).has key=true:=hZ (Nat.le_refl _) (by omega)
 refine⟨⟨?_,?_,h.below,by rw[cA];exact h.defers,?_,?_⟩,bF,cd w,fun k hk=>by rw[cj];exact bI k hk,fun b hb=>.inl ⟨b,by rw[bR]at hb;exact hb,rfl⟩⟩
 . refine ma (st:={st.bn key 1 with rows:=dc ⟨key,e,ks,key,true,G⟩ st.rows}) iP.tmps ?_;simp only[aP.ae,EJ];rfl
 . rw[bR,cU];have hk:=iP.mem;have ho:∀r∈dc ⟨key,e,ks,key,true,G⟩ st.rows,r.g.ae (U.set key (.l xs))=true->r∈st.rows:=fun r hr h1=>by
     rcases dp.1 hr with rfl|hr
     . rw[EJ]at h1;cases h1
     . exact hr
   exact⟨hk.lQ,hk.bb,fun r hr h1=>hk.row r (ho r hr h1) h1,fun b hb r hr h1=>hk.br b hb r (ho r hr h1) h1,fun r hr r' cF cx hw h1 h2=>hk.rr r (ho r hr h1) r' (ho r' cF h2) cx hw h1 h2⟩
 . refine⟨?_,?_,?_⟩
   . refine fP (st:={st.bn key 1 with rows:=dc ⟨key,e,ks,key,true,G⟩ st.rows}) (fun t s ht=>aP.aB bI (h.names.tmps t s ht)) ?_
     simp only[aP.all,SV.all,V1.all,ah.all,ao];exact⟨BE.aB bI pP,ia⟩
   . rw[bR,cj];exact fun b hb=>gC.aB bI (h.names.aT b hb)
   . rw[cU,cj];intro r hr;rcases dp.1 hr with rfl|hr
     . simp only[Row.all,ao];exact⟨ia,ia,BE.aB bI pP⟩
     . exact Row.aB bI (h.names.rows r hr)
 . refine da.put (st:={st.bn key 1 with rows:=dc ⟨key,e,ks,key,true,G⟩ st.rows}) (iP.nest.next (cw (p:=st.has)) rfl bI (cd w) (fun k hk=>by cases hk) rfl (fun b hb=>.inl ⟨b,hb,rfl⟩) (fun r hr h1 k hk=>?_))
   rcases dp.1 hr with rfl|hr
   . rw[EJ]at h1;cases h1
   . exact .inl ⟨r,hr,id,h1,hk⟩
end Go.Sx
namespace Go.Sx
open Go.RowKit
variable {U:az}{ph:Ph}{P:Program}
def DV.kind:CT->DV->Bool
 |.c (.i _),.i _=>true
 |.c .b,.b _=>true
 |.c .f,.i _=>true
 |.s _ _,.l _=>true
 |.n _ _,.l _=>true
 |_,_=>false
def kinds:List CT->List DV->Bool
 | [],[]=>true
 |c::cs,d::ds=>d.kind c&&kinds cs ds
 |_,_=>false
structure cV where
 sig:bN
 pre:List DV->Prop
 rel:List DV->List DV->Prop
 ne:∀ds,pre ds->∃rs,kinds (bD sig.res) rs=true/\rel ds rs
structure bO where
 get:FuncId->Option cV
 fl:Int->Prop
instance :CoeFun bO (fun _=>FuncId->Option cV):=⟨bO.get⟩
def bO.at(Γ:bO)(fl:Int->Prop):bO:=⟨Γ.get,fl⟩
def defs:List CT->List DV
 | []=>[]
 |.c (.i _)::cs=>.i 0::defs cs
 |.c .b::cs=>.b false::defs cs
 |.c .f::cs=>.i 0::defs cs
 |.s _ _::cs=>.l []::defs cs
 |.n _ _::cs=>.l []::defs cs
theorem gK:∀cs:List CT,kinds cs (defs cs)=true/\(defs cs).length=cs.length:=by
 intro cs;induction cs with
 |nil=>exact⟨rfl,rfl⟩
 | cons c cs ih=>
   cases c with
   |c k=>cases k<;>simp[defs,kinds,DV.kind,ih]
   |s e ks=>simp[defs,kinds,DV.kind,ih]
   |n e aK=>simp[defs,kinds,DV.kind,ih]
def Ev.holds(Γ:bO)(e:Ev)(k:az->Prop)(U:az):Prop:=
 match e with
 |.aG p=>p.ae U=true/\k U
 |.call f g args res base=>(g.ae U=true->∃c,Γ f=some c/\c.pre (args.map (DE.ae U))/\
     ∀rs,kinds (bD res) rs=true->c.rel (args.map (DE.ae U)) rs->k (U.ar base rs))/\(g.ae U=false->k (U.ar base (defs (bD res))))
 |.ch id op=>k (U.set id (.l (op.ae U)))
 |.dd p e=>(p.ae U=true->k U)/\(p.ae U=false->Γ.fl (e.ae U))
theorem Ev.iQ{Γ:bO}{e:Ev}{k k':az->Prop}{U:az}(hk:∀U,k U->k' U)(h:e.holds Γ k U):e.holds Γ k' U:=by
 cases e with
 |aG p=>exact⟨h.1,hk _ h.2⟩
 | call f g args res base=>
   refine⟨fun hg=>?_,fun hg=>hk _ (h.2 hg)⟩
   obtain⟨c,h1,h2,h3⟩:=h.1 hg;exact⟨c,h1,h2,fun rs a b=>hk _ (h3 rs a b)⟩
 |ch id op=>exact hk _ h
 |dd p e=>exact⟨fun hp=>hk _ (h.1 hp),h.2⟩
def aN(Γ:bO):List Ev->(az->Prop)->az->Prop
 | [],k,U=>k U
 |e::es,k,U=>e.holds Γ (aN Γ es k) U
theorem fe{Γ:bO}{k:az->Prop}:∀ {es Qe:List Ev} {U:az},aN Γ (es++Qe) k U=aN Γ es (aN Γ Qe k) U:=by
 intro es;induction es with
 |nil=>intro Qe U;rfl
 | cons e es ih=>
   intro Qe U;have:aN Γ (es++Qe) k=aN Γ es (aN Γ Qe k):=funext fun _=>ih
   simp only[List.cons_append,aN,this]
def sr(ph:Ph):ah->Option Nat
 |.p id _=>some (ph.r id)
 |.pi id _ _ _ _=>some (ph.r id)
 |.ep row _ _ _=>(ph.val row).ownBlock
 |_=>none
def pJ(st:St)(ph:Ph):Op->Option Nat
 |.store _ a _=>(bl st (.c true) a).bind (sr ph)
 | .call {callee:=.builtin .append,args,..}=>match args.toList with
   | x::_=>match bl st (.c true) x with
     |some (.s row)=>(ph.val row).ownBlock
     |_=>none
   | []=>none
 | .call {callee:=.builtin .copy,args,..}=>match args.toList with
   | x::_=>match bl st (.c true) x with
     |some (.s row)=>(ph.val row).ownBlock
     |_=>none
   | []=>none
 | .call {callee:=.builtin .clear,args,..}=>match args.toList with
   | x::_=>match bl st (.c true) x with
     |some (.s row)=>(ph.val row).ownBlock
     |_=>none
   | []=>none
 |_=>none
def nT(o:Oper)(a a':Act):Next->Prop
 |.value v=>a'=a.put o.dst v
 |.skip=>a'=a.put o.dst undef
 |_=>False
def mK(Γ:bO)(P:Program)(w0:World)(U:az)(ph:Ph)(st aZ:St)(o:Oper)(a:Act)(w:World)(k:az->Prop):Prop:=
 ∃nx w' a' ak aH,(execOp a.eval o).run P w = .ok nx w'/\nT o a a' nx/\Step w0 U ak ph aH st aZ a' w w' (pJ st ph o.op)/\k ak
theorem C7{cells:List ah}{o:Nat}{l m:ah}(hc:cells[o]?=some l)(h:m.ae U ph=l.ae U ph):(cells.set o m).map (ah.ae U ph)=cells.map (ah.ae U ph):=by
 rw[List.map_set,h];apply List.ext_getElem?;intro q;rw[List.getElem?_set];split
 . rename_i hm;subst hm;obtain⟨xh,tz⟩:=cT.1 hc;simp[xh,tz]
 . rfl
theorem vH{x:IE}{l:ah}{sz o j n:Nat}{cells r:List ah}(h:oH x l sz cells o j (n+1)=some r):∃c m,cells[o]?=some c/\oH x l sz (cells.set o m) (o+sz) (j+1) n=some r/\
   (x.ae U=(j:Int)->m.ae U ph=l.ae U ph)/\(x.ae U≠(j:Int)->m.ae U ph=c.ae U ph):=by
 simp only[oH]at h;split at h
 . rename_i k a k' b hc;split at h
   . rename_i hk;subst hk;exact⟨_,_,hc,h,fun e=>by simp[ah.ae,IE.ae,e],fun e=>by simp[ah.ae,IE.ae,e]⟩
   . cases h
 . rename_i p q hc;exact⟨_,_,hc,h,fun e=>by simp[ah.ae,BE.ae,IE.ae,e],fun e=>by simp[ah.ae,BE.ae,IE.ae,e]⟩
 . cases h
theorem C8{x:IE}{l:ah}{sz:Nat}:∀ {n j:Nat} {cells r:List ah} {o:Nat},oH x l sz cells o j n=some r->x.ae U<(j:Int)->r.length=cells.length/\r.map (ah.ae U ph)=cells.map (ah.ae U ph):=by
 intro n;induction n with
 |zero=>intro j cells r o h _;simp only[oH,af]at h;subst h;exact⟨rfl,rfl⟩
 | succ n ih=>
   intro j cells r o h cQ;obtain⟨c,m,hc,h',_,h2⟩:=vH (U:=U) (ph:=ph) h;obtain⟨e1,e2⟩:=ih h' (by omega)
   exact⟨by simpa using e1,by rw[e2,C7 hc (h2 (by omega))]⟩
theorem C9{x:IE}{l:ah}{sz:Nat}:∀ {n j:Nat} {cells r:List ah} {o:Nat},oH x l sz cells o j n=some r->∀i:Nat,x.ae U=((j+i:Nat):Int)->i<n->
   r.length=cells.length/\o+i*sz<cells.length/\r.map (ah.ae U ph)=(cells.map (ah.ae U ph)).set (o+i*sz) (l.ae U ph):=by
 intro n;induction n with
 |zero=>intro j cells r o _ i _ hi;omega
 | succ n ih=>
   intro j cells r o h i hx hi;obtain⟨c,m,hc,h',h1,h2⟩:=vH (U:=U) (ph:=ph) h;have cQ:o<cells.length:=(cT.1 hc).1;cases i with
   | zero=>
     simp only[Nat.add_zero]at hx;obtain⟨e1,e2⟩:=C8 (U:=U) (ph:=ph) h' (by omega)
     refine⟨by simpa using e1,by simpa using cQ,?_⟩
     rw[e2,List.map_set,h1 hx];simp
   | succ i=>
     obtain⟨e1,e2,e3⟩:=ih h' i (by rw[hx];congr 1;omega) (by omega)
     have hs:o+(i+1)*sz=o+sz+i*sz:=by rw[Nat.add_mul];omega
     refine⟨by simpa using e1,by simpa[hs]using e2,?_⟩
     rw[e3,hs,C7 hc (h2 (by omega))]
theorem zr{cells KN:List ah}(h:cells.map (ah.ae U ph)=KN.map (ah.ae U ph))(off:Nat)(ls:List ah):(gJ cells off ls).map (ah.ae U ph)=(gJ KN off ls).map (ah.ae U ph):=by
 rw[lq,lq,h]
theorem Bs{x:IE}{sz n:Nat}{i:Nat}(hx:x.ae U=(i:Int))(hi:i<n):∀ {ls cells r:List ah} {off:Nat},tH x sz n cells off ls=some r->
   r.length=cells.length/\(0<ls.length->off+i*sz+ls.length<=cells.length)/\r.map (ah.ae U ph)=(gJ cells (off+i*sz) ls).map (ah.ae U ph):=by
 intro ls;induction ls with
 |nil=>intro cells r off h;simp only[tH,af]at h;subst h;exact⟨rfl,fun h=>by simp at h,rfl⟩
 | cons l ls ih=>
   intro cells r off h;simp only[tH]at h;split at h
   . rename_i cs iu;obtain⟨e1,e2,e3⟩:=C9 (U:=U) (ph:=ph) iu i (by rw[hx];simp) hi
     obtain⟨f1,f2,f3⟩:=ih h;refine⟨by rw[f1,e1],fun _=>?_,?_⟩
     . rcases Nat.eq_zero_or_pos ls.length with h0|h0
       . simp only[List.length_cons,h0];omega
       . have:=f2 h0;simp only[List.length_cons];omega
     . rw[f3];simp only[gJ];rw[show off+1+i*sz=off+i*sz+1 by omega]
       exact zr (by rw[e3,List.map_set]) _ _
   . cases h
theorem iw{Γ:bO}{p:BE}{es:List Ev}{k:az->Prop}(h:aN Γ (.aG p::es) k U):p.ae U=true/\aN Γ es k U:=h
theorem b9:(BE.c true).ae U=true:=rfl
theorem lT{B:Nat}{w0 w:World}{st:St}{a:Act}(hs:Sat w0 U ph st a w){r:Row}(bd:r∈st.rows)(bG:r.own=true)(kf:r.g.ae U=true){k:Nat}(hk:(ph.val r.id).ownBlock=some k) :
   (w0.heap.size<=k/\¬ ph.z k/\∀n∈st.aY,n.own=true->(ph.val n.id).ownBlock≠some k)/\(∀b∈st.aT,some k≠some (ph.r b.id))/\∀q∈st.rows,q.id≠r.id->q.g.ae U=true->∀k',q.bQ U ph=some k'->some k≠some k':=by
 have eB:r.bQ U ph=some k:=by simp[Row.bQ,bG,hk]
 have bc:=hs.mem.row r bd kf;have cP:=bc.2;rw[if_pos bG]at cP;refine⟨⟨(cP.lt k hk).1,hs.nest.rz r bd bG kf k eB,fun n hn ho e=>((hs.nest.oz n hn ho).2 _ e).2.2.1 r bd kf eB⟩,fun b hb e=>?_,fun q hq cx Io k' cO e=>?_⟩
 . simp only[af]at e;exact hs.mem.br b hb r bd kf (by rw[eB,e])
 . simp only[af]at e;subst e;exact hs.mem.rr r bd q hq (fun e=>cx e.symm) bG kf Io k eB cO
theorem qd{w0 w w':World}{st:St}{a:Act}{dst:Option Tmp}{key:Nat}{r:Row}{kY:List (List Int)}{s:aP}{v:Value}(hs:Sat w0 U ph st a w)(bd:r∈st.rows)(bG:r.own=true)(kf:r.g.ae U=true)
   (aR:st.free key 1=true) (ia:w'.ownsRow w0.heap.size r.e r.ks.length (ph.val r.id) kY.length (aA r.ks kY)) (gn:w.grownBy w' (ph.val r.id).ownBlock)
   (Y6:s.all (st.bn key 1).has=true) (hv:v=s.ae (U.set key (.l kY)) ph) :
   Step w0 U (U.set key (.l kY)) ph ph st ({st.bn key 1 with rows:=dc {r with lv:=key} (st.rows.filter fun z=>decide (z.id≠r.id)) }.put dst s) (a.put dst v) w w' (ph.val r.id).ownBlock:=by
 have sP:st.has key=false:=cM aR (Nat.le_refl _) (by omega)
 have cx:∀k,st.has k=true->k≠key:=fun k hk e=>by rw[e,sP]at hk;cases hk
 have bF:bj st.has U (U.set key (.l kY)) ph ph:=⟨fun k hk=>by simp[az.set,cx k hk],fun _ _=>rfl,fun _ _=>rfl⟩
 have hn:=hs.names.rows r bd;simp only[Row.all,ao]at hn;have qe:∀q∈st.rows.filter (fun z=>decide (z.id≠r.id)),q∈st.rows/\q.id≠r.id:=fun q hq=>by
   have:=List.mem_filter.1 hq;exact⟨this.1,by simpa using this.2⟩
 refine Br (nr:={r with lv:=key}) hs rfl hn.2.2 kf aR (fun q hq=>(qe q hq).1) gn (fun k hk=>(lT (B:=0) hs bd bG kf hk).1) bF rfl (fO hn.1)
   (fun b hb e=>(lT (B:=0) hs bd bG kf e).2.1 b hb rfl) (fun q hq Io k hk e=>(lT (B:=0) hs bd bG kf e).2.2 q (qe q hq).1 (qe q hq).2 Io k hk rfl)
   ⟨(hs.mem.row r bd kf).1,?_⟩ (fun k hk=>.inl ?_) Y6 hv
 . rw[if_pos bG];simp only[az.set,if_true,DV.list];exact ia
 . simpa[Row.bQ,bG]using hk
theorem qg{Γ:bO}{w0 w w':World}{st:St}{a:Act}{o:Oper}{t:TypeId}{x y:Operand}{v:V1}{key:Nat}{k:az->Prop}{r:Row}{sz j g cap:Nat}{z:IE}{op:cZ}{kY:List (List Int)}(hs:Sat w0 U ph st a w)(ho:o.op = .store t x y)
   (hl:bl st (.c true) x=some (.ep r.id sz z j)) (bd:r∈st.rows) (bG:r.own=true) (kf:r.g.ae U=true)
   (aR:st.free key 1=true) (bc:fE w0.heap.size U ph r w) (fq:ph.val r.id = .slice (some ⟨g,0,none⟩) (U r.lv).list.length cap) (hBg:w0.heap.size<=g) (Bt:op.ae U=kY) (nL:kY.length=(U r.lv).list.length)
   (dB:(Instr.storeAt t ((ah.ep r.id sz z j).ae U ph) (v.ae U ph)).run P w = .ok () w') (ia:w'.ownsRow w0.heap.size r.e r.ks.length (.slice (some ⟨g,0,none⟩) (U r.lv).list.length cap) (U r.lv).list.length (aA r.ks kY)) (gn:w.grownBy w' (some g))
   (cy:∀w',(Instr.storeAt t ((ah.ep r.id sz z j).ae U ph) (v.ae U ph)).run P w = .ok () w'->(execOp a.eval o).run P w = .ok .skip w') (hk:aN Γ [.ch key op] k U) :
   mK Γ P w0 U ph st ({st.bn key 1 with rows:=dc {r with lv:=key} (st.rows.filter fun z=>decide (z.id≠r.id)) }.put o.dst jk) o a w k:=by
 have cO:k (U.set key (.l kY)):=by rw[<- Bt];exact hk
 have KO:(ph.val r.id).ownBlock=some g:=by rw[fq];rfl
 have hW:pJ st ph o.op=(ph.val r.id).ownBlock:=by simp[ho,pJ,hl,sr]
 refine⟨.skip,_,_,U.set key (.l kY),ph,cy _ dB,rfl,?_,cO⟩;rw[hW];exact qd hs bd bG kf aR (by rw[fq,nL];exact ia) (by rw[KO];exact gn) mc mb.symm
theorem Am(x:Bool):Value.bool x=CK.b.val (if x=true then 1 else 0):=by cases x<;>rfl
theorem qh:∀ {ks:List CK} {ls:List ah} {xs:List (Sum IE BE)},ei ks ls=some xs->∀(pre:List Int) (j:Nat),pre.length=j->ls.map (ah.ae U ph)=bL ks j (pre++xs.map (bV U)):=by
 intro ks;induction ks with
 | nil=>intro ls xs h pre j hj;cases ls with
   |nil=>rfl
   |cons l ls=>simp[ei]at h
 | cons k ks ih=>intro ls xs h pre j hj;cases ls with
   |nil=>simp[ei]at h
   | cons l ls=>
     simp only[ei]at h;split at h
     . rename_i x kY hx nP;simp only[af]at h;subst h;have h1:=ih nP (pre++[bV U x]) (j+1) (by simp[hj])
       simp only[List.map_cons,bL];have e1:pre++bV U x::kY.map (bV U)=(pre++[bV U x])++kY.map (bV U):=by simp
       rw[e1,<- h1];congr 1;have e2:((pre++[bV U x])++kY.map (bV U)).getD j 0=bV U x:=by
         subst hj;simp[cH]
       rw[e2];unfold mf at hx;split at hx
       . split at hx
         . rename_i hk;subst hk;simp only[af]at hx;subst hx;rfl
         . cases hx
       . simp only[af]at hx;subst hx;rename_i b;exact Am _
       . cases hx
     . cases h
theorem mQ:∀ {ks:List CK} {ls:List ah} {xs:List (Sum IE BE)},ei ks ls=some xs->ls.length=ks.length/\xs.length=ks.length:=by
 intro ks;induction ks with
 | nil=>intro ls xs h;cases ls with
   |nil=>simp only[ei,af]at h;subst h;exact⟨rfl,rfl⟩
   |cons l ls=>simp[ei]at h
 | cons k ks ih=>intro ls xs h;cases ls with
   |nil=>simp[ei]at h
   | cons l ls=>
     simp only[ei]at h;split at h
     . rename_i x kY hx nP;simp only[af]at h;subst h;obtain⟨h1,h2⟩:=ih nP;exact⟨by simp[h1],by simp[h2]⟩
     . cases h
theorem oJ{kd:CK}{l:ah}{x:Sum IE BE}(h:mf kd l=some x):l.ae U ph=kd.val (bV U x):=by
 unfold mf at h;split at h
 . split at h
   . rename_i hk;subst hk;simp only[af]at h;subst h;rfl
   . cases h
 . simp only[af]at h;subst h;exact Am _
 . cases h
theorem Da{Γ:bO}{w0 w:World}{st:St}{a:Act}{o:Oper}{t:TypeId}{x y:Operand}{v:V1}{key:Nat}{k:az->Prop}{r:Row}{sz j:Nat}{z:IE}{e:Sum IE BE}{kd:CK}{lf:ah}(hs:Sat w0 U ph st a w)(ho:o.op = .store t x y)
   (hl:bl st (.c true) x=some (.ep r.id sz z j)) (hv:jM st (.c true) y=some v) (Ao:v.leaves=[lf]) (Y4:mf kd lf=some e) (hlen:v.leaves.length=P.cellsOf t) (bd:r∈st.rows) (bG:r.own=true) (kf:r.g.ae U=true)
   (sQ:r.ks.length=sz) (Uw:r.ks[j]?=some kd) (aR:st.free key 1=true) (h0:0<=z.ae U) (h1:z.ae U<((U r.lv).list.length:Int))
   (cy:∀w',(Instr.storeAt t ((ah.ep r.id sz z j).ae U ph) (v.ae U ph)).run P w = .ok () w'->(execOp a.eval o).run P w = .ok .skip w') (hk:aN Γ [.ch key (.set r.lv z j e)] k U) :
   mK Γ P w0 U ph st ({st.bn key 1 with rows:=dc {r with lv:=key} (st.rows.filter fun z=>decide (z.id≠r.id)) }.put o.dst jk) o a w k:=by
 subst sQ;have bc:=hs.mem.row r bd kf;have cP:=bc.2;rw[if_pos bG]at cP;obtain⟨ad,cap,iH,_⟩:=iz bc h0 h1;have fq:ph.val r.id = .slice (some ad) (U r.lv).list.length cap:=by simp[Ph.val,iH]
 rw[fq]at cP;have had:∃g,ad=⟨g,0,none⟩/\w0.heap.size<=g:=by
   rcases cP.2 with⟨e1,_⟩|⟨g,nN,cur,e1,hg,_⟩
   . simp at e1
   . simp only[Value.slice.injEq,af]at e1;exact⟨g,e1.1,hg⟩
 obtain⟨g,rfl,hBg⟩:=had;have hj:j<r.ks.length:=(cT.1 Uw).1;obtain⟨i,hi⟩:∃i:Nat,z.ae U=(i:Int):=⟨(z.ae U).toNat,by omega⟩
 have KP:i<(U r.lv).list.length:=by omega
 have EN:i*r.ks.length+j<(U r.lv).list.length*r.ks.length:=by
   have:(i+1)*r.ks.length<=(U r.lv).list.length*r.ks.length:=Nat.mul_le_mul_right _ (by omega)
   rw[Nat.add_mul]at this;omega
 have kZ:=cP.cellAt (i*r.ks.length+j) EN;have hfz:=cP.frozenAt (i*r.ks.length+j);obtain⟨ia,gn⟩:=cP.stored (i*r.ks.length+j) (kd.val (bV U e));have iu:∃u,w.cell? ⟨g,i*r.ks.length+j,none⟩=some u:=by
   rw[kZ];have:i*r.ks.length+j<(aA r.ks (U r.lv).list).length:=by rw[bM];exact EN
   exact⟨_,dJ this⟩
 obtain⟨u,hu⟩:=iu;have dB:(Instr.storeAt t ((ah.ep r.id r.ks.length z j).ae U ph) (v.ae U ph)).run P w = .ok () (w.setCell ⟨g,i*r.ks.length+j,none⟩ (kd.val (bV U e))):=by
   have rA:0<P.cellsOf t:=by rw[<- hlen,Ao];simp
   have lr:P.cellsOf t=1:=by rw[<- hlen,Ao];rfl
   simp only[Instr.storeAt,ah.ae,iH,Instr.sureAddr,Sem.run_bind,Sem.run_pure,Result.andThen_ok,storeVar,bZ rA,V1.fc,Ao];rw[if_neg (by simp[lr])]
   simp only[List.map_cons,List.map_nil,oJ (U:=U) (ph:=ph) Y4,storeCells,Sem.run_bind,hi,Int.toNat_natCast,gg,Nat.add_zero,iy,Nat.zero_add];rw[run_store P w _ _ _ (CK.mN _ _)];simp[stored,hu,hfz]
 refine qg hs ho hl bd bG kf aR bc fq hBg (kY:=setAt (U r.lv).list (z.ae U) j (bV U e)) rfl (tF ..) dB ?_ gn cy hk;rw[hi,qc r.ks _ i j _ _ KP Uw];exact ia
theorem xl{ks:List CK}{ls:List ah}{r:List (Sum IE BE)}(h:ei ks ls=some r):bL ks 0 (r.map (bV U))=ls.map (ah.ae U ph):=by
 have:=qh (U:=U) (ph:=ph) h [] 0 rfl;simpa using this.symm
theorem rB:∀(vs cells:List Value) (off k:Nat),off+k+vs.length<=cells.length->
   (vs.zipIdx k).foldl (fun cs (x:Value×Nat)=>cs.set (off+x.2) x.1) cells=cells.take (off+k)++vs++cells.drop (off+k+vs.length):=by
 intro vs;induction vs with
 |nil=>intro cells off k h;simp
 | cons v vs ih=>
   intro cells off k h;simp only[List.length_cons]at h;simp only[List.zipIdx_cons,List.foldl_cons];rw[ih _ off (k+1) (by simp;omega)]
   have e1:(cells.set (off+k) v).take (off+(k+1))=cells.take (off+k)++[v]:=by
     rw[show off+(k+1)=(off+k)+1 by omega,List.take_succ_eq_append_getElem (by simp;omega)]
     simp[List.take_set_of_le]
   have e2:(cells.set (off+k) v).drop (off+(k+1)+vs.length)=cells.drop (off+k+(vs.length+1)):=by
     rw[List.drop_set_of_lt (by omega)]
     congr 1;omega
   rw[e1,e2];simp
theorem wA(ks:List CK)(row:List Int):∀(xs:List (List Int)) (i:Nat),i<xs.length->aA ks (xs.modify i (fun _=>row))=(aA ks xs).take (i*ks.length)++(bL ks 0 row++(aA ks xs).drop (i*ks.length+ks.length)):=by
 intro xs;induction xs with
 |nil=>intro i hi;simp at hi
 | cons r rs ih=>
   intro i hi;have hl:=cg ks 0 r;cases i with
   | zero=>
     simp only[List.modify_zero_cons,aA,Nat.zero_mul,List.take_zero,List.nil_append,Nat.zero_add];rw[List.drop_append_of_le_length (by omega),List.drop_of_length_le (by omega),List.nil_append]
   | succ i=>
     simp only[List.modify_succ_cons,aA];rw[ih i (by simpa using hi)]
     have e:(i+1)*ks.length=ks.length+i*ks.length:=by rw[Nat.add_mul];omega
     rw[e,List.take_append,List.drop_append,hl,show ks.length+i*ks.length-ks.length=i*ks.length by omega,show ks.length+i*ks.length+ks.length-ks.length=i*ks.length+ks.length by omega]
     rw[List.take_of_length_le (l:=bL ks 0 r) (by omega),List.drop_of_length_le (l:=bL ks 0 r) (by omega)]
     simp
theorem uQ(ks:List CK):∀(j:Nat) (r:List Int),∀u∈bL ks j r,u.oneCell'=true:=by
 induction ks with
 |nil=>intro j r u hu;simp[bL]at hu
 | cons k ks ih=>
   intro j r u hu;simp only[bL,bq]at hu;rcases hu with rfl|hu
   . exact CK.mN _ _
   . exact ih _ _ u hu
theorem Bu{Γ:bO}{w0 w:World}{st:St}{a:Act}{o:Oper}{t:TypeId}{x y:Operand}{v:V1}{key:Nat}{k:az->Prop}{r:Row}{z:IE}{es:List (Sum IE BE)}(hs:Sat w0 U ph st a w)(ho:o.op = .store t x y)
   (hl:bl st (.c true) x=some (.ep r.id r.ks.length z 0)) (hv:jM st (.c true) y=some v) (CV:v.leaves.map (ah.ae U ph)=bL r.ks 0 (es.map (bV U))) (hlen:v.leaves.length=P.cellsOf t) (bd:r∈st.rows) (bG:r.own=true) (kf:r.g.ae U=true)
   (aR:st.free key 1=true) (h0:0<=z.ae U) (h1:z.ae U<((U r.lv).list.length:Int))
   (cy:∀w',(Instr.storeAt t ((ah.ep r.id r.ks.length z 0).ae U ph) (v.ae U ph)).run P w = .ok () w'->(execOp a.eval o).run P w = .ok .skip w') (hk:aN Γ [.ch key (.xm r.lv z es)] k U) :
   mK Γ P w0 U ph st ({st.bn key 1 with rows:=dc {r with lv:=key} (st.rows.filter fun z=>decide (z.id≠r.id)) }.put o.dst jk) o a w k:=by
 have bc:=hs.mem.row r bd kf;have cP:=bc.2;rw[if_pos bG]at cP;obtain⟨ad,cap,iH,_⟩:=iz bc h0 h1;have fq:ph.val r.id = .slice (some ad) (U r.lv).list.length cap:=by simp[Ph.val,iH]
 rw[fq]at cP;obtain⟨nL,⟨e1,_⟩|⟨g,nN,cur,e1,hg,hh,sJ,Ip,iu,qi⟩⟩:=cP
 . simp at e1
 . simp only[Value.slice.injEq,af,true_and]at e1;obtain⟨rfl,rfl⟩:=e1;obtain⟨i,hi⟩:∃i:Nat,z.ae U=(i:Int):=⟨(z.ae U).toNat,by omega⟩
   have KP:i<(U r.lv).list.length:=by omega
   have qj:(bL r.ks 0 (es.map (bV U))).length=r.ks.length:=cg _ _ _;have uR:i*r.ks.length+r.ks.length<=(U r.lv).list.length*r.ks.length:=by
     have:(i+1)*r.ks.length<=(U r.lv).list.length*r.ks.length:=Nat.mul_le_mul_right _ (by omega)
     rw[Nat.add_mul]at this;omega
   have sR:(U r.lv).list.length*r.ks.length<=cap*r.ks.length:=Nat.mul_le_mul_right _ sJ;have mJ:cur.toList.length=cap*r.ks.length:=by simpa using iu
   obtain⟨w',hr,gn,Kj⟩:=jl (P:=P) g r.e (i*r.ks.length) (bL r.ks 0 (es.map (bV U))) 0 cur.toList w (by simpa using hh) (by rw[qj,mJ];omega) (uQ _ _ _)
   have oK:=rB (bL r.ks 0 (es.map (bV U))) cur.toList (i*r.ks.length) 0 (by rw[qj,mJ];omega)
   simp only[Nat.add_zero]at oK;rw[oK]at Kj;have dB:(Instr.storeAt t ((ah.ep r.id r.ks.length z 0).ae U ph) (v.ae U ph)).run P w = .ok () w':=by
     have hlk:P.cellsOf t=r.ks.length:=by
       have:=congrArg List.length CV;rw[List.length_map,qj]at this;omega
     have rA:0<P.cellsOf t:=by rw[hlk];exact bc.1
     simp only[Instr.storeAt,ah.ae,iH,Instr.sureAddr,Sem.run_bind,Sem.run_pure,Result.andThen_ok,storeVar,bZ rA,V1.fc];rw[if_neg (by simp[hlen]),CV]
     simp only[hi,Int.toNat_natCast,Nat.add_zero,iy,Nat.zero_add];exact hr
   refine qg hs ho hl bd bG kf aR bc fq hg (kY:=(U r.lv).list.modify i (fun _=>es.map (bV U))) (by simp only[cZ.ae,hi,Int.toNat_natCast]) (by simp) dB ?_ gn cy hk
   refine⟨by rw[bM];simp,.inr ⟨g,cap,_,rfl,hg,Kj,sJ,Ip,?_,?_⟩⟩
   . simp only[List.size_toArray,eH,List.length_take,List.length_drop,qj,mJ];omega
   . rw[wA r.ks _ _ i KP,<- qi];apply List.ext_getElem?;intro m;simp only[List.getElem?_take,List.getElem?_append,List.length_take,eH,qj,mJ,List.getElem?_drop];grind
theorem uS(ks:List CK)(i:Nat):∀(cs:List (Sum IE BE)) (ls:List ah) (xs:List (List Int)) (j:Nat),i<xs.length->j+ls.length<=ks.length->ei ((ks.drop j).take ls.length) ls=some cs->
   aA ks (xs.modify i (fun r=>iL r j (cs.map (bV U))))=((ls.map (ah.ae U ph)).zipIdx 0).foldl (fun cur (x:Value×Nat)=>cur.set (i*ks.length+j+x.2) x.1) (aA ks xs):=by
 have gen:∀(cs:List (Sum IE BE)) (ls:List ah) (xs:List (List Int)) (j m:Nat),i<xs.length->j+m+ls.length<=ks.length->ei ((ks.drop (j+m)).take ls.length) ls=some cs->
     aA ks (xs.modify i (fun r=>iL r (j+m) (cs.map (bV U))))=((ls.map (ah.ae U ph)).zipIdx m).foldl (fun cur (x:Value×Nat)=>cur.set (i*ks.length+j+x.2) x.1) (aA ks xs):=by
   intro cs;induction cs with
   | nil=>
     intro ls xs j m hi hl h;have:=(mQ h).2;have Y':=(mQ h).1;have:ls=[]:=List.eq_nil_of_length_eq_zero (by simp at this;omega)
     subst this;simp only[List.map_nil,iL,List.zipIdx_nil,List.foldl_nil];congr 1;exact List.modify_id ..
   | cons c cs ih=>
     intro ls xs j m hi hl h;cases ls with
     |nil=>simp[ei]at h
     | cons l ls=>
       simp only[List.length_cons]at hl h;have hjm:j+m<ks.length:=by omega
       rw[List.drop_eq_getElem_cons hjm,List.take_succ_cons]at h;simp only[ei]at h;split at h
       . rename_i y ys hy hys;simp only[af,List.cons.injEq]at h;obtain⟨rfl,rfl⟩:=h;simp only[List.map_cons,iL,List.zipIdx_cons,List.foldl_cons];have e:xs.modify i (fun r=>iL (nB r (j+m) (bV U y)) (j+m+1) (ys.map (bV U)))=(setAt xs (i:Int) (j+m) (bV U y)).modify i (fun r=>iL r (j+(m+1)) (ys.map (bV U))):=by
           simp only[setAt,Int.toNat_natCast,List.modify_modify_eq];rfl
         rw[e,ih ls _ j (m+1) (by rw[tF];exact hi) (by omega) hys,qc ks xs i (j+m) _ _ hi (dJ hjm),oJ (U:=U) (ph:=ph) hy,Nat.add_assoc]
       . cases h
 intro cs ls xs j hi hl h;exact gen cs ls xs j 0 hi (by simpa using hl) (by simpa using h)
theorem xn(f:Nat->Nat)(n:Nat):∀(vs:List (Value×Nat)) (cur:List Value),(vs.foldl (fun cur x=>cur.set (f x.2) x.1) cur).take n=vs.foldl (fun cur x=>cur.set (f x.2) x.1) (cur.take n):=by
 intro vs;induction vs with
 |nil=>intro cur;rfl
 |cons v vs ih=>intro cur;simp only[List.foldl_cons];rw[ih,List.take_set]
theorem zt(f:Nat->Nat):∀(vs:List (Value×Nat)) (cur:List Value),(vs.foldl (fun cur x=>cur.set (f x.2) x.1) cur).length=cur.length:=by
 intro vs;induction vs with
 |nil=>intro cur;rfl
 |cons v vs ih=>intro cur;simp only[List.foldl_cons];rw[ih,List.length_set]
theorem Bv{Γ:bO}{w0 w:World}{st:St}{a:Act}{o:Oper}{t:TypeId}{x y:Operand}{v:V1}{key:Nat}{k:az->Prop}{r:Row}{j:Nat}{z:IE}{es:List (Sum IE BE)}(hs:Sat w0 U ph st a w)(ho:o.op = .store t x y)
   (hl:bl st (.c true) x=some (.ep r.id r.ks.length z j)) (hv:jM st (.c true) y=some v) (CV:ei ((r.ks.drop j).take v.leaves.length) v.leaves=some es) (hlen:v.leaves.length=P.cellsOf t) (lh:0<v.leaves.length) (EG:j+v.leaves.length<=r.ks.length) (bd:r∈st.rows) (bG:r.own=true) (kf:r.g.ae U=true)
   (aR:st.free key 1=true) (h0:0<=z.ae U) (h1:z.ae U<((U r.lv).list.length:Int))
   (cy:∀w',(Instr.storeAt t ((ah.ep r.id r.ks.length z j).ae U ph) (v.ae U ph)).run P w = .ok () w'->(execOp a.eval o).run P w = .ok .skip w') (hk:aN Γ [.ch key (.zu r.lv z j es)] k U) :
   mK Γ P w0 U ph st ({st.bn key 1 with rows:=dc {r with lv:=key} (st.rows.filter fun z=>decide (z.id≠r.id)) }.put o.dst jk) o a w k:=by
 have bc:=hs.mem.row r bd kf;have cP:=bc.2;rw[if_pos bG]at cP;obtain⟨ad,cap,iH,_⟩:=iz bc h0 h1;have fq:ph.val r.id = .slice (some ad) (U r.lv).list.length cap:=by simp[Ph.val,iH]
 rw[fq]at cP;obtain⟨nL,⟨e1,_⟩|⟨g,nN,cur,e1,hg,hh,sJ,Ip,iu,qi⟩⟩:=cP
 . simp at e1
 . simp only[Value.slice.injEq,af,true_and]at e1;obtain⟨rfl,rfl⟩:=e1;obtain⟨i,hi⟩:∃i:Nat,z.ae U=(i:Int):=⟨(z.ae U).toNat,by omega⟩
   have KP:i<(U r.lv).list.length:=by omega
   have uR:i*r.ks.length+r.ks.length<=(U r.lv).list.length*r.ks.length:=by
     have:(i+1)*r.ks.length<=(U r.lv).list.length*r.ks.length:=Nat.mul_le_mul_right _ (by omega)
     rw[Nat.add_mul]at this;omega
   have sR:(U r.lv).list.length*r.ks.length<=cap*r.ks.length:=Nat.mul_le_mul_right _ sJ;have mJ:cur.toList.length=cap*r.ks.length:=by simpa using iu
   obtain⟨w',hr,gn,Kj⟩:=jl (P:=P) g r.e (i*r.ks.length+j) (v.leaves.map (ah.ae U ph)) 0 cur.toList w (by simpa using hh) (by rw[List.length_map,mJ];omega) (fun u hu=>by
     obtain⟨l,_,rfl⟩:=List.mem_map.1 hu;exact ah.vC l)
   have dB:(Instr.storeAt t ((ah.ep r.id r.ks.length z j).ae U ph) (v.ae U ph)).run P w = .ok () w':=by
     have rA:0<P.cellsOf t:=by omega
     simp only[Instr.storeAt,ah.ae,iH,Instr.sureAddr,Sem.run_bind,Sem.run_pure,Result.andThen_ok,storeVar,bZ rA,V1.fc];rw[if_neg (by simp[hlen])]
     simp only[hi,Int.toNat_natCast,iy,Nat.zero_add];exact hr
   refine qg hs ho hl bd bG kf aR bc fq hg (kY:=(U r.lv).list.modify i (fun r=>iL r j (es.map (bV U)))) (by simp only[cZ.ae,hi,Int.toNat_natCast]) (by simp) dB ?_ gn cy hk
   refine⟨by rw[bM];simp,.inr ⟨g,cap,_,rfl,hg,Kj,sJ,Ip,?_,?_⟩⟩
   . simp only[List.size_toArray];rw[zt (fun q=>i*r.ks.length+j+q),mJ]
   . rw[uS (U:=U) (ph:=ph) r.ks i es v.leaves _ j KP EG CV,<- qi];simp only[List.toList_toArray];exact xn (fun q=>i*r.ks.length+j+q) _ _ _
theorem EX{Γ:bO}{w0 w:World}{st aZ:St}{a:Act}{o:Oper}{t:TypeId}{x y:Operand}{l:ah}{v:V1}{key:Nat}{cY:List Ev}{k:az->Prop}(hs:Sat w0 U ph st a w)(ho:o.op = .store t x y)
   (hl:bl st (.c true) x=some l) (hv:jM st (.c true) y=some v) (hlen:v.leaves.length=P.cellsOf t) (lh:0<P.cellsOf t) (h:qk st l v.leaves key o.dst=some (cY,aZ)) (hk:aN Γ cY k U) :
   mK Γ P w0 U ph st aZ o a w k:=by
 have ex:=ay hl b9 hs.tmps;have ey:=cz hv b9 hs.tmps;have cy:∀w',(Instr.storeAt t (l.ae U ph) (v.ae U ph)).run P w = .ok () w'->(execOp a.eval o).run P w = .ok .skip w':=fun w' hr=>by
   simp only[execOp,ho,ex,ey,Sem.run_bind,hr,Result.andThen_ok,Sem.run_pure]
 have hW:pJ st ph o.op=sr ph l:=by simp[ho,pJ,hl]
 unfold qk at h;split at h
 . rename_i id off;split at h
   . rename_i b hb;obtain⟨bd,rfl⟩:=dM hb;split at h
     . rename_i EN;obtain⟨w',hr,hg,hh⟩:=vE (P:=P) (U:=U) (ph:=ph) (t:=t) (off:=off) hlen lh (hs.mem.lQ b bd).2 EN;obtain⟨rfl,et⟩:=tE hs h bd hg hh;exact⟨.skip,w',_,U,ph,cy w' hr,rfl,by rw[hW];exact et,hk⟩
     . cases h
   . cases h
 . rename_i id off sz n z;split at h
   . rename_i b hb;obtain⟨bd,rfl⟩:=dM hb;split at h
     . rename_i cs iu;split at h
       . rename_i hn;split at h
         . rename_i wC Iq oK;simp only[af,ax]at h;obtain⟨rfl,rfl⟩:=h;obtain⟨h0,hk⟩:=iw hk;obtain⟨h1,hk⟩:=iw hk;have h0:=bS h0;have h1:=eM h1;simp only[IE.ae]at h0 h1;obtain⟨e1,e2,e3⟩:=Bs (U:=U) (ph:=ph) (x:=z) (i:=(z.ae U).toNat) (by omega) (by omega) iu
           have Ux:=(hs.mem.lQ b bd).2;obtain⟨w',hr,hg,hh⟩:=vE (P:=P) (U:=U) (ph:=ph) (t:=t) (off:=off+(z.ae U).toNat*sz) hlen lh Ux (e2 hn.2.2);have Kj:w'.heap[ph.r b.id]?=some (.cells (cs.map (ah.ae U ph)).toArray b.ty (0,0)):=by
             rw[hh,e3]
           obtain⟨rfl,et⟩:=tE hs oK bd hg Kj;exact⟨.skip,w',_,U,ph,cy w' hr,rfl,by rw[hW];exact et,hk⟩
         . cases h
       . cases h
     . cases h
   . cases h
 . rename_i row sz z j;split at h
   . rename_i r lf hr Ao;obtain⟨bd,rfl⟩:=aU hr;split at h
     . rename_i kj Uw;split at h
       . rename_i y' Y4;split at h
         . rename_i hc;simp only[ao,aC]at hc;obtain⟨⟨⟨bG,mL⟩,sQ⟩,aR⟩:=hc;simp only[af,ax]at h;obtain⟨rfl,rfl⟩:=h;obtain⟨h0,hk⟩:=iw hk;obtain⟨h1,hk⟩:=iw hk;have h0:=bS h0;have h1:=eM h1;simp only[IE.ae]at h0 h1;have kf:r.g.ae U=true:=by rw[mL];rfl
           exact Da hs ho hl hv Ao Y4 hlen bd bG kf sQ Uw aR h0 h1 cy hk
         . cases h
       . cases h
     . cases h
   . rename_i ls r hr cx;split at h
     . rename_i es CV;obtain⟨bd,rfl⟩:=aU hr;split at h
       . rename_i hc;simp only[ao,aC]at hc;obtain⟨⟨⟨⟨⟨bG,mL⟩,sQ⟩,hj0⟩,_⟩,aR⟩:=hc;subst hj0 sQ;simp only[af,ax]at h;obtain⟨rfl,rfl⟩:=h;obtain⟨h0,hk⟩:=iw hk;obtain⟨h1,hk⟩:=iw hk;have h0:=bS h0;have h1:=eM h1;simp only[IE.ae]at h0 h1;have kf:r.g.ae U=true:=by rw[mL];rfl
         have adq:=xl (U:=U) (ph:=ph) CV;exact Bu hs ho hl hv (by rw[<- adq]) hlen bd bG kf aR h0 h1 cy hk
       . cases h
     . split at h
       . rename_i es CV;obtain⟨bd,rfl⟩:=aU hr;split at h
         . rename_i hc;simp only[ao,aC]at hc;obtain⟨⟨⟨⟨⟨bG,mL⟩,sQ⟩,EG⟩,Za⟩,aR⟩:=hc;subst sQ;simp only[af,ax]at h;obtain⟨rfl,rfl⟩:=h;obtain⟨h0,hk⟩:=iw hk;obtain⟨h1,hk⟩:=iw hk;have h0:=bS h0;have h1:=eM h1;simp only[IE.ae]at h0 h1;have kf:r.g.ae U=true:=by rw[mL];rfl
           exact Bv hs ho hl hv CV hlen Za EG bd bG kf aR h0 h1 cy hk
         . cases h
       . cases h
   . cases h
 . cases h
theorem Ir(ks:List CK):∀(n i:Nat) (ps:List (Nat×V1)) (rows:List (List (Sum IE BE))) (cells:List Value),mR ks n i ps=some rows->cells.length=(i+n)*ks.length->
   Instr.fill (fun i=>some (i*ks.length,ks.length)) cells.toArray (ps.map fun p=>(p.1,p.2.ae U ph))=some (cells.take (i*ks.length)++aA ks (rows.map fun r=>r.map (bV U))).toArray/\rows.length=n:=by
 intro n;induction n with
 | zero=>
   intro i ps rows cells h hl;cases ps with
   | nil=>
     simp only[mR,af]at h;subst h;refine⟨?_,rfl⟩;simp only[List.map_nil,Instr.fill,aA,List.append_nil];rw[List.take_of_length_le (by rw[hl,Nat.add_zero];exact Nat.le_refl _)]
   |cons p ps=>simp[mR]at h
 | succ n ih=>
   intro i ps rows cells h hl;cases ps with
   |nil=>simp[mR]at h
   | cons p ps=>
     obtain⟨j,v⟩:=p;simp only[mR]at h;split at h
     . rename_i Bw;subst Bw;split at h
       . rename_i r rs hr rC;simp only[af]at h;subst h;have hlen:=(mQ hr).1;have wz:(v.leaves.map (ah.ae U ph)).length=ks.length:=by rw[List.length_map,hlen]
         have uT:(i+(n+1))*ks.length=i*ks.length+ks.length+n*ks.length:=by rw[Nat.add_mul,Nat.add_mul,Nat.one_mul];omega
         simp only[List.map_cons,Instr.fill,V1.fc];rw[if_neg (by simp[hlen,hl,uT]<;>omega)]
         have oK:=rB (v.leaves.map (ah.ae U ph)) cells (i*ks.length) 0 (by rw[wz,hl,uT];omega)
         have Is:((v.leaves.map (ah.ae U ph)).toArray.zipIdx.foldl (fun cs (x:Value×Nat)=>cs.setIfInBounds (i*ks.length+x.2) x.1) cells.toArray)=(cells.take (i*ks.length)++v.leaves.map (ah.ae U ph)++cells.drop (i*ks.length+ks.length)).toArray:=by
           apply Array.ext';rw[uL];simp only[List.toList_toArray];rw[oK,wz,Nat.add_zero]
         obtain⟨e1,e2⟩:=ih (i+1) ps rs (cells.take (i*ks.length)++v.leaves.map (ah.ae U ph)++cells.drop (i*ks.length+ks.length)) rC (by
           simp only[eH,List.length_take,List.length_drop,wz,hl,uT];rw[show i+1+n=i+(n+1)by omega,uT]
           omega)
         refine⟨?_,by simp[e2]⟩
         refine(congrArg (fun c=>Instr.fill (fun i=>some (i*ks.length,ks.length)) c (ps.map fun p=>(p.1,p.2.ae U ph))) Is).trans ?_
         rw[e1];have bc:=xl (U:=U) (ph:=ph) hr;simp only[aA,bc];congr 2;rw[show(i+1)*ks.length=i*ks.length+ks.length by rw[Nat.add_mul,Nat.one_mul]]
         rw[List.take_append_of_le_length (by simp only[eH,List.length_take,wz,hl,uT];omega),List.take_of_length_le (by simp only[eH,List.length_take,wz,hl,uT];omega)]
         simp
       . cases h
     . cases h
theorem wD{Γ:bO}{w0 w:World}{st aZ:St}{a:Act}{o:Oper}{t:TypeId}{n:Nat}{parts:Array (Nat×Operand)}{e:TypeId}{ps:List (Nat×V1)}{ks:List CK}{rows:List (List (Sum IE BE))}{key:Nat}{cY:List Ev}{k:az->Prop}{G:BE}
   (hs:Sat w0 U ph st a w) (ho:o.op = .buildSlice t n parts) (hu:P.underlying t=some (.slice e)) (hG:G.ae U=true) (CU:gp st G parts.toList=some ps) (lS:0<ks.length) (hz:((P.info? e).bind (·.zero)).isSome=true)
   (jN:n*ks.length<=16777216) (hc:P.cellsOf e=ks.length) (fU:mR ks n 0 ps=some rows) (h:newRow st G key e ks [] (.lit rows) st.rows o.dst=some (cY,aZ)) (hk:aN Γ cY k U) :
   mK Γ P w0 U ph st aZ o a w k:=by
 have xo:=nw (a:=a) hG hs.tmps CU;obtain⟨i,hi,z,Kk⟩:∃i,P.info? e=some i/\∃z,i.zero=some z:=by
   cases hi:P.info? e with
   |none=>simp[hi]at hz
   |some i=>simp[hi]at hz;exact⟨i,rfl,Option.isSome_iff_exists.1 hz⟩
 have Y2:(zeroValue e).run P w = .ok z w:=by simp[zeroValue,typeInfo,hi,Kk]
 obtain⟨z0,Kl⟩:∃z0:Array Value,z0.size=(0+n)*ks.length/\(Instr.buildSlice t n (parts.map fun(i,x)=>(i,a.eval x))).run P w =
     (match Instr.fill (fun i=>some (i*ks.length,ks.length)) z0 (ps.map fun p=>(p.1,p.2.ae U ph))with
      |some cells=>.ok (.slice (some ⟨w.heap.size,0,none⟩) n n) (w.alloc (.cells cells e))
      |none=>.halt (.stuck "buildSlice: a part of the wrong size") w):=by
   by_cases hn:n*ks.length=0
   . refine⟨Array.map (fun x=>(#[]:Array Value)[x%(#[]:Array Value).size]!) (Array.range (n*ks.length)),by simp,?_⟩
     simp only[Instr.buildSlice,Sem.run_bind,run_underlying hu,Result.andThen_ok,bZ (P:=P) (w:=w) (t:=e) (by omega),hc]
     rw[if_neg (by omega),if_pos hn]
     simp only[Sem.run_bind,Sem.run_pure,Result.andThen_ok,Array.toList_map,xo];generalize Array.map _ (Array.range (n*ks.length))=zz;cases Instr.fill (fun i=>some (i*ks.length,ks.length)) zz (ps.map fun p=>(p.1,p.2.ae U ph))with
     |none=>rfl
     |some cells=>rfl
   . refine⟨(Array.range (n*ks.length)).map (z.cells[· % z.cells.size]!),by simp,?_⟩
     simp only[Instr.buildSlice,Sem.run_bind,run_underlying hu,Result.andThen_ok,bZ (P:=P) (w:=w) (t:=e) (by omega),hc]
     rw[if_neg (by omega),if_neg hn]
     simp only[Sem.run_bind,Y2,Sem.run_pure,Result.andThen_ok,Array.toList_map,xo];generalize Array.map _ (Array.range (n*ks.length))=zz;cases Instr.fill (fun i=>some (i*ks.length,ks.length)) zz (ps.map fun p=>(p.1,p.2.ae U ph))with
     |none=>rfl
     |some cells=>rfl
 obtain⟨Uy,cy⟩:=Kl;obtain⟨hf,hrl⟩:=Ir (U:=U) (ph:=ph) ks n 0 ps rows z0.toList fU (by simpa using Uy)
 simp only[Nat.zero_mul,List.take_zero,List.nil_append,Array.toArray_toList]at hf;rw[hf]at cy;obtain⟨xs,nP⟩:∃xs,xs=rows.map fun r=>r.map (bV U):=⟨_,rfl⟩
 rw[<- nP]at cy;have nL:xs.length=n:=by rw[nP,List.length_map,hrl]
 unfold newRow at h;split at h
 . rename_i aR;simp only[ao]at aR;obtain⟨aR,pP⟩:=aR;simp only[af,ax]at h;obtain⟨rfl,rfl⟩:=h;have cO:k (U.set key (.l xs)):=by rw[nP];exact hk
   have hB:w0.heap.size<=w.heap.size:=hs.below.size;have Th:=bM ks xs;have jf:n<=maxLen:=by
     have:n<=n*ks.length:=Nat.le_mul_of_pos_right n lS;unfold maxLen;omega
   have bG:(w.alloc (.cells (aA ks xs).toArray e)).ownsRow w0.heap.size e ks.length (.slice (some ⟨w.heap.size,0,none⟩) n n) xs.length (aA ks xs):=by
     refine⟨Th,.inr ⟨w.heap.size,n,(aA ks xs).toArray,by rw[nL],hB,heap_alloc_new w _,by omega,jf,by simp[Th,nL],?_⟩⟩
     simp only[List.toList_toArray];exact List.take_of_length_le (by omega)
   have hW:pJ st ph o.op=none:=by simp[ho,pJ]
   have et:=jV (U:=U) (ph:=ph) (dst:=o.dst) (sl:=(some ⟨w.heap.size,0,none⟩,n,n)) (row:=none) hs pP hG aR lS (fun r hr=>hr) (World.grownBy_alloc w (.cells (aA ks xs).toArray e) none) (fun k hk=>by cases hk)
     (fun b _=>by simp) (fun r _ _ k _=>by simp) bG (.inr (.inl rfl))
   refine⟨.value (.slice (some ⟨w.heap.size,0,none⟩) n n),_,_,_,_,?_,rfl,by rw[hW];exact et,cO⟩
   simp only[execOp,ho,Sem.run_bind,cy,Result.andThen_ok,Sem.run_pure]
 . cases h
end Go.Sx
namespace Go.Sx
open Go.RowKit
variable {U:az}{ph:Ph}{P:Program}
theorem oL{t:TypeId}{i:TypeInfo}(h:P.info? t=some i):P.cellsOf t=i.size:=by simp[Program.cellsOf,h]
theorem jW{w:World}{B:Nat}{e:TypeId}{sz:Nat}{v:Value}{n:Nat}{xs:List Value}(h:w.ownsRow B e sz v n xs):∃sl:Option Addr×Nat×Nat,v = .slice sl.1 sl.2.1 sl.2.2:=by
 obtain⟨_,⟨rfl,_⟩|⟨g,cap,cur,rfl,_⟩⟩:=h
 . exact⟨(none,0,0),rfl⟩
 . exact⟨(_,_,_),rfl⟩
theorem ql{w:World}{B:Nat}{t ty e:TypeId}{room sz:Nat}{v y:Value}{n m:Nat}{xs news:List Value}(ht:P.underlying t=some (.slice e))(hr:jX P e=some room)(sQ:P.cellsOf e=sz)
   (bG:w.ownsRow B e sz v n xs) (hy:Reads w y m news) (hl:news.length=m*sz) (h1:∀u∈news,u.oneCell'=true) (jN:n+m<=room) (hB:B<=w.heap.size) :
   ∃(sl:Option Addr×Nat×Nat) (w':World),(Builtin.append_ #[t,t] ty #[v,y]).run P w = .ok (.slice sl.1 sl.2.1 sl.2.2) w'/\w'.ownsRow B e sz (.slice sl.1 sl.2.1 sl.2.2) (n+m) (xs++news)/\w.grownBy w' v.ownBlock/\
     ((Value.slice sl.1 sl.2.1 sl.2.2).ownBlock=v.ownBlock\/(Value.slice sl.1 sl.2.1 sl.2.2).ownBlock=some w.heap.size):=by
 unfold jX at hr;cases hi:P.info? e with
 |none=>simp[hi]at hr
 | some i=>
   simp only[hi]at hr;cases hz:i.zero with
   |none=>simp[hz]at hr
   | some z=>
     simp only[hz]at hr;split at hr
     . rename_i hc;simp only[ao,aC]at hc;obtain⟨⟨ke,Ap⟩,Zb⟩:=hc;simp only[af]at hr;subst hr;have Uz:i.size=sz:=by rw[<- sQ,oL hi]
       have Yd:(n+m)*i.bytes<=140737488355328:=(Nat.le_div_iff_mul_le ke).1 jN;have GL:n+m<=maxLen:=by
         have:n+m<=(n+m)*i.bytes:=Nat.le_mul_of_pos_right _ ke;unfold maxLen;omega
       obtain⟨base,cap,rfl,hm,sO,iu⟩:=hy;cases base with
       | none=>
         obtain⟨rfl,rfl⟩:=sO rfl;rw[Nat.zero_mul]at hl;have:=List.eq_nil_of_length_eq_zero hl;subst this;obtain⟨sl,rfl⟩:=jW bG;refine⟨sl,w,run_append_owned_none w B t ty e i sz ht hi _ n xs bG,by simpa using bG,⟨rfl,rfl,rfl,Nat.le_refl _,fun _ _ _=>rfl⟩,.inl rfl⟩
       | some a=>
         obtain⟨v',w',e1,e2,e3,_,e5⟩:=run_append_own_at (P:=P) w B t ty e i z sz i.bytes ht hi hz Uz rfl (by rw[Zb,Uz]) (by omega) v n xs bG a m cap news hl
           (fun j u hj=>by obtain⟨a',e,h⟩:=iu j u hj;simp only[af]at e;subst e;exact h) h1 GL Yd hB
         obtain⟨sl,rfl⟩:=jW e2;exact⟨sl,w',e1,e2,e3,e5⟩
     . cases hr
theorem vI{Γ:bO}{w0 w:World}{st aZ:St}{a:Act}{o:Oper}{t e:TypeId}{x y:Operand}{key room:Nat}{cY:List Ev}{k:az->Prop}{v:Value}{xs:List (List Int)}{rb:Row}{rows:List Row}{ne:BE}{op:cZ}
   (hs:Sat w0 U ph st a w) (ho:o.op = .call {callee:=.builtin .append,args:=#[x,y],argTypes:=#[t,t] }) (hu:P.underlying t=some (.slice e)) (hr:jX P e=some room)
   (hx:a.eval x=v) (hy:bl st (.c true) y=some (.s rb.id)) (zw:rb∈st.rows) (Bx:rb.g = .c true) (nU:P.cellsOf e=rb.ks.length)
   (hv:w.ownsRow w0.heap.size e rb.ks.length v xs.length (aA rb.ks xs)) (hW:pJ st ph o.op=v.ownBlock) (dX:∀r∈rows,r∈st.rows)
   (UA:∀k,v.ownBlock=some k->¬ ph.z k/\∀n∈st.aY,n.own=true->(ph.val n.id).ownBlock≠some k) (jI:∀b∈st.aT,v.ownBlock≠some (ph.r b.id)) (fU:∀r∈rows,r.g.ae U=true->∀k,r.bQ U ph=some k->v.ownBlock≠some k)
   (lu:op.ae U=xs++(U rb.lv).list) (cx:ne.ae U=true->xs.length+(U rb.lv).list.length<=room)
   (h:newRow st (.c true) key e rb.ks [.aG ne] op rows o.dst=some (cY,aZ)) (hk:aN Γ cY k U) :
   mK Γ P w0 U ph st aZ o a w k:=by
 unfold newRow at h;split at h
 . rename_i aR;simp only[ao]at aR;obtain⟨aR,pP⟩:=aR;simp only[af,ax]at h;obtain⟨rfl,rfl⟩:=h;obtain⟨hn,hk⟩:=iw (es:=[.ch key op]) hk;have cO:k (U.set key (.l (xs++(U rb.lv).list))):=by rw[<- lu];exact hk
   have bc:=hs.mem.row rb zw (by rw[Bx];rfl)
   have ey:=ay hy b9 hs.tmps;simp only[ah.ae]at ey;obtain⟨sl,w',e1,e2,e3,e5⟩:=ql (ty:=o.type) hu hr nU hv bc.reads (bM _ _) (hO _ _) (cx hn) hs.below.size;rw[<- kK,<- eH]at e2;have hvB:∀k,v.ownBlock=some k->w0.heap.size<=k/\¬ ph.z k/\∀n∈st.aY,n.own=true->(ph.val n.id).ownBlock≠some k:=fun k hk=>⟨(hv.lt k hk).1,UA k hk⟩
   have et:=jV (dst:=o.dst) (sl:=sl) (row:=v.ownBlock) hs pP b9 aR bc.1 dX e3 hvB jI fU e2 (by
     rcases e5 with e5|e5
     . exact .inl e5
     . exact .inr (.inl e5))
   refine⟨.value (.slice sl.1 sl.2.1 sl.2.2),w',_,_,_,?_,rfl,by rw[hW];exact et,cO⟩
   simp only[execOp,ho,resolve,invoke,builtin,Sem.run_bind,Sem.run_pure,Result.andThen_ok,List.map_toArray,List.map_cons,List.map_nil,hx,ey,e1]
 . cases h
theorem xp{Γ:bO}{w0 w:World}{st aZ:St}{a:Act}{o:Oper}{e:TypeId}{ls:List ah}{key:Nat}{cY:List Ev}{k:az->Prop}(hs:Sat w0 U ph st a w)
   (hW:pJ st ph o.op=none) (cy:(execOp a.eval o).run P w = .ok (.value (.pointer (some ⟨w.heap.size,0,none⟩))) (w.alloc (.cells (ls.map (ah.ae U ph)).toArray e)))
   (h:nS st key e ls o.dst=some (cY,aZ)) (hk:aN Γ cY k U):mK Γ P w0 U ph st aZ o a w k:=by
 obtain⟨rfl,et⟩:=Al hs h;exact⟨_,_,_,_,_,cy,rfl,by rw[hW];exact et,hk⟩
theorem su(ks:List CK):∀(xs:List (List Int)) (n:Nat),aA ks (xs.take n)=(aA ks xs).take (n*ks.length):=by
 intro xs;induction xs with
 |nil=>intro n;simp[aA]
 | cons r rs ih=>
   intro n;cases n with
   |zero=>simp[aA]
   | succ n=>
     simp only[List.take_succ_cons,aA,ih];have e:(n+1)*ks.length=ks.length+n*ks.length:=by rw[Nat.add_mul];omega
     rw[e,List.take_append,cg,show ks.length+n*ks.length-ks.length=n*ks.length by omega,List.take_of_length_le (l:=bL ks 0 r) (by rw[cg];omega)]
theorem KQ{w:World}{B:Nat}{e:TypeId}{ks:List CK}{base:Option Addr}{n cap m:Nat}{xs:List (List Int)}(hn:n=xs.length)(h:w.ownsRow B e ks.length (.slice base n cap) n (aA ks xs))(hm:m<=n) :
   w.ownsRow B e ks.length (.slice base m cap) (xs.take m).length (aA ks (xs.take m)):=by
 have hl:(xs.take m).length=m:=by rw[List.length_take];omega
 rw[hl];refine⟨by rw[bM,hl],?_⟩
 rcases h.2 with⟨e1,e2⟩|⟨g,nN,cur,e1,hg,hh,sJ,Ip,iu,qi⟩
 . simp only[Value.slice.injEq]at e1;obtain⟨rfl,h0,rfl⟩:=e1;have:m=0:=by omega
   subst this;exact .inl ⟨rfl,rfl⟩
 . simp only[Value.slice.injEq,true_and]at e1;obtain⟨rfl,rfl⟩:=e1;refine .inr ⟨g,cap,cur,rfl,hg,hh,by omega,Ip,iu,?_⟩
   rw[su,<- qi,List.take_take];congr 1;have:=Nat.mul_le_mul_right ks.length hm;omega
theorem qm{t e:TypeId}{w:World}{base:Option Addr}{n cap:Nat}{k:IntKind}{m:Int}(hu:P.underlying t=some (.slice e))(hc:0<P.cellsOf e)(h0:0<=m)(h1:m<=(n:Int))(sJ:n<=cap) :
   (Instr.slice t (.slice base n cap) none (some (.int k m)) none).run P w = .ok (.slice base m.toNat cap) w:=by
 have hm:0<=m/\m<=(cap:Int):=⟨h0,by omega⟩
 simp only[Instr.slice,Instr.sliceBounds,Instr.sliceBound,asIntOf,Sem.run_bind,Sem.run_pure,Result.andThen_ok,run_underlying hu];simp only[hm,and_self,if_true,Sem.run_bind,Sem.run_pure,Result.andThen_ok,bZ hc,Nat.sub_zero,Nat.zero_mul];congr 2;cases base with
 |none=>simp
 |some a=>simp[Addr.add_zero']
theorem Iu{Γ:bO}{w0 w:World}{st aZ:St}{a:Act}{o:Oper}{t e:TypeId}{x h':Operand}{key:Nat}{cY:List Ev}{k:az->Prop}{ra:Row}{kd:IntKind}{n:IE}
   (hs:Sat w0 U ph st a w) (ho:o.op = .slice t x none (some h') none) (hu:P.underlying t=some (.slice e)) (hx:bl st (.c true) x=some (.s ra.id)) (hh:bl st (.c true) h'=some (.i kd n))
   (bd:ra∈st.rows) (bG:ra.own=true) (hg:ra.g = .c true) (he:ra.e=e) (nU:P.cellsOf e=ra.ks.length)
   (h:newRow st (.c true) key e ra.ks [.aG (BE.le (.c 0) n).mk,.aG (BE.le n (.len ra.lv)).mk] (.take ra.lv n) (st.rows.filter fun r=>decide (r.id≠ra.id)) o.dst=some (cY,aZ)) (hk:aN Γ cY k U) :
   mK Γ P w0 U ph st aZ o a w k:=by
 unfold newRow at h;split at h
 . rename_i aR;simp only[ao]at aR;obtain⟨aR,pP⟩:=aR;simp only[af,ax]at h;obtain⟨rfl,rfl⟩:=h;obtain⟨h0,hk⟩:=iw (es:=[.aG (BE.le n (.len ra.lv)).mk,.ch key (.take ra.lv n)]) hk;obtain⟨h1,hk⟩:=iw (es:=[.ch key (.take ra.lv n)]) hk;have h0:=bS h0;have h1:=bS h1;simp only[IE.ae]at h0 h1;have cO:k (U.set key (.l ((U ra.lv).list.take (n.ae U).toNat))):=hk;have EY:ra.g.ae U=true:=by rw[hg];rfl
   have bc:=hs.mem.row ra bd EY;have cP:=bc.2;rw[if_pos bG,he]at cP;have ex:=ay hx b9 hs.tmps;have eh:=ay hh b9 hs.tmps;simp only[ah.ae]at ex eh;obtain⟨base,cap,hv,sJ⟩:∃base cap,ph.val ra.id = .slice base (U ra.lv).list.length cap/\(U ra.lv).list.length<=cap:=by
     rcases cP.2 with⟨e1,e2⟩|⟨g,nN,cur,e1,_,_,sJ,_⟩
     . exact⟨none,0,by rw[e1,e2],by omega⟩
     . exact⟨_,nN,e1,sJ⟩
   rw[hv]at cP;have Zc:=KQ (m:=(n.ae U).toNat) rfl cP (by omega)
   have eB:ra.bQ U ph=(Value.slice base (U ra.lv).list.length cap).ownBlock:=by rw[<- hv];simp[Row.bQ,bG]
   have KO:∀m m':Nat,(Value.slice base m cap).ownBlock=(Value.slice base m' cap).ownBlock:=fun _ _=>by cases base<;>rfl
   have et:=jV (dst:=o.dst) (sl:=(base,(n.ae U).toNat,cap)) (row:=(Value.slice base (U ra.lv).list.length cap).ownBlock) (rows:=st.rows.filter fun r=>decide (r.id≠ra.id)) hs pP b9 aR bc.1 (fun r hr=>(List.mem_filter.1 hr).1) (hU (cd w)) (fun k hk=>(lT (B:=0) hs bd bG EY (by rw[hv,hk])).1)
     (fun b hb e=>hs.mem.br b hb ra bd EY (by rw[eB,e])) (fun r hr h1 k hk e=>by
       have hm:=List.mem_filter.1 hr;exact hs.mem.rr ra bd r hm.1 (fun e=>by simp[e]at hm) bG EY h1 k (by rw[eB,e]) hk) Zc (.inl (KO _ _))
   refine⟨.value (.slice base (n.ae U).toNat cap),w,_,_,_,?_,rfl,⟨et.sat,et.agree,?_,et.mono,et.fresh⟩,cO⟩
   . simp only[execOp,ho,Option.map_none,Option.map_some,ex,eh,hv,Sem.run_bind,run_sliceAt_slice (P:=P) (w:=w) t _ _ _ _ (by simp[Program.elem,hu]),qm hu (by rw[nU];exact bc.1) h0 h1 sJ,Result.andThen_ok,Sem.run_pure]
   . rw[ho];exact cd w
 . cases h
theorem qn{t:TypeId}{v:V1}(h:nQ P t=some v):∃i z,P.info? t=some i/\i.zero=some z/\z.cells=(v.leaves.map (ah.ae U ph)).toArray:=by
 unfold nQ at h;cases hi:P.info? t with
 |none=>simp[hi]at h
 | some i=>
   cases hz:i.zero with
   |none=>simp[hi,hz]at h
   | some z=>
     refine⟨i,z,rfl,hz,?_⟩;have hw:Inhabited World:=⟨{heap:=#[],tape:=default,drawn:=0,os:=default,output:=default}⟩;have h2:=uM (P:=P) (U:=U) (ph:=ph) (w:=default) (t:=t) (v:=v) (by unfold nQ;exact h)
     simp[zeroValue,typeInfo,hi,hz]at h2;rw[h2,V1.fc]
theorem uU{ks:List CK}{z:Value}(hz:z.cells=((ks.map zeroOf).map (ah.ae U ph)).toArray)(n:Nat):(madeCells z.cells (n*ks.length)).toList=aA ks (List.replicate n (List.replicate ks.length 0)):=by
 apply List.ext_getElem?;intro j;by_cases hj:j<n*ks.length
 . have h0:0<ks.length:=by
     rcases Nat.eq_zero_or_pos ks.length with h|h
     . rw[h]at hj;omega
     . exact h
   have hd:j/ks.length<n:=(Nat.div_lt_iff_lt_mul h0).2 hj;have hm:=Nat.mod_lt j h0;have e:j=j/ks.length*ks.length+j%ks.length:=(Nat.div_add_mod' j ks.length).symm;have hf:=lg ks (List.replicate n (List.replicate ks.length 0)) (j/ks.length) (j%ks.length) (by simpa using hd) hm
   rw[<- e]at hf;rw[hf];have hc:∀q:Nat,z.cells[q]?=(ks[q]?).map fun(k:CK)=>k.val 0:=fun q=>by
     rw[hz];simp only[List.getElem?_toArray,List.getElem?_map];cases ks[q]? with
     |none=>rfl
     |some k=>cases k<;>rfl
   have sQ:z.cells.size=ks.length:=by rw[hz];simp
   have hl:(List.replicate n (List.replicate ks.length (0:Int))).getD (j/ks.length) []=List.replicate ks.length 0:=by
     simp[cH,hd]
   rw[hl];have xh:(List.replicate ks.length (0:Int)).getD (j%ks.length) 0=0:=by
     simp[cH,hm]
   rw[xh,<- hc];simp[madeCells,hj,sQ];rw[Array.getElem?_eq_getElem (by rw[sQ];exact hm),getElem!_pos z.cells (j%ks.length) (by rw[sQ];exact hm)]
 . rw[List.getElem?_eq_none (by simp[madeCells];omega),List.getElem?_eq_none (by rw[bM];simp;omega)]
theorem zx(w:World)(base:Nat)(t e:TypeId)(i:TypeInfo)(z:Value)(size:Nat)(ht:P.underlying t=some (.slice e))(hi:P.info? e=some i)(hz:i.zero=some z)(Db:i.size=size)
   (kl kc:IntKind) (n c:Nat) (sJ:n<=c) (adr:i.bytes*c<=281474976710656) (GL:c<=maxLen) (Zd:base<=w.heap.size) :
   ∃w',(Instr.makeSlice t (.int kl (n:Int)) (.int kc (c:Int))).run P w = .ok (.slice (some ⟨w.heap.size,0,none⟩) n c) w'/\
     w'.ownsRow base e size (.slice (some ⟨w.heap.size,0,none⟩) n c) n (madeCells z.cells (n*size)).toList/\w.grownBy w' none:=by
 subst Db;have ads:(c:Int)<=9223372036854775807:=by
   have h:=GL;simp[maxLen]at h;omega
 have la:(i.bytes:Int)*(c:Int)<=281474976710656:=by
   have h:((i.bytes*c:Nat):Int)<=281474976710656:=by omega
   rwa[Int.natCast_mul]at h
 have hr:=run_make (P:=P) w t e i z ht hi hz kl kc n c (by omega) (by omega) la ads
 simp only[Int.toNat_natCast]at hr;refine⟨_,hr,⟨?_,.inr ⟨w.heap.size,c,madeCells z.cells (c*i.size),rfl,Zd,?_,sJ,GL,size_madeCells _ _,?_⟩⟩,World.grownBy_alloc w _ none⟩
 . simp[madeCells]
 . exact heap_alloc_new w _
 . have:n*i.size<=c*i.size:=Nat.mul_le_mul_right _ sJ;simp only[madeCells,Array.toList_map,Array.toList_range,<- List.map_take,List.take_range,Nat.min_eq_left this]
theorem Iw{Γ:bO}{w0 w:World}{st aZ:St}{a:Act}{o:Oper}{t e:TypeId}{n c:Operand}{key room:Nat}{cY:List Ev}{k:az->Prop}{ks:List CK}{kd Ye:IntKind}{x:IE}{z:V1}
   (hs:Sat w0 U ph st a w) (ho:o.op = .makeSlice t n c) (hu:P.underlying t=some (.slice e)) (hn:bl st (.c true) n=some (.i kd x)) (hc:bl st (.c true) c=some (.i Ye x)) (hr:jX P e=some room) (hz:nQ P e=some z)
   (h0:0<ks.length) (nU:P.cellsOf e=ks.length) (Qf:z.leaves=ks.map zeroOf)
   (h:newRow st (.c true) key e ks [.aG (BE.le (.c 0) x).mk,.aG (BE.le x (.c (room:Int))).mk] (.rep x (List.replicate ks.length 0)) st.rows o.dst=some (cY,aZ)) (hk:aN Γ cY k U) :
   mK Γ P w0 U ph st aZ o a w k:=by
 unfold newRow at h;split at h
 . rename_i aR;simp only[ao]at aR;obtain⟨aR,pP⟩:=aR;simp only[af,ax]at h;obtain⟨rfl,rfl⟩:=h;obtain⟨g0,hk⟩:=iw (es:=[.aG (BE.le x (.c (room:Int))).mk,.ch key (.rep x (List.replicate ks.length 0))]) hk;obtain⟨g1,hk⟩:=iw (es:=[.ch key (.rep x (List.replicate ks.length 0))]) hk;have g0:=bS g0;have g1:=bS g1;simp only[IE.ae]at g0 g1;obtain⟨m,hm⟩:∃m:Nat,x.ae U=m:=⟨(x.ae U).toNat,by omega⟩
   have cO:k (U.set key (.l (List.replicate m (List.replicate ks.length 0)))):=by
     have:k (U.set key (.l ((cZ.rep x (List.replicate ks.length 0)).ae U))):=hk;simp only[cZ.ae,hm,Int.toNat_natCast]at this;exact this
   have en:=ay hn b9 hs.tmps;have ec:=ay hc b9 hs.tmps;simp only[ah.ae,hm]at en ec;obtain⟨i,zv,hi,UB,fY⟩:=qn (U:=U) (ph:=ph) hz;unfold jX at hr;simp only[hi,UB]at hr;split at hr
   . rename_i mg;simp only[ao,aC]at mg;obtain⟨⟨ke,Ap⟩,iu⟩:=mg;simp only[af]at hr;rw[Qf]at fY;have Db:i.size=ks.length:=by rw[<- iu,fY];simp
     rw[hm]at g1;have jN:m<=140737488355328/i.bytes:=by rw[hr];omega
     have Yd:i.bytes*m<=140737488355328:=Nat.le_trans (Nat.mul_le_mul_left _ jN) (Nat.mul_div_le _ _);have GL:m<=maxLen:=by
       have:m<=i.bytes*m:=Nat.le_mul_of_pos_left _ ke;unfold maxLen;omega
     obtain⟨w',e1,e2,e3⟩:=run_make_full (P:=P) w w0.heap.size t e i zv ks.length hu hi UB Db kd Ye m (by omega) GL hs.below.size
     rw[uU fY]at e2;have hl:(List.replicate m (List.replicate ks.length (0:Int))).length=m:=by simp
     have et:=jV (dst:=o.dst) (xs:=List.replicate m (List.replicate ks.length 0)) (sl:=(some ⟨w.heap.size,0,none⟩,m,m)) (row:=none) (rows:=st.rows) hs pP b9 aR h0 (fun _ h=>h) e3 (fun _ h=>by cases h) (fun _ _=>by simp) (fun _ _ _ _ _=>by simp) (by rw[hl];exact e2) (.inr (.inl rfl))
     refine⟨.value (.slice (some ⟨w.heap.size,0,none⟩) m m),w',_,_,_,?_,rfl,⟨et.sat,et.agree,?_,et.mono,et.fresh⟩,cO⟩
     . simp only[execOp,ho,en,ec,Sem.run_bind,e1,Result.andThen_ok,Sem.run_pure]
     . rw[ho];exact et.grown
   . cases hr
 . cases h
theorem xq{Γ:bO}{w0 w:World}{st aZ:St}{a:Act}{o:Oper}{t e:TypeId}{n c:Operand}{key room:Nat}{cY:List Ev}{k:az->Prop}{ks:List CK}{kd Ye:IntKind}{x y:IE}{z:V1}
   (hs:Sat w0 U ph st a w) (ho:o.op = .makeSlice t n c) (hu:P.underlying t=some (.slice e)) (hn:bl st (.c true) n=some (.i kd x)) (hc:bl st (.c true) c=some (.i Ye y)) (hr:jX P e=some room) (hz:nQ P e=some z)
   (h0:0<ks.length) (nU:P.cellsOf e=ks.length) (Qf:z.leaves=ks.map zeroOf)
   (h:newRow st (.c true) key e ks [.aG (BE.le (.c 0) x).mk,.aG (BE.le x y).mk,.aG (BE.le y (.c (room:Int))).mk] (.rep x (List.replicate ks.length 0)) st.rows o.dst=some (cY,aZ)) (hk:aN Γ cY k U) :
   mK Γ P w0 U ph st aZ o a w k:=by
 unfold newRow at h;split at h
 . rename_i aR;simp only[ao]at aR;obtain⟨aR,pP⟩:=aR;simp only[af,ax]at h;obtain⟨rfl,rfl⟩:=h;obtain⟨g0,hk⟩:=iw (es:=[.aG (BE.le x y).mk,.aG (BE.le y (.c (room:Int))).mk,.ch key (.rep x (List.replicate ks.length 0))]) hk;obtain⟨g2,hk⟩:=iw (es:=[.aG (BE.le y (.c (room:Int))).mk,.ch key (.rep x (List.replicate ks.length 0))]) hk;obtain⟨g1,hk⟩:=iw (es:=[.ch key (.rep x (List.replicate ks.length 0))]) hk;have g0:=bS g0;have g1:=bS g1;have g2:=bS g2;simp only[IE.ae]at g0 g1;obtain⟨m,hm⟩:∃m:Nat,x.ae U=m:=⟨(x.ae U).toNat,by omega⟩
   obtain⟨q,hq⟩:∃q:Nat,y.ae U=q:=⟨(y.ae U).toNat,by omega⟩
   have hmq:m<=q:=by omega
   have cO:k (U.set key (.l (List.replicate m (List.replicate ks.length 0)))):=by
     have:k (U.set key (.l ((cZ.rep x (List.replicate ks.length 0)).ae U))):=hk;simp only[cZ.ae,hm,Int.toNat_natCast]at this;exact this
   have en:=ay hn b9 hs.tmps;have ec:=ay hc b9 hs.tmps;simp only[ah.ae,hm,hq]at en ec;obtain⟨i,zv,hi,UB,fY⟩:=qn (U:=U) (ph:=ph) hz;unfold jX at hr;simp only[hi,UB]at hr;split at hr
   . rename_i mg;simp only[ao,aC]at mg;obtain⟨⟨ke,Ap⟩,iu⟩:=mg;simp only[af]at hr;rw[Qf]at fY;have Db:i.size=ks.length:=by rw[<- iu,fY];simp
     rw[hq]at g1;have jN:q<=140737488355328/i.bytes:=by rw[hr];omega
     have Yd:i.bytes*q<=140737488355328:=Nat.le_trans (Nat.mul_le_mul_left _ jN) (Nat.mul_div_le _ _);have GL:q<=maxLen:=by
       have:q<=i.bytes*q:=Nat.le_mul_of_pos_left _ ke;unfold maxLen;omega
     obtain⟨w',e1,e2,e3⟩:=zx (P:=P) w w0.heap.size t e i zv ks.length hu hi UB Db kd Ye m q hmq (by omega) GL hs.below.size
     rw[uU fY]at e2;have hl:(List.replicate m (List.replicate ks.length (0:Int))).length=m:=by simp
     have et:=jV (dst:=o.dst) (xs:=List.replicate m (List.replicate ks.length 0)) (sl:=(some ⟨w.heap.size,0,none⟩,m,q)) (row:=none) (rows:=st.rows) hs pP b9 aR h0 (fun _ h=>h) e3 (fun _ h=>by cases h) (fun _ _=>by simp) (fun _ _ _ _ _=>by simp) (by rw[hl];exact e2) (.inr (.inl rfl))
     refine⟨.value (.slice (some ⟨w.heap.size,0,none⟩) m q),w',_,_,_,?_,rfl,⟨et.sat,et.agree,?_,et.mono,et.fresh⟩,cO⟩
     . simp only[execOp,ho,en,ec,Sem.run_bind,e1,Result.andThen_ok,Sem.run_pure]
     . rw[ho];exact et.grown
   . cases hr
 . cases h
theorem oM{α:Type}{a:Array α}{x y:α}(h:a.toList=[x,y]):a = #[x,y]:=Array.ext' (by simpa using h)
theorem oN{Γ:bO}{G:BE}{k:az->Prop}:∀ {ns:List BE},aN Γ (pt G ns) k U->k U/\(G.ae U=true->∀n∈ns,n.ae U=true):=by
 intro ns;induction ns with
 |nil=>intro h;exact⟨h,fun _ n hn=>by simp at hn⟩
 | cons n ns ih=>
   intro h;simp only[pt]at h;split at h
   . rename_i he;obtain⟨h1,h2⟩:=ih h;refine⟨h1,fun hG m hm=>?_⟩
     rcases bq.1 hm with rfl|hm
     . exact BE.Aa hG (by rw[he];rfl)
     . exact h2 hG m hm
   . obtain⟨h0,h⟩:=iw h;obtain⟨h1,h2⟩:=ih h;refine⟨h1,fun hG m hm=>?_⟩
     rcases bq.1 hm with rfl|hm
     . exact BE.Aa hG h0
     . exact h2 hG m hm
theorem bH{r:Row}:∀ {rs l:List Row},r∈cR rs l↔r∈rs\/r∈l:=by
 intro rs;induction rs with
 |nil=>intro l;simp[cR]
 | cons x rs ih=>
   intro l;show r∈dc x (cR rs l)↔_;rw[dp,ih,bq,or_assoc]
theorem vJ{lv key:Nat}{i:IE}:∀ {aK:List NK} {j m:Nat},(fh lv i key j aK)[m]?=(aK[m]?).map (fun| .c k=>oD lv i (j+m) k| .s _ _=>.s (key+(j+m))):=by
 intro aK;induction aK with
 |nil=>intro j m;simp[fh]
 | cons nk aK ih=>
   intro j m;cases nk<;>cases m<;>simp[fh,ih,Nat.add_assoc,Nat.add_comm 1]
theorem Dc{lv key:Nat}{i:IE}:∀ {aK:List NK} {j:Nat},(fh lv i key j aK).length=aK.length:=by
 intro aK;induction aK with
 |nil=>intro j;rfl
 |cons nk aK ih=>intro j;cases nk<;>simp[fh,ih]
theorem Aq{G:BE}{key:Nat}{r:Row}:∀ {aK:List NK} {j:Nat},r∈jm G key j aK->∃m e k,aK[m]?=some (.s e k)/\r=⟨key+(j+m),e,[k],key+(j+m),false,G⟩:=by
 intro aK;induction aK with
 |nil=>intro j h;simp[jm]at h
 | cons nk aK ih=>
   intro j h;have up:r∈jm G key (j+1) aK->∃m e k,(nk::aK)[m]?=some (.s e k)/\r=⟨key+(j+m),e,[k],key+(j+m),false,G⟩:=fun h=>by
     obtain⟨m,e,k,h1,h2⟩:=ih h;exact⟨m+1,e,k,by simpa using h1,by rw[h2,show j+1+m=j+(m+1)by omega]⟩
   cases nk with
   |c k=>exact up h
   | s e k=>
     simp only[jm,bq]at h;rcases h with rfl|h
     . exact⟨0,e,k,rfl,rfl⟩
     . exact up h
theorem Ar{Γ:bO}{k:az->Prop}{lv key n:Nat}{i:IE}{all:List NK}{q:Nat->Bool}{aM:az}(wz:q lv=true)(hi:i.all q=true)(hq:∀x,key<=x->x<key+n->q x=false):∀ {aK:List NK} {j:Nat} {U:az},j+aK.length<=n->(∀x,q x=true->U x=aM x)->aN Γ (Dd lv i key all j aK) k U->
   ∃ak,k ak/\(∀x,q x=true->ak x=aM x)/\(∀x,x<key+j->ak x=U x)/\∀m e kk,aK[m]?=some (.s e kk)->ak (key+(j+m)) = .l ((cZ.sub lv i all (j+m)).ae aM):=by
 intro aK;induction aK with
 |nil=>intro j U _ he h;exact⟨U,h,he,fun _ _=>rfl,fun m e kk hm=>by simp at hm⟩
 | cons nk aK ih=>
   intro j U hn he h;simp only[List.length_cons]at hn;cases nk with
   | c kk0=>
     obtain⟨ak,h1,h2,h3,h4⟩:=ih (j:=j+1) (U:=U) (by omega) he h
     refine⟨ak,h1,h2,fun x hx=>h3 x (by omega),fun m e kk hm=>?_⟩
     cases m with
     |zero=>simp at hm
     |succ m=>have:=h4 m e kk (by simpa using hm);rw[show j+1+m=j+(m+1)by omega]at this;exact this
   | s e0 kk0=>
     have uV:(cZ.sub lv i all j).ae U=(cZ.sub lv i all j).ae aM:=by
       simp only[cZ.ae,he lv wz,IE.aq he hi]
     obtain⟨ak,h1,h2,h3,h4⟩:=ih (j:=j+1) (U:=U.set (key+j) (.l ((cZ.sub lv i all j).ae U))) (by omega) (fun x hx=>by
       have:x≠key+j:=fun e=>by rw[e,hq _ (by omega) (by omega)]at hx;cases hx
       simp only[az.set,this,if_false];exact he x hx) h
     refine⟨ak,h1,h2,fun x hx=>by rw[h3 x (by omega)];simp only[az.set];rw[if_neg (by omega)],fun m e kk hm=>?_⟩
     cases m with
     | zero=>
       rw[Nat.add_zero,h3 _ (by omega),<- uV]
       simp[az.set]
     |succ m=>have:=h4 m e kk (by simpa using hm);rw[show j+1+m=j+(m+1)by omega]at this;exact this
def Ph.tI(ph:Ph)(key:Nat)(us:List Value):Ph:=
 { ph with v:=fun k=>if key<=k then(match us[k-key]? with
   |some (.slice a b c)=>(a,b,c)
   |_=>ph.v k)else ph.v k}
def lx(st:St)(G:BE)(key:Nat)(dst:Option Tmp)(n:dG)(v:V1):St:=
 {st.bn key n.aK.length with rows:=cR (jm G key 0 n.aK) st.rows}.put dst ⟨G,.v v⟩
theorem vK{q:Nat->Bool}{lv key:Nat}{i:IE}{aK:List NK}(wz:q lv=true)(hi:i.all q=true)(hq:∀m,m<aK.length->q (key+m)=true):bh q (fh lv i key 0 aK)=true:=by
 have:∀ {ls:List ah},(∀l∈ls,l.all q=true)->bh q ls=true:=by
   intro ls;induction ls with
   |nil=>intro _;rfl
   |cons l ls ih=>intro h;simp only[bh,h l (aO ..),Bool.true_and];exact ih fun x hx=>h x (bp _ hx)
 refine this fun l hl=>?_
 obtain⟨m,hm⟩:=List.getElem?_of_mem hl;rw[vJ]at hm;simp only[Nat.zero_add,bB]at hm;obtain⟨nk,Ix,rfl⟩:=hm;have hml:=(cT.1 Ix).1;cases nk with
 | c kk=>
   cases kk<;>simp only[oD,ah.all,BE.all,IE.all,ao]<;>exact⟨wz,hi⟩
 |s e kk=>exact hq m hml
theorem da.cells{B:Nat}{st:St}{w:World}(h:da B U ph st w){n:dG}(hn:n∈st.aY)(hg:n.g.ae U=true):0<n.aK.length/\∃base cap,ph.val n.id = .slice base (U n.lv).list.length cap/\(U n.lv).list.length<=maxLen/\(base=none->(U n.lv).list.length=0/\cap=0)/\
   ∀i r,(U n.lv).list[i]?=some r->∃a,base=some a/\∀j nk,n.aK[j]?=some nk->∃u,w.cell? (a.add (i*n.aK.length+j))=some u/\po ph.z w nk (r.getD j 0) (dK n.aK r j) u:=by
 obtain⟨h0,h1⟩:=h.rd n hn hg;refine⟨h0,?_⟩;unfold eU at h1;split at h1
 . obtain⟨base,cap,e1,e2,e3,e4⟩:=h1.reads (z':=fun _=>True) h0 (fun _ _=>trivial) (fun _ _=>trivial)
   obtain⟨cs,bG,hc⟩:=h1;refine⟨base,cap,e1,e2,e3,fun i r hi=>?_⟩
   obtain⟨a,rfl,_,_⟩:=e4 i r hi;refine⟨a,rfl,fun j nk hj=>?_⟩
   obtain⟨u,hu,sJ⟩:=hc i r hi j nk hj;rw[e1]at bG;have had:a=⟨a.block,0,none⟩:=by
     obtain⟨_,⟨e,_⟩|⟨g,nN,cur,e,_⟩⟩:=bG
     . simp at e
     . simp only[Value.slice.injEq,af]at e;rw[e.1]
   rw[had]at bG ⊢;exact⟨u,bG.cells (by simp[Value.ownBlock]) _ _ hu,sJ.lk (fun _ _=>rfl) (fun _ h=>h.1)⟩
 . obtain⟨base,cap,e1,e2,e3,e4⟩:=h1;refine⟨base,cap,e1,e2,e3,fun i r hi=>?_⟩
   obtain⟨a,e,_,iu⟩:=e4 i r hi;exact⟨a,e,iu⟩
theorem EZ{Γ:bO}{w0 w:World}{st:St}{a:Act}{o:Oper}{t:TypeId}{x:Operand}{key j:Nat}{k:az->Prop}{n:dG}{i:IE}{G:BE}{v:V1}
   (hs:Sat w0 U ph st a w) (ho:o.op = .load t x) (hG:G.ae U=true) (hx:bl st G x=some (.ep n.id n.aK.length i j)) (bd:n∈st.aY) (lh:0<n.aK.length) (hg:G.gY n.g=true) (pP:G.all st.has=true) (aR:st.free key n.aK.length=true) (QK:i.all st.has=true) (By:st.has n.lv=true)
   (nM:Looks P t v) (qj:∀jj l,v.leaves[jj]?=some l->(fh n.lv i key 0 n.aK)[j+jj]?=some l) (As:∀q:Nat->Bool,bh q (fh n.lv i key 0 n.aK)=true->v.all q=true)
   (hk:aN Γ (pt G [(BE.le (.c 0) i).mk,(BE.lt i (.len n.lv)).mk]++Dd n.lv i key n.aK 0 n.aK) k U):mK Γ P w0 U ph st (lx st G key o.dst n v) o a w k:=by
   rw[fe]at hk;obtain⟨hk,nV⟩:=oN hk;have nV:=nV hG;have h0:=bS (nV _ (aO ..));have h1:=eM (nV _ (bp _ (aO ..)));simp only[IE.ae]at h0 h1;have mL:n.g.ae U=true:=BE.cD hg hG;obtain⟨_,base,cap,hv,hlen,ke,ze⟩:=hs.nest.cells bd mL;have gF:(i.ae U).toNat<(U n.lv).list.length:=by omega
   obtain⟨r,hr⟩:∃r,(U n.lv).list[(i.ae U).toNat]?=some r:=⟨_,dJ gF⟩;obtain⟨ad,rfl,iu⟩:=ze _ r hr;have Ze:(U n.lv).list.getD (i.ae U).toNat []=r:=by simp[List.getD,hr]
   obtain⟨us,hus⟩:∃us:List Value,us=(List.range n.aK.length).map fun j=>(w.cell? (ad.add ((i.ae U).toNat*n.aK.length+j))).getD undef:=⟨_,rfl⟩
   have akC:us.length=n.aK.length:=by simp[hus]
   have Ki:∀j nk,n.aK[j]?=some nk->∃u,us[j]?=some u/\w.cell? (ad.add ((i.ae U).toNat*n.aK.length+j))=some u/\po ph.z w nk (r.getD j 0) (dK n.aK r j) u:=fun j nk hj=>by
     obtain⟨u,h1,h2⟩:=iu j nk hj;have EG:=(cT.1 hj).1;refine⟨u,?_,h1,h2⟩;simp[hus,List.getElem?_map,List.getElem?_range EG,h1]
   have ia:∀j,j<n.aK.length->st.has (key+j)=false:=fun j hj=>cM aR (by omega) (by omega)
   obtain⟨ak,QL,Yf,_,Yg⟩:=Ar (aM:=U) (q:=st.has) By QK (fun x a b=>cM aR a b) (by omega) (fun _ _=>rfl) hk
   simp only[Nat.zero_add]at Yg;have bF:bj st.has U ak ph (ph.tI key us):=by
     refine⟨fun x hx=>(Yf x hx).symm,fun _ _=>rfl,fun x hx=>?_⟩
     simp only[Ph.tI];split
     . rename_i hkx;rcases Nat.lt_or_ge (x-key) n.aK.length with cQ|sS
       . have:=ia _ cQ;rw[show key+(x-key)=x by omega,hx]at this
         cases this
       . rw[List.getElem?_eq_none (by omega)]
     . rfl
   have iP:=hs.congr bF;have bI:∀k,st.has k=true->(st.bn key n.aK.length).has k=true:=fun k hk=>fO hk
   have De:∀(m:Nat) (e:TypeId) (kk:CK),n.aK[m]?=some (.s e kk)->∃u,us[m]?=some u/\(ph.tI key us).val (key+m)=u/\(ak (key+m)).list=(dK n.aK r m).map (fun x=>[x])/\Reads w u (dK n.aK r m).length (aA [kk] ((dK n.aK r m).map fun x=>[x]))/\(dK n.aK r m≠[]->∀b,u.ownBlock=some b->ph.z b):=fun m e kk hm=>by
     obtain⟨u,h1,_,h3,h4,h5⟩:=Ki m _ hm;refine⟨u,h1,?_,?_,h4,h5⟩
     . obtain⟨b0,c0,rfl,_⟩:=h4;simp[Ph.val,Ph.tI,h1]
     . rw[Yg m e kk hm];show((cZ.sub n.lv i n.aK m).ae U)=_;simp only[cZ.ae,Ze]
   have pz:∀r'∈jm G key 0 n.aK,∃(m:Nat) (e:TypeId) (kk:CK),n.aK[m]?=some (.s e kk)/\r'=⟨key+m,e,[kk],key+m,false,G⟩:=fun r' cF=>by
     obtain⟨m,e,kk,a,b⟩:=Aq cF;exact⟨m,e,kk,a,by rw[b,Nat.zero_add]⟩
   have UC:∀r'∈jm G key 0 n.aK,fE w0.heap.size ak (ph.tI key us) r' w/\r'.own=false/\∀b,r'.bQ ak (ph.tI key us)=some b->ph.z b:=fun r' cF=>by
     obtain⟨m,e,kk,hm,rfl⟩:=pz r' cF;obtain⟨u,_,e1,e2,e3,e4⟩:=De m e kk hm;refine⟨⟨by simp,?_⟩,rfl,fun b hb=>?_⟩
     . simp only[Bool.false_eq_true,if_false,e1,e2,List.length_map];exact e3
     . simp only[Row.bQ,Bool.false_or,e1,e2,List.length_map,aC]at hb;split at hb
       . rename_i cx;exact e4 (fun e=>cx (by rw[e];rfl)) b hb
       . cases hb
   have b8:∀m,m<n.aK.length->(st.bn key n.aK.length).has (key+m)=true:=fun m hm=>hZ (by omega) (by omega)
   have EJ:G.ae ak=true:=by rw[<- BE.aq bF.e pP];exact hG
   have Bn:ph.v n.id=(some ad,(U n.lv).list.length,cap):=by
     simp only[Ph.val,Value.slice.injEq]at hv;exact Prod.ext hv.1 (Prod.ext hv.2.1 hv.2.2)
   have cy:(execOp a.eval o).run P w = .ok (.value (v.ae ak (ph.tI key us))) w:=by
     have ex:=ay hx hG hs.tmps;simp only[ah.ae,Bn]at ex;simp only[execOp,ho,ex,Instr.loadAt,Instr.sureAddr,Sem.run_bind,Sem.run_pure,Result.andThen_ok];rw[gI (U:=ak) (ph:=ph.tI key us) nM fun jj lf hj=>?_]
     . rfl
     . have hj:=qj jj lf hj;simp only[vJ,Nat.zero_add,bB]at hj;obtain⟨nk,Ix,rfl⟩:=hj;rw[gg,Nat.add_assoc];cases nk with
       | c kk=>
         obtain⟨u,_,h2,h3⟩:=Ki (j+jj) _ Ix;rw[h2];have h3:u=kk.val (r.getD (j+jj) 0):=h3;rw[h3,pW,<- bF.e _ By,<- IE.aq bF.e QK];simp only[cellAt,Ze]
       | s e kk=>
         obtain⟨u,h1,h2,_⟩:=Ki (j+jj) _ Ix;obtain⟨u',EF,e1,_⟩:=De (j+jj) e kk Ix;rw[h1,af]at EF;subst EF;rw[h2];simp only[ah.ae,e1]
   have hW:pJ st ph o.op=none:=by rw[ho];rfl
   have KS:bh (st.bn key n.aK.length).has (fh n.lv i key 0 n.aK)=true:=vK (bI _ By) (IE.aB bI QK) b8;refine⟨_,w,_,ak,ph.tI key us,cy,rfl,?_,QL⟩;rw[hW];unfold lx;refine⟨⟨?_,?_,hs.below,by rw[cA];exact hs.defers,?_,?_⟩,bF,cd w,fun k hk=>by rw[cj];exact bI k hk,fun b hb=>.inl ⟨b,by rw[bR]at hb;exact hb,rfl⟩⟩
   . exact ma (st:={st.bn key n.aK.length with rows:=cR (jm G key 0 n.aK) st.rows}) iP.tmps (by simp[aP.ae,EJ,SV.ae])
   . rw[bR,cU];have hm:=iP.mem;refine⟨hm.lQ,hm.bb,fun r' cF Ak=>?_,fun b hb r' cF Ak e=>?_,fun q hq q' Km cx GM Io uW b hb la=>?_⟩
     . rcases bH.1 cF with cF|cF
       . exact(UC r' cF).1
       . exact hm.row r' cF Ak
     . rcases bH.1 cF with cF|cF
       . exact iP.nest.bz b hb ((UC r' cF).2.2 _ e)
       . exact hm.br b hb r' cF Ak e
     . rcases bH.1 hq with hq|hq
       . rw[(UC q hq).2.1]at GM;cases GM
       . rcases bH.1 Km with Km|Km
         . exact iP.nest.rz q hq GM Io b hb ((UC q' Km).2.2 _ la)
         . exact hm.rr q hq q' Km cx GM Io uW b hb la
   . refine⟨?_,?_,?_⟩
     . refine fP (st:={st.bn key n.aK.length with rows:=cR (jm G key 0 n.aK) st.rows}) (fun t s ht=>aP.aB bI (hs.names.tmps t s ht)) ?_
       simp only[aP.all,SV.all,ao];exact⟨BE.aB bI pP,As _ KS⟩
     . rw[bR,cj];exact fun b hb=>gC.aB bI (hs.names.aT b hb)
     . rw[cU,cj];intro r' cF;rcases bH.1 cF with cF|cF
       . obtain⟨m,e,kk,hm,rfl⟩:=pz r' cF;have:=b8 m (cT.1 hm).1;simp only[Row.all,ao];exact⟨this,this,BE.aB bI pP⟩
       . exact Row.aB bI (hs.names.rows r' cF)
   . refine da.put (st:={st.bn key n.aK.length with rows:=cR (jm G key 0 n.aK) st.rows}) (iP.nest.next (cw (p:=st.has)) rfl bI (cd w) (fun k hk=>by cases hk) rfl (fun b hb=>.inl ⟨b,hb,rfl⟩) (fun r' cF h1 b hb=>?_))
     rcases bH.1 cF with cF|cF
     . exact .inr (.inr (.inr ⟨(UC r' cF).2.1,(UC r' cF).2.2 b hb⟩))
     . exact .inl ⟨r',cF,id,h1,hb⟩
theorem KT{Γ:bO}{w0 w:World}{st:St}{a:Act}{dst:Option Tmp}{key:Nat}{k:az->Prop}{n:dG}{i:IE}{G:BE}{v:V1}
   (hs:Sat w0 U ph st a w) (hG:G.ae U=false) (pP:G.all st.has=true) (aR:st.free key n.aK.length=true) (QK:i.all st.has=true) (By:st.has n.lv=true) (As:∀q:Nat->Bool,bh q (fh n.lv i key 0 n.aK)=true->v.all q=true)
   (hk:aN Γ (pt G [(BE.le (.c 0) i).mk,(BE.lt i (.len n.lv)).mk]++Dd n.lv i key n.aK 0 n.aK) k U) :
   ∃ak,Step w0 U ak ph ph st (lx st G key dst n v) (a.put dst undef) w w none/\k ak:=by
 rw[fe]at hk;obtain⟨hk,_⟩:=oN hk;obtain⟨ak,QL,Yf,_,_⟩:=Ar (aM:=U) (q:=st.has) By QK (fun x a b=>cM aR a b) (by omega) (fun _ _=>rfl) hk
 have bF:bj st.has U ak ph ph:=⟨fun x hx=>(Yf x hx).symm,fun _ _=>rfl,fun _ _=>rfl⟩
 have iP:=hs.congr bF;have EJ:G.ae ak=false:=by rw[<- BE.aq bF.e pP];exact hG
 have bI:∀k,st.has k=true->(st.bn key n.aK.length).has k=true:=fun k hk=>fO hk
 have b8:∀m,m<n.aK.length->(st.bn key n.aK.length).has (key+m)=true:=fun m hm=>hZ (by omega) (by omega)
 have pz:∀r'∈jm G key 0 n.aK,∃(m:Nat) (e:TypeId) (kk:CK),n.aK[m]?=some (.s e kk)/\r'=⟨key+m,e,[kk],key+m,false,G⟩:=fun r' cF=>by
   obtain⟨m,e,kk,a,b⟩:=Aq cF;exact⟨m,e,kk,a,by rw[b,Nat.zero_add]⟩
 have KS:bh (st.bn key n.aK.length).has (fh n.lv i key 0 n.aK)=true:=vK (bI _ By) (IE.aB bI QK) b8;have ho:∀r∈cR (jm G key 0 n.aK) st.rows,r.g.ae ak=true->r∈st.rows:=fun r hr h1=>by
   rcases bH.1 hr with hr|hr
   . obtain⟨m,e,kk,_,rfl⟩:=pz r hr;rw[EJ]at h1;cases h1
   . exact hr
 refine⟨ak,⟨⟨?_,?_,hs.below,by rw[cA];exact hs.defers,?_,?_⟩,bF,cd w,fun k hk=>by rw[lx,cj];exact bI k hk,fun b hb=>.inl ⟨b,by rw[lx,bR]at hb;exact hb,rfl⟩⟩,QL⟩
 . refine ma (st:={st.bn key n.aK.length with rows:=cR (jm G key 0 n.aK) st.rows}) iP.tmps ?_;simp only[aP.ae,EJ];rfl
 . rw[lx,bR,cU];have hm:=iP.mem;exact⟨hm.lQ,hm.bb,fun r hr h1=>hm.row r (ho r hr h1) h1,fun b hb r hr h1=>hm.br b hb r (ho r hr h1) h1,fun r hr r' cF cx hw h1 h2=>hm.rr r (ho r hr h1) r' (ho r' cF h2) cx hw h1 h2⟩
 . refine⟨?_,?_,?_⟩
   . refine fP (st:={st.bn key n.aK.length with rows:=cR (jm G key 0 n.aK) st.rows}) (fun t s ht=>aP.aB bI (hs.names.tmps t s ht)) ?_
     simp only[aP.all,SV.all,ao];exact⟨BE.aB bI pP,As _ KS⟩
   . rw[lx,bR,cj];exact fun b hb=>gC.aB bI (hs.names.aT b hb)
   . rw[lx,cU,cj];intro r' cF;rcases bH.1 cF with cF|cF
     . obtain⟨m,e,kk,hm,rfl⟩:=pz r' cF;have:=b8 m (cT.1 hm).1;simp only[Row.all,ao];exact⟨this,this,BE.aB bI pP⟩
     . exact Row.aB bI (hs.names.rows r' cF)
 . exact da.put (st:={st.bn key n.aK.length with rows:=cR (jm G key 0 n.aK) st.rows}) (iP.nest.next (cw (p:=st.has)) rfl bI (cd w) (fun k hk=>by cases hk) rfl (fun b hb=>.inl ⟨b,hb,rfl⟩) (fun r' cF h1 b hb=>.inl ⟨r',ho r' cF h1,id,h1,hb⟩))
end Go.Sx
namespace Go.Sx
open Go.RowKit
variable {U:az}{ph:Ph}{P:Program}
theorem Dj{w:World}{B:Nat}{t ty e:TypeId}{room sz:Nat}{a0:Option Addr}{y:Value}{n m:Nat}{xs news:List Value}(ht:P.underlying t=some (.slice e))(hr:jX P e=some room)(sQ:P.cellsOf e=sz)
   (h0:a0=none->n=0) (nP:∀j u,xs[j]?=some u->∃a,a0=some a/\w.cell? (a.add j)=some u) (nL:xs.length=n*sz) (hy:Reads w y m news) (hl:news.length=m*sz) (h1:∀u∈news,u.oneCell'=true) (tw:0<m) (jN:n+m<=room) (hB:B<=w.heap.size) :
   ∃(sl:Option Addr×Nat×Nat) (w':World),(Builtin.append_ #[t,t] ty #[.slice a0 n n,y]).run P w = .ok (.slice sl.1 sl.2.1 sl.2.2) w'/\w'.ownsRow B e sz (.slice sl.1 sl.2.1 sl.2.2) (n+m) (xs++news)/\w.grownBy w' none/\
     ((Value.slice sl.1 sl.2.1 sl.2.2).ownBlock=none\/(Value.slice sl.1 sl.2.1 sl.2.2).ownBlock=some w.heap.size):=by
 cases a0 with
 | none=>
   have hn:=h0 rfl;subst hn;have:xs=[]:=List.eq_nil_of_length_eq_zero (by rw[nL,Nat.zero_mul])
   subst this;obtain⟨sl,w',e1,e2,e3,e4⟩:=ql (ty:=ty) ht hr sQ (World.ownsRow_nil w B e sz) hy hl h1 jN hB;exact⟨sl,w',e1,e2,e3,e4⟩
 | some b=>
   unfold jX at hr;cases hi:P.info? e with
   |none=>simp[hi]at hr
   | some i=>
     simp only[hi]at hr;cases hz:i.zero with
     |none=>simp[hz]at hr
     | some z=>
       simp only[hz]at hr;split at hr
       . rename_i hc;simp only[ao,aC]at hc;obtain⟨⟨ke,Ap⟩,Zb⟩:=hc;simp only[af]at hr;subst hr;have Uz:i.size=sz:=by rw[<- sQ,oL hi]
         have Yd:(n+m)*i.bytes<=140737488355328:=(Nat.le_div_iff_mul_le ke).1 jN;have GL:n+m<=maxLen:=by
           have:n+m<=(n+m)*i.bytes:=Nat.le_mul_of_pos_right _ ke;unfold maxLen;omega
         obtain⟨base,cap,rfl,hm,sO,iu⟩:=hy;cases base with
         |none=>have:=(sO rfl).1;omega
         | some a=>
           have adu:0<sz:=by omega
           have hlen:(xs++news).length=(n+m)*sz:=by rw[eH,nL,hl,Nat.add_mul]
           obtain⟨v',w',e1,e2,e3⟩:=run_append_arg_grows (P:=P) w t ty e i z sz i.bytes ht hi hz Uz rfl (by rw[Zb,Uz]) adu b n n xs nL
             (fun j u hj=>by obtain⟨a',e,h⟩:=nP j u hj;simp only[af]at e;subst e;exact h) a m cap news hl
             (fun j u hj=>by obtain⟨a',e,h⟩:=iu j u hj;simp only[af]at e;subst e;exact h) (by omega) GL Yd
           obtain⟨sl,rfl⟩:=jW e2;refine⟨sl,w',e1,⟨e2.1,?_⟩,e3,?_⟩
           . rcases e2.2 with hh|⟨g,nN,cur,f1,f2,f3⟩
             . exact .inl hh
             . exact .inr ⟨g,nN,cur,f1,by omega,f3⟩
           . rcases e2.2 with⟨hh,_⟩|⟨g,nN,cur,f1,f2,f3,f4⟩
             . left;rw[hh];rfl
             ·
               right;have hr:=run_append_grow (P:=P) w t ty e i z ht hi hz b n n xs (by rw[nL,Uz]) (fun j u hj=>by obtain⟨a',e,h⟩:=nP j u hj;simp only[af]at e;subst e;exact h) a m cap news (by rw[hl,Uz])
                 (fun j u hj=>by obtain⟨a',e,h⟩:=iu j u hj;simp only[af]at e;subst e;exact h) (by omega) (by unfold maxLen at GL;omega) (growslice_fits (by omega) Yd)
               rw[e1]at hr;simp only[Result.ok.injEq]at hr;rw[hr.1];rfl
       . cases hr
theorem xt{Γ:bO}{w0 w:World}{st aZ:St}{a:Act}{o:Oper}{t e:TypeId}{x y:Operand}{key room:Nat}{cY:List Ev}{k:az->Prop}{ra rb:Row}
   (hs:Sat w0 U ph st a w) (ho:o.op = .call {callee:=.builtin .append,args:=#[x,y],argTypes:=#[t,t] }) (hu:P.underlying t=some (.slice e)) (hr:jX P e=some room)
   (hx:bl st (.c true) x=some (.cs ra.id)) (hy:bl st (.c true) y=some (.s rb.id)) (xu:ra∈st.rows) (zw:rb∈st.rows) (IG:ra.g = .c true) (Bx:rb.g = .c true) (lS:ra.ks=rb.ks) (nU:P.cellsOf e=ra.ks.length)
   (h:newRow st (.c true) key e ra.ks [.aG (BE.lt (.c 0) (.len rb.lv)).mk,.aG (BE.le (IE.add (.len ra.lv) (.len rb.lv)).mk (.c (room:Int))).mk] (.app ra.lv rb.lv) st.rows o.dst=some (cY,aZ)) (hk:aN Γ cY k U) :
   mK Γ P w0 U ph st aZ o a w k:=by
 unfold newRow at h;split at h
 . rename_i aR;simp only[ao]at aR;obtain⟨aR,pP⟩:=aR;simp only[af,ax]at h;obtain⟨rfl,rfl⟩:=h;obtain⟨h0,hk⟩:=iw (es:=[.aG (BE.le (IE.add (.len ra.lv) (.len rb.lv)).mk (.c (room:Int))).mk,.ch key (.app ra.lv rb.lv)]) hk;obtain⟨h1,hk⟩:=iw (es:=[.ch key (.app ra.lv rb.lv)]) hk;have h0:=eM h0;have h1:=bS h1;rw[IE.cf]at h1;simp only[IE.ae]at h0 h1;have cO:k (U.set key (.l ((U ra.lv).list++(U rb.lv).list))):=hk;have Bz:=hs.mem.row ra xu (by rw[IG];rfl)
   have UE:=hs.mem.row rb zw (by rw[Bx];rfl)
   have ex:=ay hx b9 hs.tmps;have ey:=ay hy b9 hs.tmps;simp only[ah.ae]at ex ey;obtain⟨base,cap,hv,hn,ke,iu⟩:=Bz.reads;have iH:ph.v ra.id=(base,(U ra.lv).list.length,cap):=by
     simp only[Ph.val,Value.slice.injEq]at hv;exact Prod.ext hv.1 (Prod.ext hv.2.1 hv.2.2)
   rw[iH]at ex;have Zk:=UE.reads;rw[<- lS]at Zk;obtain⟨sl,w',e1,e2,e3,e5⟩:=Dj (ty:=o.type) hu hr nU (fun e=>(ke e).1) iu (bM _ _) Zk (bM _ _) (hO _ _) (by omega) (by omega) hs.below.size
   rw[<- kK,<- eH]at e2;have et:=jV (dst:=o.dst) (sl:=sl) (row:=none) (rows:=st.rows) hs pP b9 aR Bz.1 (fun _ h=>h) e3 (fun _ h=>by cases h) (fun _ _=>by simp) (fun _ _ _ _ _=>by simp) e2 (by
     rcases e5 with e5|e5
     . exact .inl e5
     . exact .inr (.inl e5))
   have hW:pJ st ph o.op=none:=by simp[ho,pJ,hx]
   refine⟨.value (.slice sl.1 sl.2.1 sl.2.2),w',_,_,_,?_,rfl,by rw[hW];exact et,cO⟩
   simp only[execOp,ho,resolve,invoke,builtin,Sem.run_bind,Sem.run_pure,Result.andThen_ok,List.map_toArray,List.map_cons,List.map_nil,ex,ey,e1]
 . cases h
theorem At{w:World}{B:Nat}{e:TypeId}{sz:Nat}{base:Option Addr}{n cap:Nat}{xs:List Value}(bG:w.ownsRow B e sz (.slice base n cap) n xs)(vs:List Value)(hl:vs.length<=n*sz)(h1:∀v∈vs,v.oneCell'=true) :
   ∃w',(∀a,base=some a->(storeCells a vs).run P w = .ok () w')/\(base=none->w'=w)/\w'.ownsRow B e sz (.slice base n cap) n (vs++xs.drop vs.length)/\w.grownBy w' (Value.slice base n cap).ownBlock:=by
 obtain⟨nL,⟨e1,jf⟩|⟨g,nN,cur,e1,hg,hh,sJ,Ip,iu,qi⟩⟩:=bG
 . simp only[Value.slice.injEq]at e1;obtain⟨rfl,rfl,rfl⟩:=e1;have kN:vs=[]:=List.eq_nil_of_length_eq_zero (by simpa using hl)
   have nP:xs=[]:=List.eq_nil_of_length_eq_zero (by simpa using nL)
   subst kN nP;exact⟨w,(by intro a h;cases h),(by intro _;rfl),World.ownsRow_nil _ _ _ _,hU (cd w)⟩
 . simp only[Value.slice.injEq,true_and]at e1;obtain⟨rfl,rfl⟩:=e1;have mJ:cur.toList.length=cap*sz:=by simpa using iu
   have hle:n*sz<=cap*sz:=Nat.mul_le_mul_right _ sJ;obtain⟨w',hr,gn,Kj⟩:=jl (P:=P) g e 0 vs 0 cur.toList w (by simpa using hh) (by rw[mJ];omega) h1
   have oK:=rB vs cur.toList 0 0 (by rw[mJ];omega)
   rw[oK]at Kj;simp only[Nat.zero_add,Nat.add_zero,List.take_zero,List.nil_append]at Kj;refine⟨w',(by intro a ha;cases ha;exact hr),(by intro h;cases h),⟨?_,.inr ⟨g,cap,_,rfl,hg,Kj,sJ,Ip,?_,?_⟩⟩,gn⟩
   . simp only[eH,List.length_drop,nL];omega
   . simp only[List.size_toArray,eH,List.length_drop,mJ];omega
   . simp only[List.toList_toArray];rw[List.take_append,List.take_of_length_le (by omega),<- qi]
     congr 1;rw[List.drop_take]
theorem zB(ks:List CK):∀(xs:List (List Int)) (n:Nat),aA ks (xs.drop n)=(aA ks xs).drop (n*ks.length):=by
 intro xs;induction xs with
 |nil=>intro n;simp[aA]
 | cons r rs ih=>
   intro n;cases n with
   |zero=>simp
   | succ n=>
     simp only[List.drop_succ_cons,aA,ih];rw[show(n+1)*ks.length=ks.length+n*ks.length by rw[Nat.add_mul];omega,List.drop_append,cg,List.drop_of_length_le (l:=bL ks 0 r) (by rw[cg];omega),List.nil_append]
     congr 1;omega
theorem KZ{w:World}{B:Nat}{r:Row}(h:fE B U ph r w):∃base cap,ph.val r.id = .slice base (U r.lv).list.length cap/\(base=none->(U r.lv).list.length=0/\cap=0):=by
 obtain⟨base,cap,hv,_,ke,_⟩:=h.reads;exact⟨base,cap,hv,ke⟩
theorem IH{e:TypeId}(h:(P.info? e).isSome=true):∃i,P.info? e=some i/\i.size=P.cellsOf e:=by
 obtain⟨i,hi⟩:=Option.isSome_iff_exists.1 h;exact⟨i,hi,(oL hi).symm⟩
theorem II{Γ:bO}{w0 w:World}{st:St}{a:Act}{o:Oper}{t e:TypeId}{x y:Operand}{key:Nat}{k:az->Prop}{ra rb:Row}
   (hs:Sat w0 U ph st a w) (ho:o.op = .call {callee:=.builtin .copy,args:=#[x,y],argTypes:=#[t,t] }) (hu:P.underlying t=some (.slice e))
   (hx:bl st (.c true) x=some (.s ra.id)) (hy:bl st (.c true) y=some (.s rb.id)) (xu:ra∈st.rows) (zw:rb∈st.rows) (bG:ra.own=true) (IG:ra.g = .c true) (Bx:rb.g = .c true) (lS:ra.ks=rb.ks) (nU:P.cellsOf e=ra.ks.length)
   (hi:(P.info? e).isSome=true) (aR:st.free key 1=true) (hk:aN Γ [.ch key (.Qh ra.lv rb.lv)] k U) :
   mK Γ P w0 U ph st ({st.bn key 1 with rows:=dc {ra with lv:=key} (st.rows.filter fun r=>decide (r.id≠ra.id)) }.put o.dst ⟨.c true,.v (.one (.i .i64 (.min (.len ra.lv) (.len rb.lv))))⟩) o a w k:=by
 have EY:ra.g.ae U=true:=by rw[IG];rfl
 have Bz:=hs.mem.row ra xu EY;have UE:=hs.mem.row rb zw (by rw[Bx];rfl)
 have ex:=ay hx b9 hs.tmps;have ey:=ay hy b9 hs.tmps;simp only[ah.ae]at ex ey;have cP:=Bz.2;rw[if_pos bG]at cP;obtain⟨ba,ca,iH,hba⟩:=KZ Bz;obtain⟨bb,cb,hvb,Zl,hbb,hcb⟩:=UE.reads;rw[iH]at cP;obtain⟨i,hii,his⟩:=IH hi;obtain⟨m,hm⟩:∃m,m=Nat.min (U rb.lv).list.length (U ra.lv).list.length:=⟨_,rfl⟩;have wx:m<=(U rb.lv).list.length:=by rw[hm];exact Nat.min_le_left _ _
 have EE:m<=(U ra.lv).list.length:=by rw[hm];exact Nat.min_le_right _ _
 obtain⟨vs,kN⟩:∃vs,vs=aA rb.ks ((U rb.lv).list.take m):=⟨_,rfl⟩;have qj:vs.length=m*ra.ks.length:=by rw[kN,bM,List.length_take,lS];congr 1;omega
 have hlm:m*ra.ks.length<=(U ra.lv).list.length*ra.ks.length:=Nat.mul_le_mul_right _ EE;obtain⟨w',dB,K2,ia,gn⟩:=At (P:=P) cP vs (by omega) (by rw[kN];exact hO _ _)
 have uV:(cZ.Qh ra.lv rb.lv).ae U=(U rb.lv).list.take m++(U ra.lv).list.drop m:=by
   simp only[cZ.ae];rw[hm];rcases Nat.le_total (U rb.lv).list.length (U ra.lv).list.length with hle|hle
   . rw[show Nat.min (U rb.lv).list.length (U ra.lv).list.length=(U rb.lv).list.length from Nat.min_eq_left hle]
     rw[List.take_of_length_le hle,List.take_of_length_le (Nat.le_refl _)]
   . rw[show Nat.min (U rb.lv).list.length (U ra.lv).list.length=(U ra.lv).list.length from Nat.min_eq_right hle]
     rw[List.drop_of_length_le hle,List.drop_of_length_le (Nat.le_refl _)]
 obtain⟨kY,Bt⟩:∃kY,kY=(U rb.lv).list.take m++(U ra.lv).list.drop m:=⟨_,rfl⟩;have cO:k (U.set key (.l kY)):=by rw[Bt,<- uV];exact hk
 have nL:kY.length=(U ra.lv).list.length:=by rw[Bt];simp only[eH,List.length_take,List.length_drop];omega
 have IJ:aA ra.ks kY=vs++(aA ra.ks (U ra.lv).list).drop vs.length:=by
   rw[Bt,kK,kN,<- lS,zB,bM];congr 2;rw[List.length_take];congr 1;omega
 have hW:pJ st ph o.op=(ph.val ra.id).ownBlock:=by simp[ho,pJ,hx]
 have sP:st.has key=false:=cM aR (Nat.le_refl _) (by omega)
 have kM:=fun(q:Row) (hq:q∈st.rows)=>by
   have:=hs.names.rows q hq;simpa only[Row.all,ao]using this
 have cx:∀k,st.has k=true->k≠key:=fun k hk e=>by rw[e,sP]at hk;cases hk
 refine⟨.value (goInt m),w',_,U.set key (.l kY),ph,?_,rfl,?_,cO⟩
 . have hfc:∀sl:Option Addr,bb=sl->(Builtin.firstCells ra.ks.length m (.slice sl (U rb.lv).list.length cb)).run P w = .ok vs.toArray w:=by
     intro sl De;cases sl with
     | none=>
       have:=(hbb De).1;have tw:m=0:=by omega
       rw[kN,tw];simp[Builtin.firstCells,aA]
     | some b=>
       have xh:=run_firstCells_some (P:=P) w ra.ks.length m b (U rb.lv).list.length cb vs qj (fun j u hj=>by
         have:(aA rb.ks (U rb.lv).list)[j]?=some u:=by
           rw[kN,su]at hj;rw[List.getElem?_take]at hj;split at hj
           . exact hj
           . cases hj
         obtain⟨a',e,h⟩:=hcb j u this;rw[De,af]at e;subst e;exact h)
       exact xh
   have hfc:=hfc bb rfl;simp only[execOp,ho,resolve,invoke,builtin,Sem.run_bind,Sem.run_pure,Result.andThen_ok,List.map_toArray,List.map_cons,List.map_nil,ex,ey,iH,hvb];have cy:(Builtin.copy_ #[t,t] o.type #[.slice ba (U ra.lv).list.length ca,.slice bb (U rb.lv).list.length cb]).run P w = .ok (goInt m) w':=by
     simp only[Builtin.copy_,List.getElem?_toArray,List.getElem?_cons_zero,List.getElem?_cons_succ,Sem.run_bind,run_underlying hu,Result.andThen_ok,Builtin.lenOf,Sem.run_pure,bZ (P:=P) (t:=e) (by rw[nU];exact Bz.1),nU,<- hm,hfc]
     cases IK:ba with
     |none=>simp[K2 IK]
     |some b=>simp[dB b IK]
   rw[cy];rfl
 . rw[hW];refine qd hs xu bG EY aR (by rw[iH,nL,IJ];exact ia) (by rw[iH];exact gn) ?_ ?_
   . simp only[aP.all,BE.all,SV.all,V1.all,ah.all,IE.all,Bool.true_and,ao];exact⟨fO (kM ra xu).2.1,fO (kM rb zw).2.1⟩
   . simp only[aP.ae,BE.ae,if_true,SV.ae,V1.ae,ah.ae,IE.ae,az.set,cx _ (kM ra xu).2.1,cx _ (kM rb zw).2.1,if_false,goInt];congr 1;rw[hm];have:((Nat.min (U rb.lv).list.length (U ra.lv).list.length:Nat):Int)=min ((U ra.lv).list.length:Int) ((U rb.lv).list.length:Int):=by
       have:Nat.min (U rb.lv).list.length (U ra.lv).list.length=min (U rb.lv).list.length (U ra.lv).list.length:=rfl;rw[this];omega
     exact this
theorem E3{Γ:bO}{w0 w:World}{st:St}{a:Act}{o:Oper}{t e:TypeId}{x:Operand}{key:Nat}{k:az->Prop}{ra:Row}{z:V1}
   (hs:Sat w0 U ph st a w) (ho:o.op = .call {callee:=.builtin .clear,args:=#[x],argTypes:=#[t] }) (hu:P.underlying t=some (.slice e))
   (hx:bl st (.c true) x=some (.s ra.id)) (xu:ra∈st.rows) (bG:ra.own=true) (IG:ra.g = .c true) (nU:P.cellsOf e=ra.ks.length) (hz:nQ P e=some z) (Qf:z.leaves=ra.ks.map zeroOf)
   (aR:st.free key 1=true) (hk:aN Γ [.ch key (.rep (.len ra.lv) (List.replicate ra.ks.length 0))] k U) :
   mK Γ P w0 U ph st ({st.bn key 1 with rows:=dc {ra with lv:=key} (st.rows.filter fun r=>decide (r.id≠ra.id)) }.put o.dst ⟨.c true,.ED []⟩) o a w k:=by
 have EY:ra.g.ae U=true:=by rw[IG];rfl
 have Bz:=hs.mem.row ra xu EY;have ex:=ay hx b9 hs.tmps;simp only[ah.ae]at ex;have cP:=Bz.2;rw[if_pos bG]at cP;obtain⟨ba,ca,iH,hba⟩:=KZ Bz;rw[iH]at cP;obtain⟨n,hn⟩:∃n,n=(U ra.lv).list.length:=⟨_,rfl⟩;rw[<- hn]at cP iH hba;obtain⟨i,zv,hii,UB,fY⟩:=qn (U:=U) (ph:=ph) hz;rw[Qf]at fY;have Zb:zv.cells.size=ra.ks.length:=by rw[fY];simp
 have Zm:=uU fY n;have Qi:(Builtin.zeroCells zv.cells n).toList=aA ra.ks (List.replicate n (List.replicate ra.ks.length 0)):=by
   rw[<- Zm];simp only[Builtin.zeroCells,madeCells,Zb]
 obtain⟨vs,kN⟩:∃vs,vs=aA ra.ks (List.replicate n (List.replicate ra.ks.length 0)):=⟨_,rfl⟩;rw[<- kN]at Qi;have qj:vs.length=n*ra.ks.length:=by rw[kN,bM,List.length_replicate]
 obtain⟨w',dB,K2,ia,gn⟩:=At (P:=P) cP vs (by omega) (by rw[kN];exact hO _ _)
 have hd:(aA ra.ks (U ra.lv).list).drop vs.length=[]:=List.drop_of_length_le (by rw[bM,qj,hn];exact Nat.le_refl _)
 rw[hd,List.append_nil]at ia;obtain⟨kY,Bt⟩:∃kY,kY=List.replicate n (List.replicate ra.ks.length (0:Int)):=⟨_,rfl⟩;have cO:k (U.set key (.l kY)):=by
   have:k (U.set key (.l ((cZ.rep (.len ra.lv) (List.replicate ra.ks.length 0)).ae U))):=hk;simp only[cZ.ae,IE.ae,<- hn,Int.toNat_natCast,<- Bt]at this;exact this
 have hW:pJ st ph o.op=(ph.val ra.id).ownBlock:=by simp[ho,pJ,hx]
 refine⟨.value (.tuple #[]),w',_,U.set key (.l kY),ph,?_,rfl,?_,cO⟩
 . simp only[execOp,ho,resolve,invoke,builtin,Sem.run_bind,Sem.run_pure,Result.andThen_ok,List.map_toArray,List.map_cons,List.map_nil,ex,iH];have cy:(Builtin.clear_ #[t] o.type #[.slice ba n ca]).run P w = .ok (.tuple #[]) w':=by
     simp only[Builtin.clear_,List.getElem?_toArray,List.getElem?_cons_zero,Sem.run_bind,run_underlying hu,Result.andThen_ok];cases IK:ba with
     | none=>
       have:=K2 IK;subst this;simp
     | some b=>
       cases nC:n with
       | zero=>
         have adv:vs=[]:=List.eq_nil_of_length_eq_zero (by rw[qj,nC,Nat.zero_mul])
         have:=dB b IK;rw[adv]at this;simp only[storeCells,Sem.run_pure,Result.ok.injEq,true_and]at this;subst this;simp
       | succ n'=>
         rw[nC]at Qi;have hze:(zeroValue e).run P w = .ok zv w:=by simp[zeroValue,typeInfo,hii,UB]
         simp[hze,Qi,dB b IK]
   rw[cy];rfl
 . rw[hW];have tu:kY.length=n:=by rw[Bt];simp
   refine qd hs xu bG EY aR (by rw[iH,tu,Bt,<- kN];exact ia) (by rw[iH];exact gn) rfl rfl
end Go.Sx
namespace Go.Sx
open Go.RowKit
variable {U:az}{ph:Ph}{P:Program}
theorem IB{Γ:bO}{w0 w:World}{st:St}{a:Act}{o:Oper}{src IC e:TypeId}{x:Operand}{key:Nat}{k:az->Prop}{bs:List UInt8}
   (hs:Sat w0 U ph st a w) (ho:o.op = .convert src IC x) (UD:P.underlying src=some .string) (hd:P.underlying IC=some (.slice e)) (he:P.underlying e=some (.int .u8)) (hx:bl st (.c true) x=some (.str bs)) (hlen:bs.length<=4096)
   (aR:st.free key 1=true) (hk:aN Γ [.ch key (.lit (bs.map fun b=>[Sum.inl (IE.c (b.toNat:Int))]))] k U) :
   mK Γ P w0 U ph st ({st.bn key 1 with rows:=dc ⟨key,e,[.i .u8],key,false,.c true⟩ st.rows}.put o.dst ⟨.c true,.v (.one (.kb key bs))⟩) o a w k:=by
 have ex:=ay hx b9 hs.tmps;simp only[ah.ae]at ex;obtain⟨s,hsd⟩:∃s:ByteArray,s=⟨bs.toArray⟩:=⟨_,rfl⟩;rw[<- hsd]at ex;have hss:s.size=bs.length:=by rw[hsd];simp[ByteArray.size]
 have cy:=run_bytes_of_string (P:=P) w src IC e s UD hd he;have sS:=grownCap_ge w s.size 0 e;obtain⟨cap,KA⟩:∃cap,cap=grownCap w s.size 0 e:=⟨_,rfl⟩;rw[<- KA]at cy sS;obtain⟨xs,nP⟩:∃xs:List (List Int),xs=bs.map fun b=>[(b.toNat:Int)]:=⟨_,rfl⟩
 have cO:k (U.set key (.l xs)):=by
   have:k (U.set key (.l ((cZ.lit (bs.map fun b=>[Sum.inl (IE.c (b.toNat:Int))])).ae U))):=hk
   have e:(cZ.lit (bs.map fun b=>[Sum.inl (IE.c (b.toNat:Int))])).ae U=xs:=by
     rw[nP];simp only[cZ.ae,List.map_map];apply List.map_congr_left;intro b _;rfl
   rw[e]at this;exact this
 have nL:xs.length=bs.length:=by rw[nP];simp
 have sP:st.has key=false:=cM aR (Nat.le_refl _) (by omega)
 have cx:∀k,st.has k=true->k≠key:=fun k hk e=>by rw[e,sP]at hk;cases hk
 obtain⟨sl,De⟩:∃sl:Option Addr×Nat×Nat,sl=(some ⟨w.heap.size,0,none⟩,bs.length,cap):=⟨_,rfl⟩;have bF:bj st.has U (U.set key (.l xs)) ph (ph.tG key sl):=⟨fun k hk=>by simp[az.set,cx k hk],fun _ _=>rfl,fun k hk=>by simp[Ph.tG,cx k hk]⟩
 have fq:(ph.tG key sl).val key = .slice (some ⟨w.heap.size,0,none⟩) bs.length cap:=by simp[Ph.val,Ph.tG,De]
 have vG:(st.bn key 1).has key=true:=hZ (Nat.le_refl _) (by omega)
 have hW:pJ st ph o.op=none:=by simp[ho,pJ]
 obtain⟨W,Zi⟩:∃W,W=w.drew.alloc (.cells (bytesRow s cap) e ((bytesRow s cap).size,(bytesRow s cap).size+1)):=⟨_,rfl⟩;rw[<- Zi]at cy;have adt:w.grownBy W none:=by
   rw[Zi];exact⟨rfl,rfl,rfl,by simp,fun k hk _=>heap_alloc_old w.drew _ (show k<w.drew.heap.size from by simpa using hk)⟩
 refine⟨.value (.slice (some ⟨w.heap.size,0,none⟩) s.size cap),W,a.put o.dst (.slice (some ⟨w.heap.size,0,none⟩) s.size cap),U.set key (.l xs),ph.tG key sl,?_,rfl,?_,cO⟩
 . simp only[execOp,ho,ex,Sem.run_bind,cy,Result.andThen_ok,Sem.run_pure]
 . rw[hW,hss];refine Br (nr:=⟨key,e,[.i .u8],key,false,.c true⟩) hs rfl rfl rfl aR (fun _ h=>h) adt (fun _ h=>by cases h) bF rfl vG (fun _ _=>by simp) (fun _ _ _ _ _=>by simp) ⟨by simp,?_⟩ (fun k hk=>?_) ?_ ?_
   . simp only[Bool.false_eq_true,if_false,fq,az.set,if_true,DV.list,nL];refine⟨_,cap,rfl,⟨by unfold maxLen;omega,by omega⟩,fun h=>by simp at h,fun j u hj=>⟨_,rfl,?_⟩⟩
     have EG:j<bs.length:=by
       have:=(cT.1 hj).1;rw[bM,nL]at this;simpa using this
     have hf:=lg [.i .u8] xs j 0 (by omega) (by simp)
     simp only[List.length_singleton,Nat.mul_one,Nat.add_zero]at hf;rw[hf]at hj;have ID:xs.getD j []=[((bs[j]'EG).toNat:Int)]:=by simp[nP,List.getD,EG]
     simp only[List.getElem?_cons_zero,Option.map_some,af,ID]at hj;subst hj;rw[iy];have hh:W.heap[w.heap.size]?=some (.cells (bytesRow s cap) e ((bytesRow s cap).size,(bytesRow s cap).size+1)):=by rw[Zi];exact heap_alloc_new w.drew _
     simp only[World.cell?,hh,Nat.zero_add];rw[hsd];simp[bytesRow,Array.getElem?_append,EG,CK.val]
   . simp only[Row.bQ,Bool.false_or,fq,Value.ownBlock]at hk;split at hk
     . simp only[af]at hk;exact .inr (by omega)
     . cases hk
   . simp only[aP.all,BE.all,SV.all,V1.all,ah.all,Bool.true_and];exact vG
   . simp[aP.ae,BE.ae,SV.ae,V1.ae,ah.ae,fq]
theorem IF(sz:Nat):∀(n i:Nat) (ps:List (Nat×V1)) (ls:List ah) (cells:List Value),jn sz n i ps=some ls->cells.length=(i+n)*sz->
   Instr.fill (fun i=>some (i*sz,sz)) cells.toArray (ps.map fun p=>(p.1,p.2.ae U ph))=some (cells.take (i*sz)++ls.map (ah.ae U ph)).toArray/\ls.length=n*sz:=by
 intro n;induction n with
 | zero=>
   intro i ps ls cells h hl;cases ps with
   | nil=>
     simp only[jn,af]at h;subst h;refine⟨?_,by simp⟩
     simp only[List.map_nil,Instr.fill,List.append_nil];rw[List.take_of_length_le (by rw[hl,Nat.add_zero];exact Nat.le_refl _)]
   |cons p ps=>simp[jn]at h
 | succ n ih=>
   intro i ps ls cells h hl;cases ps with
   |nil=>simp[jn]at h
   | cons p ps=>
     obtain⟨j,v⟩:=p;simp only[jn]at h;split at h
     . rename_i Bw;obtain⟨rfl,qj⟩:=Bw;simp only[bB]at h;obtain⟨GG,QN,rfl⟩:=h;have wz:(v.leaves.map (ah.ae U ph)).length=sz:=by rw[List.length_map,qj]
       have uT:(i+(n+1))*sz=i*sz+sz+n*sz:=by rw[Nat.add_mul,Nat.add_mul,Nat.one_mul];omega
       simp only[List.map_cons,Instr.fill,V1.fc];rw[if_neg (by simp[qj,hl,uT]<;>omega)]
       have oK:=rB (v.leaves.map (ah.ae U ph)) cells (i*sz) 0 (by rw[wz,hl,uT];omega)
       have Is:((v.leaves.map (ah.ae U ph)).toArray.zipIdx.foldl (fun cs (x:Value×Nat)=>cs.setIfInBounds (i*sz+x.2) x.1) cells.toArray)=(cells.take (i*sz)++v.leaves.map (ah.ae U ph)++cells.drop (i*sz+sz)).toArray:=by
         apply Array.ext';rw[uL];simp only[List.toList_toArray];rw[oK,wz,Nat.add_zero]
       obtain⟨e1,e2⟩:=ih (i+1) ps GG (cells.take (i*sz)++v.leaves.map (ah.ae U ph)++cells.drop (i*sz+sz)) QN (by
         simp only[eH,List.length_take,List.length_drop,wz,hl,uT];rw[show i+1+n=i+(n+1)by omega,uT]
         omega)
       refine⟨?_,by simp[qj,e2,Nat.add_mul];omega⟩
       refine(congrArg (fun c=>Instr.fill (fun i=>some (i*sz,sz)) c (ps.map fun p=>(p.1,p.2.ae U ph))) Is).trans ?_
       rw[e1];congr 2;rw[show(i+1)*sz=i*sz+sz by rw[Nat.add_mul,Nat.one_mul]]
       rw[List.take_append_of_le_length (by simp only[eH,List.length_take,wz,hl,uT];omega),List.take_of_length_le (by simp only[eH,List.length_take,wz,hl,uT];omega)]
       simp
     . cases h
theorem Di{w:World}{t e:TypeId}{n sz:Nat}{parts:Array (Nat×Operand)}{ps:List (Nat×V1)}{ls:List ah}{st:St}{a:Act}(hu:P.underlying t=some (.slice e))(ht:fj U ph st.tmps a.tmps){G:BE}(hG:G.ae U=true)(CU:gp st G parts.toList=some ps)(h0:0<sz)(hz:((P.info? e).bind (·.zero)).isSome=true)
   (jN:n*sz<=16777216) (hc:P.cellsOf e=sz) (uz:jn sz n 0 ps=some ls) :
   (Instr.buildSlice t n (parts.map fun(i,x)=>(i,a.eval x))).run P w = .ok (.slice (some ⟨w.heap.size,0,none⟩) n n) (w.alloc (.cells (ls.map (ah.ae U ph)).toArray e))/\ls.length=n*sz:=by
 have xo:=nw (a:=a) hG ht CU;obtain⟨i,hi,z,Kk⟩:∃i,P.info? e=some i/\∃z,i.zero=some z:=by
   cases hi:P.info? e with
   |none=>simp[hi]at hz
   |some i=>simp[hi]at hz;exact⟨i,rfl,Option.isSome_iff_exists.1 hz⟩
 have Y2:(zeroValue e).run P w = .ok z w:=by simp[zeroValue,typeInfo,hi,Kk]
 obtain⟨z0,Kl⟩:∃z0:Array Value,z0.size=(0+n)*sz/\(Instr.buildSlice t n (parts.map fun(i,x)=>(i,a.eval x))).run P w =
     (match Instr.fill (fun i=>some (i*sz,sz)) z0 (ps.map fun p=>(p.1,p.2.ae U ph))with
      |some cells=>.ok (.slice (some ⟨w.heap.size,0,none⟩) n n) (w.alloc (.cells cells e))
      |none=>.halt (.stuck "buildSlice: a part of the wrong size") w):=by
   by_cases hn:n*sz=0
   . refine⟨Array.map (fun x=>(#[]:Array Value)[x%(#[]:Array Value).size]!) (Array.range (n*sz)),by simp,?_⟩
     simp only[Instr.buildSlice,Sem.run_bind,run_underlying hu,Result.andThen_ok,bZ (P:=P) (w:=w) (t:=e) (by omega),hc]
     rw[if_neg (by omega),if_pos hn]
     simp only[Sem.run_bind,Sem.run_pure,Result.andThen_ok,Array.toList_map,xo];generalize Array.map _ (Array.range (n*sz))=zz;cases Instr.fill (fun i=>some (i*sz,sz)) zz (ps.map fun p=>(p.1,p.2.ae U ph))with
     |none=>rfl
     |some cells=>rfl
   . refine⟨(Array.range (n*sz)).map (z.cells[· % z.cells.size]!),by simp,?_⟩
     simp only[Instr.buildSlice,Sem.run_bind,run_underlying hu,Result.andThen_ok,bZ (P:=P) (w:=w) (t:=e) (by omega),hc]
     rw[if_neg (by omega),if_neg hn]
     simp only[Sem.run_bind,Y2,Sem.run_pure,Result.andThen_ok,Array.toList_map,xo];generalize Array.map _ (Array.range (n*sz))=zz;cases Instr.fill (fun i=>some (i*sz,sz)) zz (ps.map fun p=>(p.1,p.2.ae U ph))with
     |none=>rfl
     |some cells=>rfl
 obtain⟨Uy,cy⟩:=Kl;obtain⟨hf,hl⟩:=IF (U:=U) (ph:=ph) sz n 0 ps ls z0.toList uz (by simpa using Uy)
 simp only[Nat.zero_mul,List.take_zero,List.nil_append,Array.toArray_toList]at hf;rw[hf]at cy;exact⟨cy,hl⟩
theorem QP{Γ:bO}{w0 w:World}{st:St}{a:Act}{o:Oper}{t e:TypeId}{n sz key:Nat}{parts:Array (Nat×Operand)}{ps:List (Nat×V1)}{ls:List ah}{k:az->Prop}
   (hs:Sat w0 U ph st a w) (ho:o.op = .buildSlice t n parts) (hu:P.underlying t=some (.slice e)) (CU:gp st (.c true) parts.toList=some ps) (h0:0<sz) (hz:((P.info? e).bind (·.zero)).isSome=true)
   (jN:n*sz<=16777216) (hc:P.cellsOf e=sz) (uz:jn sz n 0 ps=some ls) (aR:st.free key 1=true) (Zj:bh st.has ls=true) (hk:k U) :
   mK Γ P w0 U ph st ({st.bn key 1 with aT:=kL ⟨key,e,ls⟩ st.aT}.put o.dst ⟨.c true,.v (.one (.bs key n sz))⟩) o a w k:=by
 obtain⟨cy,_⟩:=Di (P:=P) (w:=w) (a:=a) hu hs.tmps b9 CU h0 hz jN hc uz;have hW:pJ st ph o.op=none:=by simp[ho,pJ]
 have dB:=xj (a:=a) (e:=e) (dst:=o.dst) (s:=⟨.c true,.v (.one (.bs key n sz))⟩) (v:=.slice (some ⟨w.heap.size,0,none⟩) n n) hs aR Zj ?_ ?_
 . refine⟨.value (.slice (some ⟨w.heap.size,0,none⟩) n n),_,_,U,_,?_,rfl,by rw[hW];exact dB,hk⟩
   simp only[execOp,ho,Sem.run_bind,cy,Result.andThen_ok,Sem.run_pure]
 . simp only[aP.all,BE.all,SV.all,V1.all,ah.all,Bool.true_and];exact hZ (Nat.le_refl _) (by omega)
 . simp[aP.ae,BE.ae,SV.ae,V1.ae,ah.ae,Ph.nA]
end Go.Sx
namespace Go.Sx
open Go.RowKit
variable {U:az}{ph:Ph}{P:Program}
theorem gh{b x:dG}:∀ {l:List dG},b∈sT x l↔b=x\/b∈l:=by
 intro l;induction l with
 |nil=>simp[sT]
 | cons y l ih=>
   simp only[sT];split
   . simp
   . simp only[bq,ih];constructor
     . rintro(h|h|h)<;>simp[h]
     . rintro(h|h|h)<;>simp[h]
theorem xr{w0 w w':World}{st:St}{a:Act}{key:Nat}{e:TypeId}{aK:List NK}{xs:List (List Int)}{rows:List Row}{aY:List dG}{dst:Option Tmp}{sl:Option Addr×Nat×Nat}{row:Option Nat}{N:Nat->Prop}
   (h:Sat w0 U ph st a w) (aR:st.free key 1=true) (Ix:0<aK.length) (dX:∀r∈rows,r∈st.rows) (vL:∀n∈aY,n∈st.aY) (hg:w.grownBy w' row)
   (bc:∀k,row=some k->w0.heap.size<=k/\¬ ph.z k/\∀n∈aY,n.own=true->(ph.val n.id).ownBlock≠some k)
   (jI:∀b∈st.aT,row≠some (ph.r b.id)) (fU:∀r∈rows,r.g.ae U=true->∀k,r.bQ U ph=some k->row≠some k)
   (hN:∀k,N k->k<w.heap.size/\(∀b∈st.aT,ph.r b.id≠k)/\(∀r∈rows,r.g.ae U=true->r.bQ U ph≠some k)/\(∀n∈aY,n.own=true->(ph.val n.id).ownBlock≠some k)/\row≠some k)
   (bG:Bj (fun k=>(ph.z k\/N k)/\w0.heap.size<=k) w' w0.heap.size e aK (.slice sl.1 sl.2.1 sl.2.2) xs)
   (ia:(Value.slice sl.1 sl.2.1 sl.2.2).ownBlock=row\/(Value.slice sl.1 sl.2.1 sl.2.2).ownBlock=some w.heap.size\/(Value.slice sl.1 sl.2.1 sl.2.2).ownBlock=none) :
   Step w0 U (U.set key (.l xs)) ph {ph.tG key sl with z:=fun k=>ph.z k\/N k} st ({st.bn key 1 with rows,aY:=sT ⟨key,e,aK,key,.c true,true⟩ aY}.put dst ⟨.c true,.v (.one (.s key))⟩)
     (a.put dst (.slice sl.1 sl.2.1 sl.2.2)) w w' row:=by
 obtain⟨aH,KU⟩:∃aH:Ph,aH = {ph.tG key sl with z:=fun k=>ph.z k\/N k}:=⟨_,rfl⟩
 rw[<- KU];have Kk:∀k,aH.z k↔(ph.z k\/N k):=fun k=>by rw[KU]
 have sP:st.has key=false:=cM aR (Nat.le_refl _) (by omega)
 have cx:∀k,st.has k=true->k≠key:=fun k hk e=>by rw[e,sP]at hk;cases hk
 have bF:bj st.has U (U.set key (.l xs)) ph aH:=⟨fun k hk=>by simp[az.set,cx k hk],fun _ _=>by rw[KU];rfl,fun k hk=>by rw[KU];simp[Ph.tG,cx k hk]⟩
 have fq:aH.val key = .slice sl.1 sl.2.1 sl.2.2:=by rw[KU];simp[Ph.val,Ph.tG]
 have vG:(st.bn key 1).has key=true:=hZ (Nat.le_refl _) (by omega)
 have bI:∀k,st.has k=true->(st.bn key 1).has k=true:=fun k hk=>fO hk
 have Df:=h.mem.congr bF h.names.aT h.names.rows;have kM:=fun(q:Row) (hq:q∈st.rows)=>by
   have:=h.names.rows q hq;simpa only[Row.all,ao]using this
 have eB:∀r∈st.rows,r.bQ (U.set key (.l xs)) aH=r.bQ U ph:=fun r hr=>by
   unfold Row.bQ;rw[<- bF.e _ (kM r hr).2.1];simp only[Ph.val,bF.v _ (kM r hr).1]
 have mP:∀r∈st.rows,r.g.ae (U.set key (.l xs))=r.g.ae U:=fun r hr=>(BE.aq bF.e (kM r hr).2.2).symm
 have pI:∀b∈st.aT,aH.r b.id=ph.r b.id:=fun b hb=>by
   have:=h.names.aT b hb;simp only[gC.all,ao]at this;exact(bF.r _ this.1).symm
 have Yh:∀n∈st.aY,aH.val n.id=ph.val n.id/\(U.set key (.l xs)) n.lv=U n.lv/\n.g.ae (U.set key (.l xs))=n.g.ae U:=fun n hn=>by
   have:=h.nest.nm n hn;simp only[dG.all,ao]at this;exact⟨by simp only[Ph.val,bF.v _ this.1],(bF.e _ this.2.1).symm,(BE.aq bF.e this.2.2).symm⟩
 have Dg:∀k,(Value.slice sl.1 sl.2.1 sl.2.2).ownBlock=some k->row=some k\/k=w.heap.size:=fun k hk=>by
   rcases ia with e|e|e
   . exact .inl (by rw[<- e,hk])
   . rw[hk]at e;simp only[af]at e;exact .inr e
   . rw[hk]at e;cases e
 have Zf:∀k,aH.z k->k<w.heap.size:=fun k hk=>by
   rcases(Kk k).1 hk with hk|hk
   . exact h.nest.lt k hk
   . exact(hN k hk).1
 have Zg:∀k,row=some k->¬ aH.z k:=fun k hk Il=>by
   rcases(Kk k).1 Il with e|e
   . exact(bc k hk).2.1 e
   . exact(hN k e).2.2.2.2 hk
 refine⟨⟨?_,?_,h.below.grown hg h.below.size (fun k hk=>(bc k hk).1),by rw[cA];exact h.defers,?_,?_⟩,bF,hg,fun k hk=>by rw[cj];exact bI k hk,fun b hb=>.inl ⟨b,by rw[bR]at hb;exact hb,rfl⟩⟩
 . refine ma (st:={st.bn key 1 with rows,aY:=sT ⟨key,e,aK,key,.c true,true⟩ aY}) ⟨h.tmps.1,fun t s ht=>?_⟩ ?_
   . rw[<- aP.aq bF (h.names.tmps t s ht)];exact h.tmps.2 t s ht
   . simp[aP.ae,BE.ae,SV.ae,V1.ae,ah.ae,fq]
 . rw[bR,cU];refine⟨fun b hb=>(Df.lQ b hb).grown hg (fun e=>jI b hb (by rw[<- e,pI b hb])),Df.bb,fun r hr h1=>?_,fun b hb r hr h1=>Df.br b hb r (dX r hr) h1,fun r hr r' cF kx ho h1 h2=>Df.rr r (dX r hr) r' (dX r' cF) kx ho h1 h2⟩
   have dH:=dX r hr;exact(Df.row r dH h1).grown hg (fun k hk e=>by
     rw[eB r dH]at hk;rw[mP r dH]at h1;exact fU r hr h1 k hk e.symm)
 . refine⟨?_,?_,?_⟩
   . refine fP (st:={st.bn key 1 with rows,aY:=sT ⟨key,e,aK,key,.c true,true⟩ aY}) (fun t s ht=>aP.aB bI (h.names.tmps t s ht)) ?_
     simp only[aP.all,BE.all,SV.all,V1.all,ah.all,Bool.true_and];exact vG
   . rw[bR,cj];exact fun b hb=>gC.aB bI (h.names.aT b hb)
   . rw[cU,cj];exact fun r hr=>Row.aB bI (h.names.rows r (dX r hr))
 . refine da.put (st:={st.bn key 1 with rows,aY:=sT ⟨key,e,aK,key,.c true,true⟩ aY}) ⟨fun k hk=>Nat.lt_of_lt_of_le (Zf k hk) hg.size,fun b hb KL=>?_,fun r hr ho h1 k hk Il=>?_,fun n hn h1=>?_,fun n hn=>?_,fun n hn ho=>?_⟩
   . rw[pI b hb]at KL;rcases(Kk _).1 KL with e|e
     . exact h.nest.bz b hb e
     . exact(hN _ e).2.1 b hb rfl
   . have dH:=dX r hr;rw[eB r dH]at hk;rw[mP r dH]at h1;rcases(Kk _).1 Il with e|e
     . exact h.nest.rz r dH ho h1 k hk e
     . exact(hN _ e).2.2.1 r hr h1 hk
   . rcases gh.1 hn with rfl|hn
     . refine⟨Ix,?_⟩;unfold eU;rw[if_pos rfl];simp only[fq,az.set,if_true,DV.list];refine bG.lk (fun _ _=>rfl) (fun k hk=>⟨(Kk k).2 hk.1,hk.2⟩) (fun _ _=>rfl)
     . have jf:=vL n hn;obtain⟨e1,e2,e3⟩:=Yh n jf;obtain⟨h0,ze⟩:=h.nest.rd n jf (by rw[<- e3];exact h1)
       refine⟨h0,?_⟩;unfold eU at *;rw[e1,e2];split
       . rename_i ho;rw[if_pos ho]at ze;exact ze.lk (fun k hk=>hg.block k (h.nest.lt k hk.1) (fun e=>(bc k e.symm).2.1 hk.1)) (fun k hk=>⟨(Kk k).2 (.inl hk.1),hk.2⟩) (fun k hk=>hg.block k (h.nest.nu jf ho hk).2 (fun e=>(bc k e.symm).2.2 n hn ho hk))
       . rename_i ho;rw[if_neg ho]at ze;exact ze.lk (fun k hk=>hg.block k (h.nest.lt k hk) (fun e=>(bc k e.symm).2.1 hk)) (fun k hk=>(Kk k).2 (.inl hk))
   . rcases gh.1 hn with rfl|hn
     . simp only[dG.all,BE.all,Bool.and_true];rw[show({st.bn key 1 with rows,aY:=sT ⟨key,e,aK,key,.c true,true⟩ aY}:St).has key=(st.bn key 1).has key from rfl,vG];rfl
     . exact dG.aB bI (h.nest.nm n (vL n hn))
   . rcases gh.1 hn with rfl|hn
     . refine⟨rfl,fun k hk=>?_⟩
       simp only[fq]at hk;have hnz:∀k',k=k'->¬ aH.z k':=fun k' ek Il=>by
         subst ek;rcases Dg k hk with e|e
         . exact Zg k e Il
         . have:=Zf k Il;omega
       refine⟨hnz k rfl,fun b hb he=>?_,fun r hr gn hf=>?_,fun n' nC ow kx=>?_⟩
       . rw[pI b hb]at he;rcases Dg k hk with e|e
         . exact jI b hb (by rw[e,he])
         . have:=(h.mem.lQ b hb).lt;omega
       . have dH:=dX r hr;rw[eB r dH]at hf;rw[mP r dH]at gn;rcases Dg k hk with e|e
         . exact fU r hr gn k hf e
         . have:=(h.mem.row r dH gn).rm hf;omega
       . rcases gh.1 nC with rfl|nC
         . exact absurd rfl kx
         . have jf:=vL n' nC;rw[(Yh n' jf).1];intro hf;rcases Dg k hk with e|e
           . exact(bc k e).2.2 n' nC ow hf
           . have:=(h.nest.nu jf ow hf).2;omega
     . have jf:=vL n hn;obtain⟨h1,h2⟩:=h.nest.oz n jf ho;refine⟨h1,fun k hk=>?_⟩
       rw[(Yh n jf).1]at hk;obtain⟨g1,g2,g3,g4⟩:=h2 k hk;refine⟨fun Il=>?_,fun b hb he=>?_,fun r hr gn hf=>?_,fun n' nC ow kx=>?_⟩
       . rcases(Kk _).1 Il with e|e
         . exact g1 e
         . exact(hN _ e).2.2.2.1 n hn ho hk
       . rw[pI b hb]at he;exact g2 b hb he
       . have dH:=dX r hr;rw[eB r dH]at hf;rw[mP r dH]at gn;exact g3 r dH gn hf
       . rcases gh.1 nC with rfl|nC
         . simp only[fq];intro hf;rcases Dg k hf with e|e
           . exact(bc k e).2.2 n hn ho hk
           . have:=(h.nest.nu jf ho hk).2;omega
         . rw[(Yh n' (vL n' nC)).1];exact g4 n' (vL n' nC) ow kx
def Dh(z:Nat->Prop)(w:World)(aK:List NK)(cs:List Value)(xs:List (List Int)):Prop:=
 ∀i r,xs[i]?=some r->∀j nk,aK[j]?=some nk->∃u,cs[i*aK.length+j]?=some u/\po z w nk (r.getD j 0) (dK aK r j) u
theorem Dh.append{z:Nat->Prop}{w:World}{aK:List NK}{cs nW:List Value}{xs kY:List (List Int)}(hl:cs.length=xs.length*aK.length)(h:Dh z w aK cs xs)(h':Dh z w aK nW kY):Dh z w aK (cs++nW) (xs++kY):=by
 intro i r hi j nk hj;have EG:=(cT.1 hj).1;by_cases cQ:i<xs.length
 . rw[List.getElem?_append_left cQ]at hi;obtain⟨u,hu,hc⟩:=h i r hi j nk hj;exact⟨u,by rw[List.getElem?_append_left (cT.1 hu).1];exact hu,hc⟩
 . rw[List.getElem?_append_right (by omega)]at hi
   obtain⟨u,hu,hc⟩:=h' _ r hi j nk hj;have e:i*aK.length=xs.length*aK.length+(i-xs.length)*aK.length:=by rw[<- Nat.add_mul];congr 1;omega
   refine⟨u,?_,hc⟩;rw[List.getElem?_append_right (by rw[hl,e];omega),hl,e,<- hu]
   congr 1;omega
theorem Dh.take{z:Nat->Prop}{w:World}{aK:List NK}{cs:List Value}{xs:List (List Int)}(h:Dh z w aK cs xs)(m:Nat):Dh z w aK (cs.take (m*aK.length)) (xs.take m):=by
 intro i r hi j nk hj;have EG:=(cT.1 hj).1;rw[List.getElem?_take]at hi;split at hi
 . rename_i him;obtain⟨u,hu,hc⟩:=h i r hi j nk hj;refine⟨u,?_,hc⟩;have:(i+1)*aK.length<=m*aK.length:=Nat.mul_le_mul_right _ him;rw[Nat.add_mul]at this;rw[List.getElem?_take,if_pos (by omega)]
   exact hu
 . cases hi
theorem Dh.QM{z:Nat->Prop}{w:World}{aK:List NK}{cs:List Value}{xs:List (List Int)}(hl:cs.length=xs.length*aK.length)(h:Dh z w aK cs xs):∀u∈cs,u.oneCell'=true:=by
 intro u hu;obtain⟨q,hq⟩:=List.getElem?_of_mem hu;have EH:=(cT.1 hq).1;rw[hl]at EH;have h0:0<aK.length:=by
   rcases Nat.eq_zero_or_pos aK.length with e|e
   . rw[e]at EH;omega
   . exact e
 have hd:q/aK.length<xs.length:=(Nat.div_lt_iff_lt_mul h0).2 EH;have hm:=Nat.mod_lt q h0;obtain⟨v,hv,hc⟩:=h (q/aK.length) _ (dJ hd) (q%aK.length) _ (dJ hm);rw[Nat.div_add_mod']at hv;rw[hq,af]at hv;subst hv;cases Ix:aK[q%aK.length]with
 | c k=>
   rw[Ix]at hc;rw[show u=k.val _ from hc]
   exact CK.mN _ _
 | s e k=>
   rw[Ix]at hc;obtain⟨_,⟨b,c,rfl,_⟩,_⟩:=hc;rfl
theorem Dh.lk{z z':Nat->Prop}{w w':World}{aK:List NK}{cs:List Value}{xs:List (List Int)}(h:Dh z w aK cs xs)(hz:∀k,z k->w'.heap[k]?=w.heap[k]?)(GA:∀k,z k->z' k):Dh z' w' aK cs xs:=by
 intro i r hi j nk hj;obtain⟨u,hu,hc⟩:=h i r hi j nk hj;exact⟨u,hu,hc.lk hz GA⟩
theorem wE(k:CK):∀xs:List (List Int),aA [k] ((xs.map fun r=>r.getD 0 0).map fun x=>[x])=aA [k] xs:=by
 intro xs;induction xs with
 |nil=>rfl
 |cons r rs ih=>simp only[List.map_cons,aA,ih];rfl
theorem E0{w w':World}{B:Nat}{st:St}{z:Nat->Prop}(hm:iW B U ph st.aT st.rows w)(hg:w.grownBy w' none):∀ {aK:List NK} {ls:List ah} {xs:List bW} {gone:List Nat},mh st aK ls=some (xs,gone)->(∀r∈st.rows,r.id∈gone->r.own=true->r.g = .c true->∀k,(ph.val r.id).ownBlock=some k->z k)->
   ls.length=aK.length/\xs.length=aK.length/\∀j nk,aK[j]?=some nk->∃l,ls[j]?=some l/\po z w' nk ((xs.map (bW.head U)).getD j 0) (nD aK (xs.map (bW.head U)) (xs.flatMap (bW.tail U)) j) (l.ae U ph):=by
 intro aK;induction aK with
 | nil=>
   intro ls xs gone h _;cases ls with
   |nil=>simp only[mh,af,ax]at h;obtain⟨rfl,rfl⟩:=h;exact⟨rfl,rfl,fun j nk hj=>by simp at hj⟩
   |cons l ls=>simp[mh]at h
 | cons nk aK ih=>
   intro ls xs gone h hz;cases ls with
   |nil=>cases nk<;>simp[mh]at h
   | cons l ls=>
     cases nk with
     | c k=>
       simp only[mh]at h;split at h
       . rename_i x kY gs hx nP;simp only[af,ax]at h;obtain⟨rfl,rfl⟩:=h;obtain⟨e1,e2,e3⟩:=ih nP hz;refine⟨by simp[e1],by simp[e2],fun j nk hj=>?_⟩
         cases j with
         | zero=>
           simp only[List.getElem?_cons_zero,af]at hj;subst hj;refine⟨l,rfl,?_⟩;show l.ae U ph=k.val _;rw[oJ (U:=U) (ph:=ph) hx];rfl
         | succ j=>
           obtain⟨l',h1,h2⟩:=e3 j nk (by simpa using hj)
           refine⟨l',by simpa using h1,?_⟩
           simp only[List.map_cons,List.getD_cons_succ,nD,List.tail_cons,List.flatMap_cons,bW.tail,List.nil_append];exact h2
       . cases h
     | s e k=>
       have step:∀(c:bW) (kY:List bW) (gs:List Nat),mh st aK ls=some (kY,gs)->(∀r∈gs,r∈gone)->xs=c::kY->c.head U=((c.tail U).length:Int)->po z w' (.s e k) (c.head U) (c.tail U) (l.ae U ph)->
           (l::ls).length=(NK.s e k::aK).length/\xs.length=(NK.s e k::aK).length/\∀j nk,(NK.s e k::aK)[j]?=some nk->∃l',(l::ls)[j]?=some l'/\po z w' nk ((xs.map (bW.head U)).getD j 0) (nD (NK.s e k::aK) (xs.map (bW.head U)) (xs.flatMap (bW.tail U)) j) (l'.ae U ph):=by
         intro c kY gs nP hgs hx hh hc;subst hx;obtain⟨e1,e2,e3⟩:=ih nP (fun r hr Iy=>hz r hr (hgs _ Iy))
         refine⟨by simp[e1],by simp[e2],fun j nk hj=>?_⟩
         cases j with
         | zero=>
           simp only[List.getElem?_cons_zero,af]at hj;subst hj;refine⟨l,rfl,?_⟩;simp only[List.map_cons,List.getD_cons_zero,nD,List.headD_cons,List.flatMap_cons,hh,Int.toNat_natCast,List.take_left];rw[<- hh];exact hc
         | succ j=>
           obtain⟨l',h1,h2⟩:=e3 j nk (by simpa using hj)
           refine⟨l',by simpa using h1,?_⟩
           simp only[List.map_cons,List.getD_cons_succ,nD,List.tail_cons,List.headD_cons,List.flatMap_cons,hh,Int.toNat_natCast,List.drop_left];exact h2
       unfold mh at h;split at h
       . rename_i heq;cases heq
       . rename_i heq _;cases heq
       . rename_i e' k' Zh r GG KV KW;simp only[List.cons.injEq,NK.s.injEq]at KV KW;obtain⟨⟨rfl,rfl⟩,rfl⟩:=KV;obtain⟨rfl,rfl⟩:=KW;split at h
         . rename_i x kY gs hx nP;split at h
           . rename_i hc;simp only[ao,aC]at hc;obtain⟨⟨⟨bG,mL⟩,he⟩,lS⟩:=hc;simp only[af,ax]at h;obtain⟨rfl,rfl⟩:=h;obtain⟨bd,rfl⟩:=aU hx;refine step (.s x.lv) kY gs nP (fun r hr=>bp _ hr) rfl (by simp[bW.head,bW.tail]) ?_
             have ze:=(hm.row x bd (by rw[mL];rfl)).reads
             rw[lS]at ze;refine⟨by simp[bW.head,bW.tail],?_,fun _ b hb=>hz x bd (aO ..) bG mL b hb⟩
             simp only[bW.tail,List.length_map];rw[wE];exact ze.grown hg (fun _ _ _=>by simp)
           . cases h
         . cases h
       . rename_i e' k' Zh GG KV KW;simp only[List.cons.injEq,NK.s.injEq]at KV KW;obtain⟨⟨rfl,rfl⟩,rfl⟩:=KV;obtain⟨rfl,rfl⟩:=KW;split at h
         . rename_i kY gs nP;simp only[af,ax]at h;obtain⟨rfl,rfl⟩:=h;refine step .nil kY gs nP (fun r hr=>hr) rfl (by simp[bW.head,bW.tail]) ⟨rfl,⟨none,0,rfl,⟨Nat.zero_le _,Nat.zero_le _⟩,fun _=>⟨rfl,rfl⟩,fun j u hj=>?_⟩,fun cx=>absurd rfl cx⟩
           simp[bW.tail,aA]at hj
         . cases h
       . cases h
theorem tJ{w w':World}{B:Nat}{st:St}{z:Nat->Prop}(hm:iW B U ph st.aT st.rows w)(hg:w.grownBy w' none){aK:List NK}:∀ {n i:Nat} {ps:List (Nat×V1)} {rows:List (List bW)} {gone:List Nat},ky st aK n i ps=some (rows,gone)->(∀r∈st.rows,r.id∈gone->r.own=true->r.g = .c true->∀k,(ph.val r.id).ownBlock=some k->z k)->
   ∃ls,jn aK.length n i ps=some ls/\rows.length=n/\Dh z w' aK (ls.map (ah.ae U ph)) (rows.map fun r=>r.map (bW.head U)++r.flatMap (bW.tail U)):=by
 intro n;induction n with
 | zero=>
   intro i ps rows gone h _;cases ps with
   | nil=>
     simp only[ky,af,ax]at h;obtain⟨rfl,rfl⟩:=h;exact⟨[],rfl,rfl,fun i r hi=>by simp at hi⟩
   |cons p ps=>simp[ky]at h
 | succ n ih=>
   intro i ps rows gone h hz;cases ps with
   |nil=>simp[ky]at h
   | cons p ps=>
     obtain⟨j,v⟩:=p;simp only[ky]at h;split at h
     . rename_i Bw;subst Bw;split at h
       . rename_i r g rs gs hr rC;simp only[af,ax]at h;obtain⟨rfl,rfl⟩:=h;obtain⟨e1,e2,e3⟩:=E0 (z:=z) hm hg hr (fun r hr Iy=>hz r hr (List.mem_append_left _ Iy))
         obtain⟨ls,f1,f2,f3⟩:=ih rC (fun r hr Iy=>hz r hr (List.mem_append_right _ Iy))
         refine⟨v.leaves++ls,by simp[jn,e1,f1],by simp[f2],?_⟩
         have h1:Dh z w' aK (v.leaves.map (ah.ae U ph)) [r.map (bW.head U)++r.flatMap (bW.tail U)]:=by
           intro i' r' Qg j nk hj;cases i' with
           | zero=>
             simp only[List.getElem?_cons_zero,af]at Qg;subst Qg;obtain⟨l,h1,h2⟩:=e3 j nk hj;have EG:=(cT.1 hj).1;refine⟨l.ae U ph,by simp[h1],?_⟩
             have hl:(r.map (bW.head U)).length=aK.length:=by simp[e2]
             have a1:(r.map (bW.head U)++r.flatMap (bW.tail U)).getD j 0=(r.map (bW.head U)).getD j 0:=by
               simp only[cH];rw[List.getElem?_append_left (by omega)]
             have a2:dK aK (r.map (bW.head U)++r.flatMap (bW.tail U)) j=nD aK (r.map (bW.head U)) (r.flatMap (bW.tail U)) j:=by
               unfold dK;rw[List.take_left' hl,List.drop_left' hl]
             rw[a1,a2];exact h2
           |succ i'=>simp at Qg
         have:=h1.append (by simp[e1]) f3
         simpa using this
       . cases h
     . cases h
theorem Iz{Γ:bO}{w0 w:World}{st aZ:St}{a:Act}{o:Oper}{t:TypeId}{n:Nat}{parts:Array (Nat×Operand)}{e:TypeId}{ps:List (Nat×V1)}{aK:List NK}{rows:List (List bW)}{gone:List Nat}{key:Nat}{cY:List Ev}{k:az->Prop}
   (hs:Sat w0 U ph st a w) (ho:o.op = .buildSlice t n parts) (hu:P.underlying t=some (.slice e)) (CU:gp st (.c true) parts.toList=some ps) (hz:((P.info? e).bind (·.zero)).isSome=true)
   (jN:n*aK.length<=16777216) (hc:P.cellsOf e=aK.length) (fU:ky st aK n 0 ps=some (rows,gone)) (h:zy st key e aK [] (.zA rows) (st.rows.filter fun r=>!gone.contains r.id) st.aY o.dst=some (cY,aZ)) (hk:aN Γ cY k U) :
   mK Γ P w0 U ph st aZ o a w k:=by
 unfold zy at h;split at h
 . rename_i mg;simp only[ao,aC]at mg;obtain⟨aR,h0⟩:=mg;simp only[af,ax]at h;obtain⟨rfl,rfl⟩:=h;obtain⟨N,hN⟩:∃N:Nat->Prop,N=fun k=>∃r∈st.rows,r.id∈gone/\r.own=true/\r.g = .c true/\(ph.val r.id).ownBlock=some k:=⟨_,rfl⟩
   have hNz:∀k,N k->w0.heap.size<=k/\k<w.heap.size:=fun k hk=>by
     rw[hN]at hk;obtain⟨r,hr,_,GM,KX,hb⟩:=hk;have bc:=(hs.mem.row r hr (by rw[KX];rfl)).2
     rw[if_pos GM]at bc;exact bc.lt k hb
   obtain⟨ls,uz,hrl,_⟩:=tJ (z:=fun _=>True) (U:=U) (ph:=ph) hs.mem (cd w) fU (fun _ _ _ _ _ _ _=>trivial)
   obtain⟨cy,Y'⟩:=Di (P:=P) (w:=w) (a:=a) hu hs.tmps b9 CU h0 hz jN hc uz;have gn:w.grownBy (w.alloc (.cells (ls.map (ah.ae U ph)).toArray e)) none:=World.grownBy_alloc w _ none;obtain⟨GG,QN,_,iu⟩:=tJ (z:=fun k=>(ph.z k\/N k)/\w0.heap.size<=k) (U:=U) (ph:=ph) hs.mem gn fU (fun r hr Iy GM KX k hb=>by
     have:N k:=by rw[hN];exact⟨r,hr,Iy,GM,KX,hb⟩
     exact⟨.inr this,(hNz k this).1⟩)
   rw[uz,af]at QN;subst QN;obtain⟨xs,nP⟩:∃xs,xs=rows.map fun r=>r.map (bW.head U)++r.flatMap (bW.tail U):=⟨_,rfl⟩
   rw[<- nP]at iu;have nL:xs.length=n:=by rw[nP,List.length_map,hrl]
   have cO:k (U.set key (.l xs)):=by rw[nP];exact hk
   have jf:n<=maxLen:=by
     have:n<=n*aK.length:=Nat.le_mul_of_pos_right n h0;unfold maxLen;omega
   have bG:(w.alloc (.cells (ls.map (ah.ae U ph)).toArray e)).ownsRow w0.heap.size e aK.length (.slice (some ⟨w.heap.size,0,none⟩) n n) xs.length (ls.map (ah.ae U ph)):=by
     refine⟨by rw[List.length_map,Y',nL],.inr ⟨w.heap.size,n,(ls.map (ah.ae U ph)).toArray,by rw[nL],hs.below.size,heap_alloc_new w _,by omega,jf,by simp[Y'],?_⟩⟩
     simp only[List.toList_toArray];exact List.take_of_length_le (by rw[List.length_map,Y',nL];exact Nat.le_refl _)
   have qe:∀q∈st.rows.filter (fun r=>!gone.contains r.id),q∈st.rows/\q.id∉gone:=fun q hq=>by
     have:=List.mem_filter.1 hq;exact⟨this.1,by simpa using this.2⟩
   have et:=xr (U:=U) (ph:=ph) (dst:=o.dst) (key:=key) (e:=e) (aK:=aK) (xs:=xs) (rows:=st.rows.filter fun r=>!gone.contains r.id) (aY:=st.aY) (sl:=(some ⟨w.heap.size,0,none⟩,n,n)) (row:=none) (N:=N) hs aR h0 (fun q hq=>(qe q hq).1) (fun _ h=>h) gn (fun k hk=>by cases hk)
     (fun b _=>by simp) (fun r _ _ k _=>by simp) (fun k hk=>by
       have cQ:=(hNz k hk).2;rw[hN]at hk;obtain⟨r,hr,Iy,GM,KX,hb⟩:=hk;have kf:r.g.ae U=true:=by rw[KX];rfl
       obtain⟨⟨_,_,a1⟩,a2,a3⟩:=lT (B:=0) hs hr GM kf hb;exact⟨cQ,fun b la e=>a2 b la (by rw[e]),fun q hq Io hf=>a3 q (qe q hq).1 (fun e=>(qe q hq).2 (by rw[e];exact Iy)) Io k hf rfl,a1,by simp⟩) ⟨_,bG,iu⟩ (.inr (.inl rfl))
   have hW:pJ st ph o.op=none:=by simp[ho,pJ]
   refine⟨.value (.slice (some ⟨w.heap.size,0,none⟩) n n),_,_,_,_,?_,rfl,by rw[hW];exact et,cO⟩
   simp only[execOp,ho,Sem.run_bind,cy,Result.andThen_ok,Sem.run_pure]
 . cases h
theorem tK{Γ:bO}{w0 w:World}{st aZ:St}{a:Act}{o:Oper}{t e:TypeId}{x y:Operand}{key room:Nat}{cY:List Ev}{k:az->Prop}{v:Value}{xs:List (List Int)}{cs:List Value}{rb:dG}{aY:List dG}{ne:BE}{op:cZ}
   (hs:Sat w0 U ph st a w) (ho:o.op = .call {callee:=.builtin .append,args:=#[x,y],argTypes:=#[t,t] }) (hu:P.underlying t=some (.slice e)) (hr:jX P e=some room)
   (hx:a.eval x=v) (hy:bl st (.c true) y=some (.s rb.id)) (zw:rb∈st.aY) (KO:rb.own=true) (nU:P.cellsOf e=rb.aK.length)
   (hv:w.ownsRow w0.heap.size e rb.aK.length v xs.length cs) (iu:Dh (fun k=>ph.z k/\w0.heap.size<=k) w rb.aK cs xs) (hW:pJ st ph o.op=v.ownBlock) (vL:∀n∈aY,n∈st.aY)
   (UA:∀k,v.ownBlock=some k->¬ ph.z k/\(∀n∈aY,n.own=true->(ph.val n.id).ownBlock≠some k)/\(∀b∈st.aT,ph.r b.id≠k)/\∀r∈st.rows,r.g.ae U=true->r.bQ U ph≠some k)
   (lu:op.ae U=xs++(U rb.lv).list) (cx:ne.ae U=true->xs.length+(U rb.lv).list.length<=room)
   (h:zy st key e rb.aK [.aG ne] op st.rows aY o.dst=some (cY,aZ)) (hk:aN Γ cY k U) :
   mK Γ P w0 U ph st aZ o a w k:=by
 unfold zy at h;split at h
 . rename_i mg;simp only[ao,aC]at mg;obtain⟨aR,h0⟩:=mg;simp only[af,ax]at h;obtain⟨rfl,rfl⟩:=h;obtain⟨hn,hk⟩:=iw (es:=[.ch key op]) hk;have cO:k (U.set key (.l (xs++(U rb.lv).list))):=by rw[<- lu];exact hk
   obtain⟨Bx,_,csb,Ti,QO⟩:=hs.nest.own zw KO;have ey:=ay hy b9 hs.tmps;simp only[ah.ae]at ey;have QO:Dh (fun k=>ph.z k/\w0.heap.size<=k) w rb.aK csb (U rb.lv).list:=QO
   have hlb:=Ti.1;obtain⟨sl,w',e1,e2,e3,e5⟩:=ql (ty:=o.type) hu hr nU hv (nq Ti) hlb (QO.QM hlb) (cx hn) hs.below.size;rw[<- eH]at e2;have hzw:∀k,(ph.z k/\w0.heap.size<=k)->w'.heap[k]?=w.heap[k]? :=fun k hk=>e3.block k (hs.nest.lt k hk.1) (fun e=>(UA k e.symm).1 hk.1)
   have wP:=((iu.append hv.1 QO).lk (z':=fun k=>(ph.z k\/False)/\w0.heap.size<=k) hzw (fun k hk=>⟨.inl hk.1,hk.2⟩))
   have et:=xr (U:=U) (ph:=ph) (dst:=o.dst) (key:=key) (e:=e) (aK:=rb.aK) (rows:=st.rows) (aY:=aY) (sl:=sl) (row:=v.ownBlock) (N:=fun _=>False) hs aR h0 (fun _ h=>h) vL e3 (fun k hk=>⟨(hv.lt k hk).1,(UA k hk).1,(UA k hk).2.1⟩)
     (fun b hb e=>(UA _ e).2.2.1 b hb rfl) (fun r hr hr1 k hk e=>(UA _ e).2.2.2 r hr hr1 hk) (fun k hk=>hk.elim) ⟨_,e2,wP⟩ (by
       rcases e5 with e5|e5
       . exact .inl e5
       . exact .inr (.inl e5))
   refine⟨.value (.slice sl.1 sl.2.1 sl.2.2),w',_,_,_,?_,rfl,by rw[hW];exact et,cO⟩
   simp only[execOp,ho,resolve,invoke,builtin,Sem.run_bind,Sem.run_pure,Result.andThen_ok,List.map_toArray,List.map_cons,List.map_nil,hx,ey,e1]
 . cases h
theorem IA{w:World}{B:Nat}{e:TypeId}{sz:Nat}{base:Option Addr}{n cap m:Nat}{cs:List Value}(h:w.ownsRow B e sz (.slice base n cap) n cs)(hm:m<=n) :
   w.ownsRow B e sz (.slice base m cap) m (cs.take (m*sz)):=by
 have hle:m*sz<=n*sz:=Nat.mul_le_mul_right _ hm;refine⟨by rw[List.length_take,h.1];omega,?_⟩
 rcases h.2 with⟨e1,e2⟩|⟨g,nN,cur,e1,hg,hh,sJ,Ip,iu,qi⟩
 . simp only[Value.slice.injEq]at e1;obtain⟨rfl,h0,rfl⟩:=e1;have:m=0:=by omega
   subst this;exact .inl ⟨rfl,rfl⟩
 . simp only[Value.slice.injEq,true_and]at e1;obtain⟨rfl,rfl⟩:=e1;refine .inr ⟨g,cap,cur,rfl,hg,hh,by omega,Ip,iu,?_⟩
   rw[<- qi,List.take_take];congr 1;omega
theorem E2{Γ:bO}{w0 w:World}{st aZ:St}{a:Act}{o:Oper}{t e:TypeId}{x h':Operand}{key:Nat}{cY:List Ev}{k:az->Prop}{ra:dG}{kd:IntKind}{n:IE}
   (hs:Sat w0 U ph st a w) (ho:o.op = .slice t x none (some h') none) (hu:P.underlying t=some (.slice e)) (hx:bl st (.c true) x=some (.s ra.id)) (hh:bl st (.c true) h'=some (.i kd n))
   (bd:ra∈st.aY) (bG:ra.own=true) (he:ra.e=e) (nU:P.cellsOf e=ra.aK.length)
   (h:zy st key e ra.aK [.aG (BE.le (.c 0) n).mk,.aG (BE.le n (.len ra.lv)).mk] (.take ra.lv n) st.rows (st.aY.filter fun r=>decide (r.id≠ra.id)) o.dst=some (cY,aZ)) (hk:aN Γ cY k U) :
   mK Γ P w0 U ph st aZ o a w k:=by
 unfold zy at h;split at h
 . rename_i mg;simp only[ao,aC]at mg;obtain⟨aR,Ix⟩:=mg;simp only[af,ax]at h;obtain⟨rfl,rfl⟩:=h;obtain⟨h0,hk⟩:=iw (es:=[.aG (BE.le n (.len ra.lv)).mk,.ch key (.take ra.lv n)]) hk;obtain⟨h1,hk⟩:=iw (es:=[.ch key (.take ra.lv n)]) hk;have h0:=bS h0;have h1:=bS h1;simp only[IE.ae]at h0 h1;have cO:k (U.set key (.l ((U ra.lv).list.take (n.ae U).toNat))):=hk;obtain⟨mL,_,cs,cP,iu⟩:=hs.nest.own bd bG;have iu:Dh (fun k=>ph.z k/\w0.heap.size<=k) w ra.aK cs (U ra.lv).list:=iu
   rw[he]at cP;have ex:=ay hx b9 hs.tmps;have eh:=ay hh b9 hs.tmps;simp only[ah.ae]at ex eh;obtain⟨base,cap,hv,sJ⟩:∃base cap,ph.val ra.id = .slice base (U ra.lv).list.length cap/\(U ra.lv).list.length<=cap:=by
     rcases cP.2 with⟨e1,e2⟩|⟨g,nN,cur,e1,_,_,sJ,_⟩
     . exact⟨none,0,by rw[e1,e2],by omega⟩
     . exact⟨_,nN,e1,sJ⟩
   rw[hv]at cP;have hm:(n.ae U).toNat<=(U ra.lv).list.length:=by omega
   have Zc:=IA cP hm;have hl:((U ra.lv).list.take (n.ae U).toNat).length=(n.ae U).toNat:=by rw[List.length_take];omega
   have KO:∀m m':Nat,(Value.slice base m cap).ownBlock=(Value.slice base m' cap).ownBlock:=fun _ _=>by cases base<;>rfl
   obtain⟨_,KY⟩:=hs.nest.oz ra bd bG;have qe:∀q∈st.aY.filter (fun r=>decide (r.id≠ra.id)),q∈st.aY/\q.id≠ra.id:=fun q hq=>by
     have:=List.mem_filter.1 hq;exact⟨this.1,by simpa using this.2⟩
   have wP:=(iu.take (n.ae U).toNat).lk (z':=fun k=>(ph.z k\/False)/\w0.heap.size<=k) (fun _ _=>rfl) (fun k hk=>⟨.inl hk.1,hk.2⟩)
   have et:=xr (U:=U) (ph:=ph) (dst:=o.dst) (key:=key) (e:=e) (aK:=ra.aK) (rows:=st.rows) (aY:=st.aY.filter fun r=>decide (r.id≠ra.id)) (sl:=(base,(n.ae U).toNat,cap)) (row:=(Value.slice base (U ra.lv).list.length cap).ownBlock) (N:=fun _=>False) hs aR Ix (fun _ h=>h) (fun q hq=>(qe q hq).1) (hU (cd w))
     (fun k hk=>⟨(cP.lt k hk).1,(KY k (by rw[hv,hk])).1,fun q hq ow=>(KY k (by rw[hv,hk])).2.2.2 q (qe q hq).1 ow (qe q hq).2⟩)
     (fun b hb e=>(KY _ (by rw[hv,e])).2.1 b hb rfl) (fun r hr hr1 k hk e=>(KY _ (by rw[hv,e])).2.2.1 r hr hr1 hk) (fun k hk=>hk.elim) ⟨_,by rw[hl];exact Zc,wP⟩ (.inl (KO _ _))
   refine⟨.value (.slice base (n.ae U).toNat cap),w,_,_,_,?_,rfl,⟨et.sat,et.agree,?_,et.mono,et.fresh⟩,cO⟩
   . simp only[execOp,ho,Option.map_none,Option.map_some,ex,eh,hv,Sem.run_bind,run_sliceAt_slice (P:=P) (w:=w) t _ _ _ _ (by simp[Program.elem,hu]),qm hu (by rw[nU];exact Ix) h0 h1 sJ,Result.andThen_ok,Sem.run_pure]
   . rw[ho];exact cd w
 . cases h
end Go.Sx
namespace Go.Sx
open Go.RowKit
variable {U:az}{ph:Ph}{P:Program}
theorem xv{α:Type}{a:Array α}{x:α}(h:a.toList=[x]):a = #[x]:=Array.ext' (by simpa using h)
theorem IL{Γ:bO}{w0 w:World}{st aZ:St}{a:Act}{o:Oper}{key:Nat}{cY:List Ev}{k:az->Prop}(hs:Sat w0 U ph st a w)(h:K3 P st key o.dst o.op=some (cY,aZ))(hk:aN Γ cY k U) :
   mK Γ P w0 U ph st aZ o a w k:=by
 obtain⟨op,ho⟩:∃op,op=o.op:=⟨_,rfl⟩;rw[<- ho]at h;unfold K3 at h;split at h
 . rename_i e;split at h
   . rename_i z hz;refine xp hs (by rw[<- ho];rfl) ?_ h hk
     simp only[execOp,<- ho,Instr.alloc,Sem.run_bind,uM (ph:=ph) (U:=U) hz,newVar,Go.newRow,run_newObj_alloc,Sem.run_pure,Result.andThen_ok,V1.fc]
   . cases h
 . rename_i e x;split at h
   . rename_i v hv;refine xp hs (by rw[<- ho];rfl) ?_ h hk
     have ex:=cz hv b9 hs.tmps;simp only[execOp,<- ho,ex,Instr.box,Sem.run_bind,newVar,Go.newRow,run_newObj_alloc,Sem.run_pure,Result.andThen_ok,V1.fc]
   . cases h
 . rename_i t x y;split at h
   . rename_i l v hl hv;split at h
     . rename_i hc;exact EX hs ho.symm hl hv hc.1 hc.2 h hk
     . cases h
   . cases h
 . rename_i t n c;split at h
   . rename_i e kd x Ye y hu hn hc;split at h
     . rename_i room ks z hr Qa hz;split at h
       . rename_i mg;simp only[ao,aC]at mg;obtain⟨⟨h0,nU⟩,Qf⟩:=mg;split at h
         . rename_i hxy;subst hxy;exact Iw hs ho.symm hu hn hc hr hz h0 nU Qf h hk
         . exact xq hs ho.symm hu hn hc hr hz h0 nU Qf h hk
       . cases h
     . cases h
   . cases h
 . rename_i t x h';split at h
   . rename_i e a1 kd n hu hx hh;split at h
     . rename_i ra xu;obtain⟨bd,rfl⟩:=aU xu;split at h
       . rename_i hc;simp only[ao,aC]at hc;obtain⟨⟨⟨bG,hg⟩,he⟩,nU⟩:=hc;exact Iu hs ho.symm hu hx hh bd bG hg he nU h hk
       . cases h
     . split at h
       . rename_i ra xu;obtain⟨bd,rfl⟩:=cS xu;split at h
         . rename_i hc;simp only[ao,aC]at hc;obtain⟨⟨bG,he⟩,nU⟩:=hc;exact E2 hs ho.symm hu hx hh bd bG he nU h hk
         . cases h
       . cases h
   . cases h
 . rename_i args argTypes;split at h
   . rename_i x y t t' eK xw;have eK:=oM eK;have xw:=oM xw;split at h
     . rename_i htt;subst htt;subst eK xw;split at h
       . rename_i e hu;split at h
         . rename_i room b hr hx hy;split at h
           . rename_i rb zw;obtain⟨bd,rfl⟩:=aU zw;split at h
             . rename_i hc;simp only[ao,aC]at hc;obtain⟨⟨hg,he⟩,nU⟩:=hc;have ex:=ay hx b9 hs.tmps;refine vI (v:=.slice none 0 0) (xs:=[]) hs ho.symm hu hr ex hy bd hg nU (World.ownsRow_nil _ _ _ _) ?_ (fun _ h=>h) (fun k hk=>by simp[Value.ownBlock]at hk) (fun _ _=>by simp[Value.ownBlock]) (fun _ _ _ _ _=>by simp[Value.ownBlock]) ?_ ?_ h hk
               . rw[<- ho];simp[pJ,hx,Value.ownBlock]
               . simp[cZ.ae]
               . intro hn;have:=bS hn;simp only[IE.ae]at this;simp;omega
             . cases h
           . split at h
             . rename_i rb zw;obtain⟨bd,rfl⟩:=cS zw;split at h
               . rename_i hc;simp only[ao,aC]at hc;obtain⟨⟨KO,he⟩,nU⟩:=hc;have ex:=ay hx b9 hs.tmps;refine tK (v:=.slice none 0 0) (xs:=[]) (cs:=[]) hs ho.symm hu hr ex hy bd KO nU (World.ownsRow_nil _ _ _ _) (fun i r hi=>by simp at hi) ?_ (fun _ h=>h) (fun k hk=>by simp[Value.ownBlock]at hk) ?_ ?_ h hk
                 . rw[<- ho];simp[pJ,hx,Value.ownBlock]
                 . simp[cZ.ae]
                 . intro hn;have:=bS hn;simp only[IE.ae]at this;simp;omega
               . cases h
             . cases h
         . rename_i room a1 b hr hx hy;split at h
           . rename_i ra rb xu zw;obtain⟨qo,rfl⟩:=aU xu;obtain⟨bd,rfl⟩:=aU zw;split at h
             . rename_i hc;simp only[ao,aC]at hc;obtain⟨⟨⟨⟨⟨IG,Bx⟩,hea⟩,heb⟩,lS⟩,nU⟩:=hc;exact xt hs ho.symm hu hr hx hy qo bd IG Bx lS nU h hk
             . cases h
           . cases h
         . rename_i room a1 b hr hx hy;split at h
           . rename_i ra rb xu zw;obtain⟨qo,rfl⟩:=aU xu;obtain⟨bd,rfl⟩:=aU zw;split at h
             . rename_i hc;simp only[ao,aC]at hc;obtain⟨⟨⟨⟨⟨⟨⟨bG,IG⟩,Bx⟩,hea⟩,heb⟩,lS⟩,Zn⟩,nU⟩:=hc;have ex:=ay hx b9 hs.tmps;simp only[ah.ae]at ex;have EY:ra.g.ae U=true:=by rw[IG];rfl
               have bc:=hs.mem.row ra qo EY;have cP:=bc.2;rw[if_pos bG,hea]at cP;have eB:ra.bQ U ph=(ph.val ra.id).ownBlock:=by simp[Row.bQ,bG]
               rw[lS]at h cP nU;refine vI (v:=ph.val ra.id) (xs:=(U ra.lv).list) hs ho.symm hu hr ex hy bd Bx nU cP ?_ (fun r hr=>(List.mem_filter.1 hr).1) (fun k hk=>(lT (B:=0) hs qo bG EY hk).1.2) (fun b hb e=>hs.mem.br b hb ra qo EY (by rw[eB,e])) (fun r hr h1 k hk e=>?_) ?_ ?_ h hk
               . rw[<- ho];simp[pJ,hx]
               . have hm:=List.mem_filter.1 hr;exact hs.mem.rr ra qo r hm.1 (fun e=>by simp[e]at hm) bG EY h1 k (by rw[eB,e]) hk
               . rfl
               . intro hn;have:=bS hn;rw[IE.cf]at this;simp only[IE.ae]at this;omega
             . cases h
           . split at h
             . rename_i ra rb xu zw;obtain⟨qo,rfl⟩:=cS xu;obtain⟨bd,rfl⟩:=cS zw;split at h
               . rename_i hc;simp only[ao,aC]at hc;obtain⟨⟨⟨⟨⟨⟨hoa,KO⟩,hea⟩,heb⟩,lS⟩,Zn⟩,nU⟩:=hc;have ex:=ay hx b9 hs.tmps;simp only[ah.ae]at ex;obtain⟨_,_,cs,cP,iu⟩:=hs.nest.own qo hoa;obtain⟨_,KY⟩:=hs.nest.oz ra qo hoa;rw[hea,lS]at cP;rw[lS]at iu h nU;refine tK (v:=ph.val ra.id) (xs:=(U ra.lv).list) (cs:=cs) hs ho.symm hu hr ex hy bd KO nU cP iu ?_ (fun r hr=>(List.mem_filter.1 hr).1) (fun k hk=>⟨(KY k hk).1,fun n hn nX=>(KY k hk).2.2.2 n (List.mem_filter.1 hn).1 nX (by simpa using(List.mem_filter.1 hn).2),(KY k hk).2.1,(KY k hk).2.2.1⟩) ?_ ?_ h hk
                 . rw[<- ho];simp[pJ,hx]
                 . rfl
                 . intro hn;have:=bS hn;rw[IE.cf]at this;simp only[IE.ae]at this;omega
               . cases h
             . cases h
           . cases h
         . cases h
       . cases h
     . cases h
   . cases h
 . rename_i args argTypes;split at h
   . rename_i x y t t' eK xw;have eK:=oM eK;have xw:=oM xw;split at h
     . rename_i htt;subst htt;subst eK xw;split at h
       . rename_i e a1 b1 hu hx hy;split at h
         . rename_i ra rb xu zw;obtain⟨qo,rfl⟩:=aU xu;obtain⟨bd,rfl⟩:=aU zw;split at h
           . rename_i hc;simp only[ao,aC]at hc;obtain⟨⟨⟨⟨⟨⟨⟨bG,IG⟩,Bx⟩,lS⟩,Zn⟩,nU⟩,hi⟩,aR⟩:=hc;simp only[af,ax]at h;obtain⟨rfl,rfl⟩:=h;exact II hs ho.symm hu hx hy qo bd bG IG Bx lS nU hi aR hk
           . cases h
         . cases h
       . cases h
     . cases h
   . cases h
 . rename_i args argTypes;split at h
   . rename_i x t eK xw;have eK:=xv eK;have xw:=xv xw;subst eK xw;split at h
     . rename_i e a1 hu hx;split at h
       . rename_i ra z xu hz;obtain⟨bd,rfl⟩:=aU xu;split at h
         . rename_i hc;simp only[ao,aC]at hc;obtain⟨⟨⟨⟨⟨bG,IG⟩,nU⟩,hi⟩,Qf⟩,aR⟩:=hc;simp only[af,ax]at h;obtain⟨rfl,rfl⟩:=h;exact E3 hs ho.symm hu hx bd bG IG nU hz Qf aR hk
         . cases h
       . cases h
     . cases h
   . cases h
 . rename_i src IC x;split at h
   . rename_i e bs UD hd hx;split at h
     . rename_i he;split at h
       . rename_i hc;simp only[ao,aC]at hc;obtain⟨⟨⟨hi,nU⟩,hlen⟩,aR⟩:=hc;simp only[af,ax]at h;obtain⟨rfl,rfl⟩:=h;exact IB hs ho.symm UD hd he hx hlen aR hk
       . cases h
     . cases h
   . cases h
 . cases h
end Go.Sx
namespace Go.Sx
open Go.RowKit
variable {U ak:az}{ph aH:Ph}{P:Program}
theorem az.aX:∀ {ds:List DV} {U:az} {k j:Nat},j<k->U.ar k ds j=U j:=by
 intro ds;induction ds with
 |nil=>intro U k j _;rfl
 | cons d ds ih=>
   intro U k j h;rw[az.ar,ih (by omega),az.set,if_neg (by omega)]
theorem az.cm:∀ {ds:List DV} {U:az} {k i:Nat} {d:DV},ds[i]?=some d->U.ar k ds (k+i)=d:=by
 intro ds;induction ds with
 |nil=>intro U k i d h;simp at h
 | cons x ds ih=>
   intro U k i d h;cases i with
   | zero=>
     simp only[List.getElem?_cons_zero,af]at h;subst h;rw[az.ar,Nat.add_zero,az.aX (by omega)];simp[az.set]
   | succ i=>
     rw[List.getElem?_cons_succ]at h;have:=ih (U:=U.set k x) (k:=k+1) h;rw[az.ar,show k+(i+1)=k+1+i by omega]
     exact this
theorem az.ej:∀ {ds:List DV} {U:az} {k j:Nat},k+ds.length<=j->U.ar k ds j=U j:=by
 intro ds;induction ds with
 |nil=>intro U k j _;rfl
 | cons d ds ih=>
   intro U k j h;simp only[List.length_cons]at h;rw[az.ar,ih (by omega),az.set,if_neg (by omega)]
abbrev fQ:=TypeId->List CK ⊕ List NK->Value->List (List Int)->Prop
def ju(R:fQ):CT->Value->DV->Prop
 |.c (.i k),v,.i n=>v = .int k n
 |.c .b,v,.b b=>v = .bool b
 |.c .f,v,.i n=>v = .float .f64 n.toNat
 |.s e ks,v,.l xs=>R e (.inl ks) v xs
 |.n e aK,v,.l xs=>R e (.inr aK) v xs
 |_,_,_=>False
def fitAll(R:fQ):List CT->List Value->List DV->Prop
 | [],[],[]=>True
 |c::cs,v::vs,d::ds=>ju R c v d/\fitAll R cs vs ds
 |_,_,_=>False
def pC:Value->Value
 |.slice base _ _=>.pointer base
 |_=>undef
def bT:List VT->List Value->List Value
 | [],_=>[]
 |.one _::ts,cs=>cs.headD undef::bT ts cs.tail
 |.agg ks::ts,cs=>.agg (cs.take ks.length).toArray::bT ts (cs.drop ks.length)
 |.ptr _ _::ts,cs=>pC (cs.headD undef)::bT ts cs.tail
 |.fn g ks::ts,cs=>.func (.func g) #[] ((cs.take ks.length).map pC).toArray::bT ts (cs.drop ks.length)
def kO(w:World):fQ:=fun _ ks v xs=>match ks with
 |.inl ks=>0<ks.length/\Reads w v xs.length (aA ks xs)
 |.inr aK=>0<aK.length/\pQ (fun k=>k<w.heap.size) w aK v xs
def jO(w:World)(B:Nat):fQ:=fun e ks v xs=>match ks with
 |.inl ks=>0<ks.length/\w.ownsRow B e ks.length v xs.length (aA ks xs)
 |.inr aK=>0<aK.length/\∃zi:Nat->Prop,(∀k,zi k->B<=k/\k<w.heap.size)/\(∀k,v.ownBlock=some k->¬ zi k)/\Bj zi w B e aK v xs
def fR(bP:List Value):Prop:=∀(i j:Nat) (u v:Value),i≠j->bP[i]?=some u->bP[j]?=some v->∀k,u.ownBlock=some k->v.ownBlock≠some k
def packed:List Value->Value
 | [v]=>v
 |vs=>.tuple vs.toArray
def xJ(w:World)(args:List VT)(vs:List Value)(ds:List DV):Prop:=∃bP,vs=bT args bP/\fitAll (kO w) (bD args) bP ds
def xK(P:Program)(f:FuncId)(c:cV):Prop:=
 (∀w args,(callFunc f args).run P w = .ok (.enter f args) w)/\
 ∀w vs ds,xJ w c.sig.args vs ds->c.pre ds->Calls P f vs.toArray w (fun e w'=>∃bP fH,e = .returned (packed (bT c.sig.res bP))/\Below w.heap.size w w'/\
   fitAll (jO w' w.heap.size) (bD c.sig.res) bP fH/\fR bP/\c.rel ds fH)
theorem zD{R:fQ}:∀ {cs nW:List CT} {vs Ko:List Value} {ds mr:List DV},fitAll R cs vs ds->fitAll R nW Ko mr->fitAll R (cs++nW) (vs++Ko) (ds++mr):=by
 intro cs;induction cs with
 |nil=>intro nW vs Ko ds mr h h';cases vs<;>cases ds<;>simp_all[fitAll]
 | cons c cs ih=>
   intro nW vs Ko ds mr h h';cases vs with
   |nil=>simp[fitAll]at h
   | cons v vs=>cases ds with
     |nil=>simp[fitAll]at h
     |cons d ds=>exact⟨h.1,ih h.2 h'⟩
theorem mu{R:fQ}:∀ {cs:List CT} {vs:List Value} {ds:List DV},fitAll R cs vs ds->vs.length=cs.length/\ds.length=cs.length:=by
 intro cs;induction cs with
 |nil=>intro vs ds h;cases vs<;>cases ds<;>simp_all[fitAll]
 | cons c cs ih=>
   intro vs ds h;cases vs with
   |nil=>simp[fitAll]at h
   | cons v vs=>cases ds with
     |nil=>simp[fitAll]at h
     |cons d ds=>simp[ih h.2]
theorem iR{R:fQ}:∀ {cs:List CT} {vs:List Value} {ds:List DV} {i:Nat} {c:CT},fitAll R cs vs ds->cs[i]?=some c->∃v d,vs[i]?=some v/\ds[i]?=some d/\ju R c v d:=by
 intro cs;induction cs with
 |nil=>intro vs ds i c _ h;simp at h
 | cons c cs ih=>
   intro vs ds i c' h hi;cases vs with
   |nil=>simp[fitAll]at h
   | cons v vs=>cases ds with
     |nil=>simp[fitAll]at h
     | cons d ds=>
       cases i with
       |zero=>simp at hi;subst hi;exact⟨v,d,rfl,rfl,h.1⟩
       |succ i=>simpa using ih h.2 (by simpa using hi)
theorem ie{R:fQ}:∀ {cs:List CT} {vs:List Value} {ds:List DV},fitAll R cs vs ds->kinds cs ds=true:=by
 intro cs;induction cs with
 |nil=>intro vs ds h;cases vs<;>cases ds<;>simp_all[fitAll,kinds]
 | cons c cs ih=>
   intro vs ds h;cases vs with
   |nil=>simp[fitAll]at h
   | cons v vs=>cases ds with
     |nil=>simp[fitAll]at h
     | cons d ds=>
       simp only[kinds,ih h.2,Bool.and_true];have:=h.1;cases c with
       |c k=>cases k<;>cases d<;>simp_all[ju,DV.kind]
       |s e ks=>cases d<;>simp_all[ju,DV.kind]
       |n e aK=>cases d<;>simp_all[ju,DV.kind]
theorem mv(G:BE):∀(cs nW:List CT) (id:Nat),aF G id (cs++nW)=((aF G id cs).1++(aF G (id+cs.length) nW).1,(aF G id cs).2++(aF G (id+cs.length) nW).2):=by
 intro cs;induction cs with
 |nil=>intro nW id;simp[aF]
 | cons c cs ih=>
   intro nW id;simp only[List.cons_append,aF,ih,List.length_cons,List.append_assoc];rw[show id+1+cs.length=id+(cs.length+1)by omega]
theorem wI(G:BE):∀(cs:List CT) (id:Nat),(aF G id cs).1.length=cs.length:=by
 intro cs;induction cs with
 |nil=>intro id;rfl
 |cons c cs ih=>intro id;simp[aF,ih]
theorem xL(G:BE):∀(cs:List (TypeId×IntKind)) (id:Nat),(gu G id cs).2=(aF G id (cs.map fun c=>CT.s c.1 [.i c.2])).2:=by
 intro cs;induction cs with
 |nil=>intro id;rfl
 |cons c cs ih=>intro id;simp[gu,aF,cG,ih]
theorem zE(G:BE):∀(cs:List (TypeId×IntKind)) (id:Nat),(gu G id cs).1.map (kJ ph)=((aF G id (cs.map fun c=>CT.s c.1 [.i c.2])).1.map (ah.ae U ph)).map pC:=by
 intro cs;induction cs with
 |nil=>intro id;rfl
 |cons c cs ih=>intro id;simp[gu,aF,cG,ih (id+1),kJ,ah.ae,Ph.val,pC]
theorem zF{q:Nat->Bool}(G:BE):∀(cs:List (TypeId×IntKind)) (id:Nat),(∀i,i<cs.length->q (id+i)=true)->((gu G id cs).1.all fun c=>q c.2)=true:=by
 intro cs;induction cs with
 |nil=>intro id _;rfl
 | cons c cs ih=>
   intro id h;have h0:q id=true:=by have:=h 0 (by simp);simpa using this
   simp only[gu,List.all_cons,h0,Bool.true_and];exact ih (id+1) fun i hi=>by rw[show id+1+i=id+(i+1)by omega];exact h (i+1) (by simpa using hi)
theorem eD(G:BE):∀(ts:List VT) (id:Nat),(bX G id ts).2=(aF G id (bD ts)).2:=by
 intro ts;induction ts with
 |nil=>intro id;rfl
 | cons t ts ih=>
   intro id;have e:bD (t::ts)=t.bD++bD ts:=by simp[bD]
   rw[e,mv];simp only[bX,ih];congr 1;cases t with
   |one c=>simp[iM,VT.bD,aF]
   |agg cs=>simp[iM,VT.bD]
   |ptr e k=>simp[iM,VT.bD,aF,cG]
   |fn g cs=>exact xL G cs id
theorem oT(G:BE):∀(ts:List VT) (id:Nat) (bP:List Value),(aF G id (bD ts)).1.map (ah.ae U ph)=bP->(bX G id ts).1.map (V1.ae U ph)=bT ts bP:=by
 intro ts;induction ts with
 |nil=>intro id bP _;rfl
 | cons t ts ih=>
   intro id bP h;have e:bD (t::ts)=t.bD++bD ts:=by simp[bD]
   rw[e,mv,List.map_append]at h;subst h;have hl:(aF G id t.bD).1.length=t.bD.length:=wI G _ _;simp only[bX,List.map_cons];rw[ih (id+t.bD.length) _ rfl];cases t with
   |one c=>simp[iM,VT.bD,aF,bT,V1.ae]
   | ptr e k=>
     simp only[iM,VT.bD,aF,cG,bT,V1.ae,List.map_cons,List.map_nil,List.cons_append,List.nil_append,List.headD_cons,List.tail_cons,ah.ae,Ph.val,pC,IE.ae];congr 1;cases(ph.v id).1 with
     |none=>rfl
     |some a=>simp[Addr.add_zero']
   | fn g cs=>
     simp only[VT.bD,List.length_map]at hl;simp only[iM,VT.bD,bT,V1.ae,ah.ae,zE (U:=U) G cs id];rw[List.take_append_of_le_length (by simp[hl]),List.take_of_length_le (by simp[hl]),List.drop_append_of_le_length (by simp[hl]),List.drop_of_length_le (by simp[hl])]
     simp
   | agg cs=>
     simp only[VT.bD]at hl;simp only[iM,VT.bD,bT,V1.ae];rw[List.take_append_of_le_length (by simp[hl]),List.take_of_length_le (by simp[hl]),List.drop_append_of_le_length (by simp[hl]),List.drop_of_length_le (by simp[hl])]
     simp
theorem s7{R:fQ}(own:Bool)(G:BE):∀(cs:List CT) (id:Nat) (bP:List Value) (fH:List DV),fitAll R cs bP fH->(∀(i:Nat) (d:DV),fH[i]?=some d->U (id+i)=d)->
   (∀(i:Nat) (v:Value),bP[i]?=some v->∀e ks,(cs[i]?=some (.s e ks)\/∃aK,cs[i]?=some (.n e aK))->ph.val (id+i)=v)->
   (aF G id cs).1.map (ah.ae U ph)=bP/\(∀r∈(aF G id cs).2,∃i:Nat,i<cs.length/\r=⟨id+i,r.e,r.ks,id+i,true,G⟩/\bP[i]?=some (ph.val r.id)/\R r.e (.inl r.ks) (ph.val r.id) (U r.lv).list)/\
     (∀n∈dI own G id cs,∃i:Nat,i<cs.length/\n=⟨id+i,n.e,n.aK,id+i,G,own⟩/\bP[i]?=some (ph.val n.id)/\R n.e (.inr n.aK) (ph.val n.id) (U n.lv).list/\cs[i]?=some (.n n.e n.aK)):=by
 intro cs;induction cs with
 |nil=>intro id bP fH h _ _;cases bP<;>cases fH<;>simp_all[fitAll,aF,dI]
 | cons c cs ih=>
   intro id bP fH h he hp;cases bP with
   |nil=>simp[fitAll]at h
   | cons v vs=>cases fH with
     |nil=>simp[fitAll]at h
     | cons d ds=>
       obtain⟨e1,e2,e4⟩:=ih (id+1) vs ds h.2 (fun i d hd=>by rw[show id+1+i=id+(i+1)by omega];exact he (i+1) d (by simpa using hd))
         (fun i v hv e ks hc=>by rw[show id+1+i=id+(i+1)by omega];exact hp (i+1) v (by simpa using hv) e ks (by simpa using hc))
       have zh:U id=d:=by have:=he 0 d rfl;simpa using this
       have hf:=h.1;have xd:∀r∈(aF G (id+1) cs).2,∃i:Nat,i<(c::cs).length/\r=⟨id+i,r.e,r.ks,id+i,true,G⟩/\(v::vs)[i]?=some (ph.val r.id)/\R r.e (.inl r.ks) (ph.val r.id) (U r.lv).list:=fun r hr=>by
         obtain⟨i,h1,h2,h3,h4⟩:=e2 r hr;refine⟨i+1,by simpa using h1,?_,by simpa using h3,h4⟩
         rw[show id+(i+1)=id+1+i by omega];exact h2
       have E9:∀n∈dI own G (id+1) cs,∃i:Nat,i<(c::cs).length/\n=⟨id+i,n.e,n.aK,id+i,G,own⟩/\(v::vs)[i]?=some (ph.val n.id)/\R n.e (.inr n.aK) (ph.val n.id) (U n.lv).list/\(c::cs)[i]?=some (.n n.e n.aK):=fun n hn=>by
         obtain⟨i,h1,h2,h3,h4,h5⟩:=e4 n hn;refine⟨i+1,by simpa using h1,?_,by simpa using h3,h4,by simpa using h5⟩
         rw[show id+(i+1)=id+1+i by omega];exact h2
       cases c with
       | n e aK=>
         have hv:ph.val id=v:=by have:=hp 0 v rfl e [] (.inr ⟨aK,rfl⟩);simpa using this
         refine⟨?_,fun r hr=>xd r (by simpa[aF,cG]using hr),fun n hn=>?_⟩
         . simp only[aF,List.map_cons,e1,cG,ah.ae,hv]
         . simp only[dI,bq]at hn;rcases hn with rfl|hn
           . refine⟨0,by simp,by simp,by simp[hv],?_,by simp⟩
             simp only[hv,zh];cases d<;>simp_all[ju,DV.list]
           . exact E9 n hn
       | c k=>
         refine⟨?_,?_,fun n hn=>E9 n (by simpa[dI]using hn)⟩
         . simp only[aF,List.map_cons,e1];congr 1;cases k<;>cases d<;>simp_all[ju,cG,ah.ae,IE.ae,BE.ae,DV.int,DV.bool]
         . intro r hr;have:r∈(aF G (id+1) cs).2:=by cases k<;>simpa[aF,cG]using hr
           exact xd r this
       | s e ks=>
         have hv:ph.val id=v:=by have:=hp 0 v rfl e ks (.inl rfl);simpa using this
         refine⟨?_,?_,fun n hn=>E9 n (by simpa[dI]using hn)⟩
         . simp only[aF,List.map_cons,e1,cG,ah.ae,hv]
         . intro r hr;simp only[aF,cG,List.cons_append,List.nil_append,bq]at hr;rcases hr with rfl|hr
           . refine⟨0,by simp,by simp,by simp[hv],?_⟩
             simp only[hv,zh];cases d<;>simp_all[ju,DV.list]
           . exact xd r hr
theorem gk{q:Nat->Bool}(G:BE)(hG:G.all q=true):∀(cs:List CT) (id:Nat),(∀i,i<cs.length->q (id+i)=true)->bh q (aF G id cs).1=true/\∀r∈(aF G id cs).2,r.all q=true:=by
 intro cs;induction cs with
 |nil=>intro id _;simp[aF,bh]
 | cons c cs ih=>
   intro id h;obtain⟨e1,e2⟩:=ih (id+1) (fun i hi=>by rw[show id+1+i=id+(i+1)by omega];exact h (i+1) (by simpa using hi))
   have h0:q id=true:=by have:=h 0 (by simp);simpa using this
   cases c with
   |c k=>cases k<;>simp_all[aF,cG,bh,ah.all,IE.all,BE.all]
   |n e aK=>simp_all[aF,cG,bh,ah.all]
   | s e ks=>
     refine⟨by simp_all[aF,cG,bh,ah.all],?_⟩
     intro r hr;simp only[aF,cG,List.cons_append,List.nil_append,bq]at hr;rcases hr with rfl|hr
     . simp[Row.all,h0,hG]
     . exact e2 r hr
theorem s8{q:Nat->Bool}(own:Bool)(G:BE)(hG:G.all q=true):∀(cs:List CT) (id:Nat),(∀i,i<cs.length->q (id+i)=true)->∀n∈dI own G id cs,n.all q=true:=by
 intro cs;induction cs with
 |nil=>intro id _ n hn;simp[dI]at hn
 | cons c cs ih=>
   intro id h n hn;have hr:=ih (id+1) (fun i hi=>by rw[show id+1+i=id+(i+1)by omega];exact h (i+1) (by simpa using hi)) n
   have h0:q id=true:=by have:=h 0 (by simp);simpa using this
   cases c with
   |c k=>exact hr (by simpa[dI]using hn)
   |s e ks=>exact hr (by simpa[dI]using hn)
   | n e aK=>
     simp only[dI,bq]at hn;rcases hn with rfl|hn
     . simp[dG.all,h0,hG]
     . exact hr hn
theorem lz{q:Nat->Bool}(G:BE)(hG:G.all q=true):∀(ts:List VT) (id:Nat),(∀i,i<(bD ts).length->q (id+i)=true)->dm q (bX G id ts).1=true:=by
 intro ts;induction ts with
 |nil=>intro id _;rfl
 | cons t ts ih=>
   intro id h;have e:bD (t::ts)=t.bD++bD ts:=by simp[bD]
   rw[e,eH]at h;have h1:=(gk G hG t.bD id (fun i hi=>h i (by omega))).1
   have h2:=ih (id+t.bD.length) (fun i hi=>by rw[Nat.add_assoc];exact h _ (by omega))
   simp only[bX,dm,h2,Bool.and_true];cases t with
   |one c=>simpa[iM,VT.bD,aF,bh,V1.all]using h1
   |ptr e k=>simpa[iM,VT.bD,aF,cG,bh,V1.all,ah.all,IE.all]using h1
   | fn g cs=>
     simp only[iM,V1.all,ah.all];exact zF G cs id fun i hi=>h i (by simp[VT.bD];omega)
   |agg cs=>simpa[iM,VT.bD,V1.all]using h1
end Go.Sx
namespace Go.Sx
open Go.RowKit
variable {U ak:az}{ph aH:Ph}{P:Program}
def Ph.dq(ph:Ph)(key:Nat)(bP:List Value):Ph:=
 { ph with v:=fun k=>if key<=k then(match bP[k-key]? with
   |some (.slice a b c)=>(a,b,c)
   |_=>ph.v k)else ph.v k}
theorem rI{ph:Ph}{key i:Nat}{bP:List Value}{a:Option Addr}{b c:Nat}(h:bP[i]?=some (.slice a b c)):(ph.dq key bP).val (key+i) = .slice a b c:=by
 simp[Ph.val,Ph.dq,h]
theorem oU{w:World}{B B':Nat}{e:TypeId}{sz:Nat}{v:Value}{n:Nat}{xs:List Value}(h:w.ownsRow B' e sz v n xs)(hb:B<=B'):w.ownsRow B e sz v n xs:=by
 obtain⟨h1,h2|⟨g,cap,cur,e1,e2,e3⟩⟩:=h
 . exact⟨h1,.inl h2⟩
 . exact⟨h1,.inr ⟨g,cap,cur,e1,Nat.le_trans hb e2,e3⟩⟩
theorem rJ{vs:List V1}:(nY vs).ae U ph=packed (vs.map (V1.ae U ph)):=by
 match vs with
 | []=>rfl
 | [v]=>rfl
 |_::_::_=>rfl
theorem n7{q:Nat->Bool}{G:BE}{vs:List V1}(hG:G.all q=true)(h:dm q vs=true):(⟨G,nY vs⟩:aP).all q=true:=by
 match vs with
 | []=>simp[aP.all,hG,nY,SV.all,dm]
 | [v]=>simpa[aP.all,hG,nY,SV.all,dm]using h
 |_::_::_=>simpa[aP.all,hG,nY,SV.all]using h
def Ph.kP(ph:Ph)(cs:List CT)(own:Bool)(bP:List Value)(lo hi:Nat):Ph:={ph with z:=fun k=>ph.z k\/(cs.any CT.uA=true/\lo<=k/\k<hi/\(own=true->∀v∈bP,v.ownBlock≠some k)) }
theorem ig{r:dG}:∀ {rs l:List dG},r∈pB rs l↔r∈rs\/r∈l:=by
 intro rs;induction rs with
 |nil=>intro l;simp[pB]
 | cons x rs ih=>
   intro l;show r∈sT x (pB rs l)↔_;rw[gh,ih,bq,or_assoc]
theorem zG(G:BE):∀(cs:List CT) (id:Nat),∀r∈(aF G id cs).2,cs.any CT.Yi=true:=by
 intro cs;induction cs with
 |nil=>intro id r hr;simp[aF]at hr
 | cons c cs ih=>
   intro id r hr;cases c with
   |s e ks=>simp[CT.Yi]
   |c k=>simp only[List.any_cons,ih (id+1) r (by cases k<;>simpa[aF,cG]using hr),Bool.or_true]
   |n e aK=>simp only[List.any_cons,ih (id+1) r (by simpa[aF,cG]using hr),Bool.or_true]
theorem n8(own:Bool)(G:BE):∀(cs:List CT) (id:Nat),∀r∈dI own G id cs,r.g=G/\r.own=own:=by
 intro cs;induction cs with
 |nil=>intro id r hr;simp[dI]at hr
 | cons c cs ih=>
   intro id r hr;cases c with
   |c k=>exact ih _ r (by simpa[dI]using hr)
   |s e ks=>exact ih _ r (by simpa[dI]using hr)
   | n e aK=>
     simp only[dI,bq]at hr;rcases hr with rfl|hr
     . exact⟨rfl,rfl⟩
     . exact ih _ r hr
theorem Lb:∀ {cs:List CT} {i j:Nat} {c d:CT},cs.countP CT.uA<=1->cs[i]?=some c->cs[j]?=some d->c.uA=true->d.uA=true->i=j:=by
 intro cs;induction cs with
 |nil=>intro i j c d _ h;simp at h
 | cons x cs ih=>
   intro i j c d hc hi hj h1 h2;have Tn:∀ {j:Nat} {d:CT},x.uA=true->cs[j]?=some d->d.uA=true->False:=fun hx hj hd=>by
     have:0<cs.countP CT.uA:=List.countP_pos_iff.2 ⟨_,List.mem_of_getElem? hj,hd⟩;rw[List.countP_cons_of_pos hx]at hc;omega
   cases i with
   | zero=>
     simp only[List.getElem?_cons_zero,af]at hi;cases j with
     |zero=>rfl
     |succ j=>exact(Tn (by rw[hi];exact h1) (by simpa using hj) h2).elim
   | succ i=>
     cases j with
     | zero=>
       simp only[List.getElem?_cons_zero,af]at hj;exact(Tn (by rw[hj];exact h2) (by simpa using hi) h1).elim
     | succ j=>
       have:=ih (i:=i) (j:=j) (Nat.le_trans (List.Sublist.countP_le (List.sublist_cons_self ..)) hc) (by simpa using hi) (by simpa using hj) h1 h2
       omega
theorem Dq{w0 w w':World}{st:St}{a:Act}{key:Nat}{G:BE}{res:List VT}{bP:List Value}{fH:List DV}{dst:Option Tmp}(h:Sat w0 U ph st a w)(aR:st.free key (width res)=true)(BG:oO (bD res)=true)(hG:G.all st.has=true)
   (Uv:G.ae U=true) (hb:Below w.heap.size w w') (hf:fitAll (jO w' w.heap.size) (bD res) bP fH) (Qk:fR bP) :
   Step w0 U (U.ar key fH) ph ((ph.dq key bP).kP (bD res) (decide (G=BE.c true)) bP w.heap.size w'.heap.size) st ({st.bn key (width res)with rows:=cR (bX G key res).2 st.rows,aY:=pB (dI (decide (G=BE.c true)) G key (bD res)) st.aY}.put dst ⟨G,nY (bX G key res).1⟩) (a.put dst (packed (bT res bP))) w w' none:=by
 obtain⟨Ao,xh⟩:=mu hf;have hw:width res=(bD res).length:=rfl;have u9:∀k,st.has k=true->k<key\/key+(bD res).length<=k:=fun k hk=>by
   rcases Nat.lt_or_ge k key with h1|h1
   . exact .inl h1
   . rcases Nat.lt_or_ge k (key+(bD res).length)with h2|h2
     . rw[cM aR h1 h2]at hk;cases hk
     . exact .inr h2
 have bF:bj st.has U (U.ar key fH) ph ((ph.dq key bP).kP (bD res) (decide (G=BE.c true)) bP w.heap.size w'.heap.size):=by
   refine⟨fun k hk=>?_,fun _ _=>rfl,fun k hk=>?_⟩
   . rcases u9 k hk with h1|h1
     . rw[az.aX h1]
     . rw[az.ej (by omega)]
   . rcases u9 k hk with h1|h1
     . simp only[Ph.kP,Ph.dq];rw[if_neg (by omega)]
     . simp only[Ph.kP,Ph.dq];rw[if_pos (by omega),List.getElem?_eq_none (by omega)]
 have adx:bj st.has U (U.ar key fH) ph (ph.dq key bP):=⟨bF.e,bF.r,bF.v⟩;have Ap:=h.congr adx;have Zs:bj st.has (U.ar key fH) (U.ar key fH) (ph.dq key bP) ((ph.dq key bP).kP (bD res) (decide (G=BE.c true)) bP w.heap.size w'.heap.size):=⟨fun _ _=>rfl,fun _ _=>rfl,fun _ _=>rfl⟩
 have Qi:∀k,((ph.dq key bP).kP (bD res) (decide (G=BE.c true)) bP w.heap.size w'.heap.size).z k->ph.z k\/(w.heap.size<=k/\k<w'.heap.size/\(bD res).any CT.uA=true/\((decide (G=BE.c true))=true->∀v∈bP,v.ownBlock≠some k)):=fun k hk=>hk.imp (fun h=>h) (fun h=>⟨h.2.1,h.2.2.1,h.1,h.2.2.2⟩)
 have iP:iW w0.heap.size (U.ar key fH) ((ph.dq key bP).kP (bD res) (decide (G=BE.c true)) bP w.heap.size w'.heap.size) st.aT st.rows w:=iW.congr Zs h.names.aT h.names.rows Ap.mem;have ht':fj (U.ar key fH) ((ph.dq key bP).kP (bD res) (decide (G=BE.c true)) bP w.heap.size w'.heap.size) st.tmps a.tmps:=⟨Ap.tmps.1,fun t s ht=>by rw[Ap.tmps.2 t s ht,aP.aq Zs (h.names.tmps t s ht)]⟩
 have EJ:G.ae (U.ar key fH)=true:=by rw[<- BE.aq bF.e hG];exact Uv
 obtain⟨e1,e2,e2N⟩:=s7 (U:=U.ar key fH) (ph:=(ph.dq key bP).kP (bD res) (decide (G=BE.c true)) bP w.heap.size w'.heap.size) (decide (G=BE.c true)) G (bD res) key bP fH hf (fun i d hd=>az.cm hd) (fun i v hv e ks hc=>by
   have UK:∃a b c,v = .slice a b c:=by
     rcases hc with hc|⟨aK,hc⟩
     . obtain⟨v',d,tv,hd,dr⟩:=iR hf hc;rw[hv]at tv;simp only[af]at tv;subst tv;cases d with
       |i n=>simp[ju]at dr
       |b x=>simp[ju]at dr
       | l xs=>
         obtain⟨_,ho⟩:=dr;obtain⟨sl,rfl⟩:=jW ho;exact⟨_,_,_,rfl⟩
     . obtain⟨v',d,tv,hd,dr⟩:=iR hf hc;rw[hv]at tv;simp only[af]at tv;subst tv;cases d with
       |i n=>simp[ju]at dr
       |b x=>simp[ju]at dr
       | l xs=>
         obtain⟨_,zi,_,_,cs,ho,_⟩:=dr;obtain⟨sl,rfl⟩:=jW ho;exact⟨_,_,_,rfl⟩
   obtain⟨a0,b0,c0,rfl⟩:=UK;exact rI (ph:=ph) hv)
 rw[<- eD]at e2;have uV:=oT (U:=U.ar key fH) (ph:=(ph.dq key bP).kP (bD res) (decide (G=BE.c true)) bP w.heap.size w'.heap.size) G res key bP e1;have bI:∀k,st.has k=true->(st.bn key (width res)).has k=true:=fun k hk=>fO hk
 have ia:∀i,i<(bD res).length->(st.bn key (width res)).has (key+i)=true:=fun i hi=>hZ (by omega) (by rw[hw];omega)
 have b8:=gk (q:=(st.bn key (width res)).has) G (BE.aB bI hG) (bD res) key ia;have gn:w.grownBy w' none:=jU hb;have hB:w0.heap.size<=w.heap.size:=h.below.size;have pz:∀r∈(bX G key res).2,∃i:Nat,i<(bD res).length/\r.id=key+i/\r.own=true/\bP[i]?=some (((ph.dq key bP).kP (bD res) (decide (G=BE.c true)) bP w.heap.size w'.heap.size).val r.id)/\fE w0.heap.size (U.ar key fH) ((ph.dq key bP).kP (bD res) (decide (G=BE.c true)) bP w.heap.size w'.heap.size) r w'/\∀k,r.bQ (U.ar key fH) ((ph.dq key bP).kP (bD res) (decide (G=BE.c true)) bP w.heap.size w'.heap.size)=some k->(((ph.dq key bP).kP (bD res) (decide (G=BE.c true)) bP w.heap.size w'.heap.size).val r.id).ownBlock=some k/\w.heap.size<=k:=by
   intro r hr;obtain⟨i,hi,Ld,Fa,hR⟩:=e2 r hr;obtain⟨h0,ho⟩:=hR;have bG:r.own=true:=by rw[Ld]
   refine⟨i,hi,by rw[Ld],bG,Fa,⟨h0,?_⟩,fun k hk=>?_⟩
   . rw[if_pos bG];exact oU ho hB
   . have cO:(((ph.dq key bP).kP (bD res) (decide (G=BE.c true)) bP w.heap.size w'.heap.size).val r.id).ownBlock=some k:=by simpa[Row.bQ,bG]using hk
     exact⟨cO,(ho.lt k cO).1⟩
 have hold:∀r∈st.rows,r.g.ae (U.ar key fH)=true->∀k,r.bQ (U.ar key fH) ((ph.dq key bP).kP (bD res) (decide (G=BE.c true)) bP w.heap.size w'.heap.size)=some k->k<w.heap.size:=fun r hr h1 k hk=>(iP.row r hr h1).rm hk
 refine⟨⟨?_,?_,h.below.grown gn h.below.size (fun k hk=>by cases hk),by rw[cA];exact h.defers,?_,?_⟩,bF,gn,fun k hk=>by rw[cj];exact bI k hk,fun b hb=>.inl ⟨b,by rw[bR]at hb;exact hb,rfl⟩⟩
 . refine ma (st:={st.bn key (width res)with rows:=cR (bX G key res).2 st.rows,aY:=pB (dI (decide (G=BE.c true)) G key (bD res)) st.aY}) ht' ?_;simp only[aP.ae,EJ,if_true,rJ,uV]
 . rw[bR,cU];have hk:=iP.grown gn;refine⟨hk.lQ,hk.bb,fun r hr h1=>?_,fun b hb r hr h1=>?_,fun r hr r' cF cx ho h1 h2 k vN s9=>?_⟩
   . rcases bH.1 hr with hr|hr
     . obtain⟨_,_,_,_,_,gD,_⟩:=pz r hr;exact gD
     . exact hk.row r hr h1
   . rcases bH.1 hr with hr|hr
     . obtain⟨_,_,_,_,_,_,wT⟩:=pz r hr;intro e;have:=(wT _ e).2;have:=h.mem.Bk hb;have e3:((ph.dq key bP).kP (bD res) (decide (G=BE.c true)) bP w.heap.size w'.heap.size).r b.id=ph.r b.id:=rfl;omega
     . exact hk.br b hb r hr h1
   . rcases bH.1 hr with hr|hr<;>rcases bH.1 cF with cF|cF
     . obtain⟨i,_,kx,_,Fa,_,wT⟩:=pz r hr;obtain⟨i',_,BH,_,UL,_,UM⟩:=pz r' cF;exact Qk i i' _ _ (fun e=>cx (by rw[kx,BH,e])) Fa UL k (wT k vN).1 (UM k s9).1
     . obtain⟨_,_,_,_,_,_,wT⟩:=pz r hr;have:=(wT k vN).2;have:=hold r' cF h2 k s9;omega
     . obtain⟨_,_,_,_,_,_,wT⟩:=pz r' cF;have:=(wT k s9).2;have:=hold r hr h1 k vN;omega
     . exact hk.rr r hr r' cF cx ho h1 h2 k vN s9
 . refine⟨?_,?_,?_⟩
   . exact fP (st:={st.bn key (width res)with rows:=cR (bX G key res).2 st.rows,aY:=pB (dI (decide (G=BE.c true)) G key (bD res)) st.aY}) (fun t s ht=>aP.aB bI (h.names.tmps t s ht)) (n7 (BE.aB bI hG) (lz G (BE.aB bI hG) res key ia))
   . rw[bR,cj];exact fun b hb=>gC.aB bI (h.names.aT b hb)
   . rw[cU,cj];intro r hr;rcases bH.1 hr with hr|hr
     . rw[eD]at hr;exact b8.2 r hr
     . exact Row.aB bI (h.names.rows r hr)
 . refine da.put (st:={st.bn key (width res)with rows:=cR (bX G key res).2 st.rows,aY:=pB (dI (decide (G=BE.c true)) G key (bD res)) st.aY}) ?_;have hn:=Ap.nest;obtain⟨zz,GA⟩:∃zz:Nat->Prop,zz=((ph.dq key bP).kP (bD res) (decide (G=BE.c true)) bP w.heap.size w'.heap.size).z:=⟨_,rfl⟩;have hS:∀r∈(bX G key res).2,(bD res).any CT.uA=true->False:=fun r hr hN=>by
     have hS:(bD res).any CT.Yi=true:=by
       rw[eD]at hr;exact zG G _ _ r hr
     unfold oO at BG;rw[hN,hS]at BG;cases BG
   have BI:(bD res).any CT.uA=true->(bD res).countP CT.uA<=1:=fun hN=>by
     unfold oO at BG;rw[hN]at BG;simp only[Bool.not_true,Bool.false_or,ao,aC]at BG;exact BG.2
   have BJ:(bD res).any CT.uA=true->(bD res).any CT.Yi=false:=fun hN=>by
     unfold oO at BG;rw[hN]at BG;simp only[Bool.not_true,Bool.false_or,ao,Bool.not_eq_true']at BG;exact BG.1
   have ady:∀(i j:Nat) (v u:Value) (e:TypeId) (aK:List NK) (k:Nat),(bD res)[i]?=some (.n e aK)->bP[i]?=some v->bP[j]?=some u->u.ownBlock=some k->v=u:=fun i j v u e aK k hi hv hu hk=>by
     have hN:(bD res).any CT.uA=true:=List.any_eq_true.2 ⟨_,List.mem_of_getElem? hi,rfl⟩;have hj:∃c,(bD res)[j]?=some c:=by
       have:=(cT.1 hu).1;exact⟨_,dJ (by omega)⟩
     obtain⟨c,hc⟩:=hj;obtain⟨u',d,Ki,_,dr⟩:=iR hf hc;rw[hu,af]at Ki;subst Ki;cases c with
     |c kk=>cases kk<;>cases d<;>simp only[ju]at dr<;>subst dr<;>simp[Value.ownBlock]at hk
     | s e' ks=>
       have:=BJ hN;rw[List.any_eq_false]at this;exact absurd rfl (this _ (List.mem_of_getElem? hc))
     | n e' Zh=>
       have:=Lb (BI hN) hi hc rfl rfl;subst this;rw[hv,af]at hu;exact hu
   have hnN:∀n∈dI (decide (G=BE.c true)) G key (bD res),∃i:Nat,n.id=key+i/\(bD res)[i]?=some (.n n.e n.aK)/\bP[i]?=some (((ph.dq key bP).kP (bD res) (decide (G=BE.c true)) bP w.heap.size w'.heap.size).val n.id)/\0<n.aK.length/\eU w0.heap.size (U.ar key fH) ((ph.dq key bP).kP (bD res) (decide (G=BE.c true)) bP w.heap.size w'.heap.size) n w'/\
       ∀k,(((ph.dq key bP).kP (bD res) (decide (G=BE.c true)) bP w.heap.size w'.heap.size).val n.id).ownBlock=some k->w.heap.size<=k/\k<w'.heap.size:=fun n fJ=>by
     obtain⟨i,hi,Y8,Fa,⟨h2,zi,h3,Zt,UN⟩,h4⟩:=e2N n fJ;have hN:(bD res).any CT.uA=true:=List.any_eq_true.2 ⟨_,List.mem_of_getElem? h4,rfl⟩;have cQ:∀k,(((ph.dq key bP).kP (bD res) (decide (G=BE.c true)) bP w.heap.size w'.heap.size).val n.id).ownBlock=some k->w.heap.size<=k/\k<w'.heap.size:=fun k hk=>by
       obtain⟨cs,ho,_⟩:=UN;exact ho.lt k hk
     refine⟨i,by rw[Y8],h4,Fa,h2,?_,cQ⟩
     have bG:=(n8 _ G _ _ n fJ).2;have Zu:∀k,zi k->((ph.dq key bP).kP (bD res) (decide (G=BE.c true)) bP w.heap.size w'.heap.size).z k:=fun k hk=>.inr ⟨hN,(h3 k hk).1,(h3 k hk).2,fun _ v hv e=>by
       obtain⟨j,hj⟩:=List.getElem?_of_mem hv;have:=ady i j _ v _ _ k h4 Fa hj e;subst this;exact Zt k e hk⟩
     unfold eU;split
     . obtain⟨cs,ho,iu⟩:=UN.lk (z':=fun k=>((ph.dq key bP).kP (bD res) (decide (G=BE.c true)) bP w.heap.size w'.heap.size).z k/\w0.heap.size<=k) (fun _ _=>rfl) (fun k hk=>⟨Zu k hk,Nat.le_trans hB (h3 k hk).1⟩) (fun _ _=>rfl)
       exact⟨cs,oU ho hB,iu⟩
     . rename_i nX;exact UN.reads h2 Zu (fun k hk=>.inr ⟨hN,(cQ k hk).1,(cQ k hk).2,fun ht=>by rw[bG]at nX;exact absurd ht nX⟩)
   have Aj:∀b∈st.aT,((ph.dq key bP).kP (bD res) (decide (G=BE.c true)) bP w.heap.size w'.heap.size).r b.id<w.heap.size:=fun b hb=>h.mem.Bk hb
   refine⟨fun k hk=>?_,fun b hb hz=>?_,fun r hr ho h1 k hk hz=>?_,fun n fJ h1=>?_,fun n fJ=>?_,fun n fJ ho=>?_⟩
   . rcases Qi k hk with h2|h2
     . exact Nat.lt_of_lt_of_le (hn.lt k h2) gn.size
     . exact h2.2.1
   . rcases Qi _ hz with h2|h2
     . exact hn.bz b hb h2
     . have:=Aj b hb;omega
   . rcases bH.1 hr with hr|hr
     . obtain⟨i,hi,_,_,_,_,wT⟩:=pz r hr;have h3:=(wT k hk).2;rcases Qi _ hz with h2|h2
       . have:=hn.lt k h2;omega
       . exact hS r hr h2.2.2.1
     . rcases Qi _ hz with h2|h2
       . exact hn.rz r hr ho h1 k hk h2
       . have:=hold r hr h1 k hk;omega
   . rcases ig.1 fJ with fJ|fJ
     . obtain⟨i,_,_,_,h2,h3,_⟩:=hnN n fJ;exact⟨h2,h3⟩
     . obtain⟨h2,h3⟩:=hn.rd n fJ h1;refine⟨h2,?_⟩;unfold eU at *;split
       . rename_i ho;rw[if_pos ho]at h3;exact h3.lk (fun k hk=>gn.block k (hn.lt k hk.1) (by simp)) (fun k hk=>⟨.inl hk.1,hk.2⟩) (fun k hk=>gn.block k (hn.nu fJ ho hk).2 (by simp))
       . rename_i ho;rw[if_neg ho]at h3;exact h3.lk (fun k hk=>gn.block k (hn.lt k hk) (by simp)) fun k hk=>.inl hk
   . rcases ig.1 fJ with fJ|fJ
     . exact s8 _ G (BE.aB bI hG) (bD res) key ia n fJ
     . exact dG.aB bI (h.nest.nm n fJ)
   . rcases ig.1 fJ with fJ|fJ
     . obtain⟨KX,GM⟩:=n8 _ G _ _ n fJ;obtain⟨i,kx,h4,Fa,_,_,cQ⟩:=hnN n fJ;have hGc:G = .c true:=by rw[GM]at ho;simpa using ho
       have hN:(bD res).any CT.uA=true:=List.any_eq_true.2 ⟨_,List.mem_of_getElem? h4,rfl⟩;refine⟨by rw[KX,hGc],fun k hk=>?_⟩
       obtain⟨vN,s9⟩:=cQ k hk;refine⟨fun hz=>?_,fun b hb e=>?_,fun r hr Fb zd=>?_,fun n' nC ow BH=>?_⟩
       . rcases Qi _ hz with h2|h2
         . have:=hn.lt k h2;omega
         . exact h2.2.2.2 (by simpa using hGc) _ (List.mem_of_getElem? Fa) hk
       . have:=Aj b hb;omega
       . rcases bH.1 hr with hr|hr
         . exact hS r hr hN
         . have:=hold r hr Fb k zd;omega
       . intro zd;rcases ig.1 nC with nC|nC
         . obtain⟨i',adz,Zv,_⟩:=hnN n' nC;have:=Lb (BI hN) h4 Zv rfl rfl;subst this;exact BH (by rw[kx,adz])
         . have:=(hn.nu nC ow (k:=k) zd).2;omega
     . obtain⟨g1,g2⟩:=hn.oz n fJ ho;refine⟨g1,fun k hk=>?_⟩
       obtain⟨f1,f2,f3,f4⟩:=g2 k hk;have cQ:=(hn.nu fJ ho hk).2;refine⟨fun hz=>?_,f2,fun r hr Fb zd=>?_,fun n' nC ow BH=>?_⟩
       . rcases Qi _ hz with h2|h2
         . exact f1 h2
         . omega
       . rcases bH.1 hr with hr|hr
         . obtain⟨_,_,_,_,_,_,wT⟩:=pz r hr;have:=(wT k zd).2;omega
         . exact f3 r hr Fb zd
       . intro zd;rcases ig.1 nC with nC|nC
         . obtain⟨_,_,_,_,_,_,IV⟩:=hnN n' nC;have:=(IV k zd).1;omega
         . exact f4 n' nC ow BH zd
theorem Fc{w0 w:World}{st:St}{a:Act}{key:Nat}{G:BE}{res:List VT}{fH:List DV}{dst:Option Tmp}(h:Sat w0 U ph st a w)(aR:st.free key (width res)=true)(hG:G.all st.has=true)
   (Y9:G.ae U=false) (hl:fH.length=(bD res).length) :
   Step w0 U (U.ar key fH) ph ph st ({st.bn key (width res)with rows:=cR (bX G key res).2 st.rows,aY:=pB (dI (decide (G=BE.c true)) G key (bD res)) st.aY}.put dst ⟨G,nY (bX G key res).1⟩) (a.put dst undef) w w none:=by
 have hw:width res=(bD res).length:=rfl;have bF:bj st.has U (U.ar key fH) ph ph:=by
   refine⟨fun k hk=>?_,fun _ _=>rfl,fun k hk=>rfl⟩
   rcases Nat.lt_or_ge k key with h1|h1
   . rw[az.aX h1]
   . rcases Nat.lt_or_ge k (key+(bD res).length)with h2|h2
     . rw[cM aR h1 h2]at hk;cases hk
     . rw[az.ej (by omega)]
 have iP:=h.congr bF;have EJ:G.ae (U.ar key fH)=false:=by rw[<- BE.aq bF.e hG];exact Y9
 have bI:∀k,st.has k=true->(st.bn key (width res)).has k=true:=fun k hk=>fO hk
 have ia:∀i,i<(bD res).length->(st.bn key (width res)).has (key+i)=true:=fun i hi=>hZ (by omega) (by rw[hw];omega)
 have b8:=gk (q:=(st.bn key (width res)).has) G (BE.aB bI hG) (bD res) key ia;have Yk:∀r∈(bX G key res).2,r.g=G:=by
   have:∀(cs:List CT) (id:Nat),∀r∈(aF G id cs).2,r.g=G:=by
     intro cs;induction cs with
     |nil=>intro id r hr;simp[aF]at hr
     | cons c cs ih=>
       intro id r hr;simp only[aF,List.mem_append]at hr;rcases hr with hr|hr
       . cases c with
         |c k=>cases k<;>simp[cG]at hr
         |s e ks=>simp[cG]at hr;rw[hr]
         |n e aK=>simp[cG]at hr
       . exact ih _ r hr
   rw[eD];exact this _ _
 refine⟨⟨?_,?_,h.below,by rw[cA];exact h.defers,?_,?_⟩,bF,cd w,fun k hk=>by rw[cj];exact bI k hk,fun b hb=>.inl ⟨b,by rw[bR]at hb;exact hb,rfl⟩⟩
 . refine ma (st:={st.bn key (width res)with rows:=cR (bX G key res).2 st.rows,aY:=pB (dI (decide (G=BE.c true)) G key (bD res)) st.aY}) iP.tmps ?_;simp only[aP.ae,EJ];rfl
 . rw[bR,cU];have hk:=iP.mem;have ho:∀r∈cR (bX G key res).2 st.rows,r.g.ae (U.ar key fH)=true->r∈st.rows:=fun r hr h1=>by
     rcases bH.1 hr with hr|hr
     . rw[Yk r hr,EJ]at h1;cases h1
     . exact hr
   exact⟨hk.lQ,hk.bb,fun r hr h1=>hk.row r (ho r hr h1) h1,fun b hb r hr h1=>hk.br b hb r (ho r hr h1) h1,fun r hr r' cF cx hw h1 h2=>hk.rr r (ho r hr h1) r' (ho r' cF h2) cx hw h1 h2⟩
 . refine⟨?_,?_,?_⟩
   . exact fP (st:={st.bn key (width res)with rows:=cR (bX G key res).2 st.rows,aY:=pB (dI (decide (G=BE.c true)) G key (bD res)) st.aY}) (fun t s ht=>aP.aB bI (h.names.tmps t s ht)) (n7 (BE.aB bI hG) (lz G (BE.aB bI hG) res key ia))
   . rw[bR,cj];exact fun b hb=>gC.aB bI (h.names.aT b hb)
   . rw[cU,cj];intro r hr;rcases bH.1 hr with hr|hr
     . rw[eD]at hr;exact b8.2 r hr
     . exact Row.aB bI (h.names.rows r hr)
 . refine da.put (st:={st.bn key (width res)with rows:=cR (bX G key res).2 st.rows,aY:=pB (dI (decide (G=BE.c true)) G key (bD res)) st.aY}) ?_;have hn:=iP.nest;have To:∀n∈dI (decide (G=BE.c true)) G key (bD res),n.own=true->False:=fun n fJ ho=>by
     obtain⟨_,GM⟩:=n8 _ G _ _ n fJ;rw[GM]at ho;have hGc:G = .c true:=by simpa using ho
     rw[hGc]at Y9;cases Y9
   refine⟨hn.lt,hn.bz,fun r hr ho h1 k hk=>?_,fun n fJ h1=>?_,fun n fJ=>?_,fun n fJ ho=>?_⟩
   . rcases bH.1 hr with hr|hr
     . rw[Yk r hr,EJ]at h1;cases h1
     . exact hn.rz r hr ho h1 k hk
   . rcases ig.1 fJ with fJ|fJ
     . rw[(n8 _ G _ _ n fJ).1,EJ]at h1;cases h1
     . exact hn.rd n fJ h1
   . rcases ig.1 fJ with fJ|fJ
     . exact s8 _ G (BE.aB bI hG) (bD res) key ia n fJ
     . exact dG.aB bI (h.nest.nm n fJ)
   . rcases ig.1 fJ with fJ|fJ
     . exact(To n fJ ho).elim
     . obtain⟨g1,g2⟩:=hn.oz n fJ ho;refine⟨g1,fun k hk=>?_⟩
       obtain⟨f1,f2,f3,f4⟩:=g2 k hk;refine⟨f1,f2,fun r hr Fb zd=>?_,fun n' nC ow BH=>?_⟩
       . rcases bH.1 hr with hr|hr
         . rw[Yk r hr,EJ]at Fb;cases Fb
         . exact f3 r hr Fb zd
       . rcases ig.1 nC with nC|nC
         . exact(To n' nC ow).elim
         . exact f4 n' nC ow BH
end Go.Sx

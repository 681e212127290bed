/- Numbers that are handed on as they came in; triangles exactly. -/
import Derived.Test.YtohebioanhliiaaGreatDoorFL1
set_option linter.unusedVariables false
set_option linter.unusedSimpArgs false
set_option maxRecDepth 100000
namespace Go.Sx
section
inductive Nu where
 |t
 |s (k:Nat)
 |r (lo hi:Int)
inductive Kn where
 |t
 |x (v:Nu)
 |l (cs:List (Nat×Nu))
 |k (vs:List Nu)
 |n
def Nu.has(σ:Nat->Int):Nu->Int->Prop
 |.t,_=>True
 |.s k,n=>n=σ k
 |.r lo hi,n=>lo<=n/\n<=hi
def cG(σ:Nat->Int)(cs:List (Nat×Nu))(r:List Int):Prop:=∀c∈cs,c.2.has σ (r.getD c.1 0)
def Kn.has(σ:Nat->Int):Kn->DV->Prop
 |.t,_=>True
 |.x v,d=>∃n,d = .i n/\v.has σ n
 |.l cs,d=>∀r∈d.list,cG σ cs r
 |.k vs,d=>∀(j:Nat) (v:Nu),vs[j]?=some v->v.has σ (cellAt d.list (j:Int) 0)
 |.n,d=>d.list=[]
def dX(σ:Nat->Int):List Kn->List DV->Prop
 | [],[]=>True
 |a::az,d::ds=>a.has σ d/\dX σ az ds
 |_,_=>False
def PS(σ:Nat->Int):Prop:=(∀k,k<4->0<=σ k/\σ k<=255)/\σ 4≠2
def Nu.le:Nu->Nu->Bool
 |_,.t=>true
 |.s k,.s j=>Nat.beq k j
 |.r a b,.r c d=>decide (c<=a)&&decide (b<=d)
 |.s k,.r c d=>Nat.blt k 4&&(decide (c<=0)&&decide (255<=d))
 |_,_=>false
theorem Nu.BF{σ:Nat->Int}(mo:PS σ){a b:Nu}{n:Int}(h:a.le b=true)(ha:a.has σ n):b.has σ n:=by
 cases a with
 | t=>cases b with
   |t=>trivial
   |_=>cases h
 | s k=>cases b with
   |t=>trivial
   |s j=>exact(tm h)▸ha
   | r c d=>
     obtain⟨h1,h2⟩:=Bool.and_eq_true_iff.1 h;obtain⟨h2,h3⟩:=Bool.and_eq_true_iff.1 h2;have h2:=jY h2;have h3:=jY h3;have:=mo.1 k (Nat.le_of_ble_eq_true h1);have ha:n=σ k:=ha;exact⟨by omega,by omega⟩
 | r lo hi=>cases b with
   |t=>trivial
   |s j=>cases h
   | r c d=>
     obtain⟨h1,h2⟩:=Bool.and_eq_true_iff.1 h;have h1:=jY h1;have h2:=jY h2;have ha:lo<=n/\n<=hi:=ha;exact⟨by omega,by omega⟩
def QN(vs:List Nu):List Nu->Bool
 | []=>true
 |w::ws=>(match vs with|v::_=>v.le w| []=>false)&&QN vs.tail ws
def Kn.le:Kn->Kn->Bool
 |_,.t=>true
 |.x v,.x w=>v.le w
 |.l cs,.l ds=>ds.all fun d=>cs.any fun c=>Nat.beq c.1 d.1&&c.2.le d.2
 |.n,.l _=>true
 |.k vs,.k ws=>QN vs ws
 |_,_=>false
theorem DP{σ:Nat->Int}(mo:PS σ){f:Nat->Int}:∀ {ws vs:List Nu} {o:Nat},QN vs ws=true->(∀(j:Nat) (v:Nu),vs[j]?=some v->v.has σ (f (o+j)))->∀(j:Nat) (w:Nu),ws[j]?=some w->w.has σ (f (o+j))
 | [],_,_,_,_,j,w,e=>by cases e
 |w0::ws,[],_,h,_,_,_,_=>by cases h
 | w0::ws,v0::vs,o,h,hv,j,w,e=>by
   obtain⟨h1,h2⟩:=Bool.and_eq_true_iff.1 h;cases j with
   |zero=>cases e;exact Nu.BF mo h1 (hv 0 _ rfl)
   | succ j=>
     have:=DP mo (ws:=ws) (vs:=vs) (o:=o+1) h2 (fun j v e=>by have:=hv (j+1) v e;rwa[show o+(j+1)=o+1+j by omega]at this) j w e;rwa[show o+1+j=o+(j+1)by omega]at this
theorem Kn.BF{σ:Nat->Int}(mo:PS σ){a b:Kn}{d:DV}(h:a.le b=true)(ha:a.has σ d):b.has σ d:=by
 cases b with
 |t=>trivial
 | x w=>cases a with
   |x v=>obtain⟨n,e,hn⟩:=ha;exact⟨n,e,Nu.BF mo h hn⟩
   |_=>cases h
 | l ds=>cases a with
   | l cs=>
     intro r hr c hc;obtain⟨c',xh,h'⟩:=la.1 (mE.1 h c hc);obtain⟨h1,h2⟩:=Bool.and_eq_true_iff.1 h';have e:=tm h1;have:=Nu.BF mo h2 (ha r hr c' xh);rwa[e]at this
   | n=>
     have ha:d.list=[]:=ha;intro r hr;rw[ha]at hr;cases hr
   |_=>cases h
 | k ws=>cases a with
   | k vs=>
     have:=DP mo (f:=fun j=>cellAt d.list (j:Int) 0) (o:=0) h (fun j v e=>by have:=ha j v e;rwa[fR]);intro j w e;have:=this j w e;rwa[fR]at this
   |_=>cases h
 | n=>cases a with
   |n=>exact ha
   |_=>cases h
def HD:List Kn->List Kn->Bool
 | [],[]=>true
 |a::az,b::bs=>a.le b&&HD az bs
 |_,_=>false
theorem uf{σ:Nat->Int}(mo:PS σ):∀ {az bs:List Kn} {ds:List DV},HD az bs=true->dX σ az ds->dX σ bs ds
 | [],[],[],_,_=>trivial
 | [],[],_::_,_,h=>h.elim
 | [],_::_,_,h,_=>by cases h
 |_::_,[],_,h,_=>by cases h
 |a::az,b::bs,[],h,ha=>ha.elim
 | a::az,b::bs,d::ds,h,ha=>by
   obtain⟨h1,h2⟩:=Bool.and_eq_true_iff.1 h;exact⟨Kn.BF mo h1 ha.1,uf mo h2 ha.2⟩
structure Sf where
 g:List (Nat×Kn)
 f:List BE
def Sf.at(s:Sf)(k:Nat):Kn:=match s.g.find? (fun p=>Nat.beq p.1 k)with
 |some p=>p.2
 |none=>.t
def Sf.fe(s:Sf)(p:BE):Bool:=s.f.any fun q=>q.beq p
structure Sf.ok(σ:Nat->Int)(s:Sf)(ae:aF):Prop where
 g:∀p∈s.g,p.2.has σ (ae p.1)
 f:∀p∈s.f,p.af ae=true
variable {σ:Nat->Int}{s:Sf}{ae:aF}
theorem Sf.ok.at(h:s.ok σ ae)(k:Nat):(s.at k).has σ (ae k):=by
 unfold Sf.at;split;rename_i p hp;have h1:=h.g p (xR hp);have h2:Nat.beq p.1 k=true:=List.find?_some (p:=fun p:Nat×Kn=>Nat.beq p.1 k) hp;have h2:=tm h2;rwa[h2]at h1;trivial
theorem Sf.ok.fe(h:s.ok σ ae){p:BE}(hp:s.fe p=true):p.af ae=true:=by
 obtain⟨q,hq,e⟩:=la.1 hp;have:=BE.beq_eq e;rw[<- this];exact h.f q hq
def Sf.low(s:Sf)(b:Nat):Sf:=⟨s.g.filter fun p=>Nat.blt p.1 b,s.f.filter fun p=>p.all fun k=>Nat.blt k b⟩
theorem Sf.ok.low{aq:aF}{b:Nat}(h:s.ok σ ae)(he:∀k,k<b->aq k=ae k):(s.low b).ok σ aq:=by
 refine⟨fun p hp=>?_,fun p hp=>?_⟩;obtain⟨h1,h2⟩:=jB.1 hp;rw[he _ (Nat.le_of_ble_eq_true h2)];exact h.g p h1;obtain⟨h1,h2⟩:=jB.1 hp;rw[BE.av (p:=fun k=>Nat.blt k b) (fun k hk=>he k (Nat.le_of_ble_eq_true hk)) h2];exact h.f p h1
def Sf.ni(s:Sf)(p:BE):Sf:=⟨s.g,p::((match p with| .and a b=>[a,b]|_=>[])++(s.f.filterMap fun q=>match q with
 |.not (.and a b)=>if a.beq p then some (.not b)else none
 |_=>none)++s.f)⟩
theorem Sf.ok.ni(h:s.ok σ ae){p:BE}(hp:p.af ae=true):(s.ni p).ok σ ae:=by
 refine⟨h.g,fun q hq=>?_⟩;rcases bC.1 hq with rfl|Io;exact hp;rcases jS.1 Io with vN|vN;rcases jS.1 vN with Wa|Wa;cases p with
 | and a b=>
   have hp:(a.af ae&&b.af ae)=true:=hp;rw[ao]at hp;rcases bC.1 Wa with rfl|hq4;exact hp.1;rw[iE.1 hq4];exact hp.2
 |_=>cases Wa
 obtain⟨x,hx,e⟩:=wT.1 Wa;have hx:=h.f x hx;cases x with
 | not y=>cases y with
   | and a b=>
     have e:(if a.beq p then some (BE.not b)else none)=some q:=e;split at e;rename_i OH;cases e;have:=BE.beq_eq OH;subst this;have hx:(!(a.af ae&&b.af ae))=true:=hx;rw[hp]at hx;exact hx;cases e
   |_=>cases e
 |_=>cases e
 exact h.f q vN
def names(b:Nat):List Kn->List (Nat×Kn)
 | []=>[]
 |a::az=>(b,a)::names (b+1) az
theorem BG:∀ {az:List Kn} {ds:List DV} {b:Nat} {e:aF},dX σ az ds->∀p∈names b az,p.2.has σ (e.au b ds p.1)
 | [],_,_,_,_,p,hp=>by cases hp
 |a::az,[],_,_,h,_,_=>h.elim
 | a::az,d::ds,b,e,h,p,hp=>by
   rcases bC.1 hp with rfl|hp;show a.has σ ((e.set b d).au (b+1) ds b);rw[aF.aT (Nat.lt_succ_self b)];simp only[aF.set,if_true];exact h.1;exact BG (e:=e.set b d) h.2 p hp
theorem Sf.ok.au(h:s.ok σ ae){az:List Kn}{ds:List DV}(b:Nat)(ha:dX σ az ds):Sf.ok σ ⟨names b az++(s.low b).g,(s.low b).f⟩ (ae.au b ds):=by
 have hl:=h.low (aq:=ae.au b ds) (b:=b) fun k hk=>aF.aT hk;refine⟨fun p hp=>?_,hl.f⟩;rcases jS.1 hp with hp|hp;exact BG ha p hp;exact hl.g p hp
def Sf.Xt(s:Sf)(l:Nat)(i:IE):Bool:=(match i with| .c n=>decide (0<=n)|_=>s.fe (.le (.c 0) i))&&s.fe (.lt i (.len l))
theorem Sf.ok.Xt(h:s.ok σ ae){l:Nat}{i:IE}(hi:s.Xt l i=true):0<=i.af ae/\i.af ae<((ae l).list.length:Int):=by
 obtain⟨h1,h2⟩:=Bool.and_eq_true_iff.1 hi;have h2:i.af ae<((ae l).list.length:Int):=jY (h.fe h2);refine⟨?_,h2⟩;split at h1;exact jY h1;exact jY (h.fe h1)
def K6(cs:List (Nat×Nu))(j:Nat):Nu:=match cs.find? (fun c=>Nat.beq c.1 j)with
 |some c=>c.2
 |none=>.t
theorem DQ{cs:List (Nat×Nu)}{r:List Int}(h:cG σ cs r)(j:Nat):(K6 cs j).has σ (r.getD j 0):=by
 unfold K6;split;rename_i c hc;have h1:=h c (xR hc);have h2:Nat.beq c.1 j=true:=List.find?_some (p:=fun c:Nat×Nu=>Nat.beq c.1 j) hc;have h2:=tm h2;rwa[h2]at h1;trivial
theorem ug{xs:List (List Int)}{i:Int}(h0:0<=i)(h1:i<(xs.length:Int)):xs.getD i.toNat []∈xs:=by
 have:i.toNat<xs.length:=by omega
 rw[cm,eN this];exact List.getElem_mem this
def Sf.nu0(s:Sf):IE->Nu
 | .v k=>match s.at k with
   |.x v=>v
   |_=>.t
 |.c n=>.r n n
 | .get l i j=>match s.at l with
   |.l cs=>if s.Xt l i then K6 cs j else .t
   | .k vs=>match i,j with
     |.c (.ofNat n),0=>vs.getD n .t
     |_,_=>.t
   |_=>.t
 |_=>.t
theorem Sf.ok.nu0(h:s.ok σ ae)(e:IE):(s.nu0 e).has σ (e.af ae):=by
 unfold Sf.nu0;split;rename_i k;have:=h.at k;split;rename_i v hv;rw[hv]at this;obtain⟨n,e,hn⟩:=this;show v.has σ (ae k).int;rw[e];exact hn;trivial;exact⟨Int.le_refl _,Int.le_refl _⟩;rename_i l i j;have:=h.at l;split;rename_i cs jc;rw[jc]at this;have this:∀r∈(ae l).list,cG σ cs r:=this;split;rename_i hi;obtain⟨h1,h2⟩:=h.Xt hi;exact DQ (this _ (ug h1 h2)) j;trivial;rename_i vs mH;rw[mH]at this;have this:∀(j:Nat) (v:Nu),vs[j]?=some v->v.has σ (cellAt (ae l).list (j:Int) 0):=this;split;rename_i n;cases hn:vs[n]? with
 |none=>rw[cm,hn];trivial
 |some v=>rw[cm,hn];exact this n v hn
 trivial;trivial;trivial
def Sf.nu(s:Sf)(e:IE):Nu:=match s.nu0 e with
 |.t=>if s.fe (.le (.c (-9223372036854775808)) e)&&s.fe (.le e (.c 9223372036854775807))then .r (-9223372036854775808) 9223372036854775807 else .t
 |.r lo hi=>if s.fe (.le (.c 0) e)then .r (max lo 0) hi else if s.fe (.not (.le (.c 0) e))then .r lo (min hi (-1))else .r lo hi
 |v=>v
theorem Sf.ok.nu(h:s.ok σ ae)(e:IE):(s.nu e).has σ (e.af ae):=by
 have h0:=h.nu0 e;unfold Sf.nu;split;split;rename_i hk;obtain⟨k1,k2⟩:=Bool.and_eq_true_iff.1 hk;exact⟨jY (h.fe k1),jY (h.fe k2)⟩;trivial;rename_i lo hi hr;rw[hr]at h0;have h0:lo<=e.af ae/\e.af ae<=hi:=h0;split;rename_i hk;have:=h.fe hk;have:(0:Int)<=e.af ae:=jY this;exact⟨by omega,h0.2⟩;split;rename_i hk;have:=h.fe hk;have:(!(decide ((0:Int)<=e.af ae)))=true:=this;rw[nJ]at this;have:=Dc this;exact⟨h0.1,by omega⟩;exact h0;exact h0
end
section
variable {σ:Nat->Int}{s:Sf}{ae:aF}
variable{cs:List (Nat×Nu)}{f:Nat->Nu}{n:Int}
def Kn.ofL:Kn->Kn
 |.x _=>.t
 |a=>a
theorem Kn.Wb{a:Kn}{d:DV}(h:a.has σ d):a.ofL.has σ (.l d.list):=by
 cases a with
 |t=>trivial
 |x v=>trivial
 |l cs=>exact h
 |k vs=>exact h
 |n=>exact h
def Sf.kn(s:Sf):DE->Kn
 |.i e=>.x (s.nu e)
 |.l k=>(s.at k).ofL
 |.nil=>.n
 |.rows es=>.k (es.map s.nu)
 |_=>.t
theorem Sf.ok.kn(h:s.ok σ ae)(d:DE):(s.kn d).has σ (d.af ae):=by
 cases d with
 |i e=>exact⟨_,rfl,h.nu e⟩
 |b e=>trivial
 |l k=>exact Kn.Wb (h.at k)
 |nil=>rfl
 | rows es=>
   intro j v hv;have hv:(es.map s.nu)[j]?=some v:=hv;rw[iS]at hv;obtain⟨e,he,rfl⟩:=bN.1 hv;show(s.nu e).has σ (((es.map fun e=>[e.af ae]).getD ((j:Int)).toNat []).getD 0 0);have e':(es.map fun e=>[e.af ae]).getD j []=[e.af ae]:=by rw[cm,iS,he];rfl
   rw[pz,e'];exact h.nu e
 |vP xs=>trivial
theorem Sf.ok.kns(h:s.ok σ ae):∀(ds:List DE),dX σ (ds.map s.kn) (ds.map (DE.af ae))
 | []=>trivial
 |d::ds=>⟨h.kn d,h.kns ds⟩
def Nu.join:Nu->Nu->Nu
 |.s k,.s j=>if Nat.beq k j then .s k else .t
 |.r a b,.r c d=>.r (min a c) (max b d)
 |_,_=>.t
theorem Nu.QO{a b:Nu}(h:a.has σ n):(a.join b).has σ n:=by
 cases a with
 |t=>cases b<;>trivial
 | s k=>cases b with
   | s j=>
     show(if Nat.beq k j then Nu.s k else .t).has σ n;split;exact h;trivial
   |_=>trivial
 | r lo hi=>cases b with
   | r c d=>
     have h:lo<=n/\n<=hi:=h;exact⟨by omega,by omega⟩
   |_=>trivial
theorem Nu.QP{a b:Nu}(h:b.has σ n):(a.join b).has σ n:=by
 cases a with
 |t=>cases b<;>trivial
 | s k=>cases b with
   | s j=>
     show(if Nat.beq k j then Nu.s k else .t).has σ n;split;rename_i e;have h:n=σ j:=h;rw[tm e];exact h;trivial
   |_=>trivial
 | r lo hi=>cases b with
   | r c d=>
     have h:c<=n/\n<=d:=h;exact⟨by omega,by omega⟩
   |_=>trivial
def Sf.cell(s:Sf):Sum IE BE->Nu
 |.inl e=>s.nu e
 |.inr _=>.t
theorem Sf.ok.cell(h:s.ok σ ae)(c:Sum IE BE):(s.cell c).has σ (cg ae c):=by
 cases c with
 |inl e=>exact h.nu e
 |inr b=>trivial
def uN(cs:List (Nat×Nu))(f:Nat->Nu):List (Nat×Nu):=cs.map fun c=>(c.1,c.2.join (f c.1))
theorem DR{r:List Int}(h:cG σ cs r):cG σ (uN cs f) r:=by
 intro c hc;obtain⟨c',xh,rfl⟩:=jz.1 hc;exact Nu.QO (h c' xh)
theorem DS{r:List Int}(h:∀j,(f j).has σ (r.getD j 0)):cG σ (uN cs f) r:=by
 intro c hc;obtain⟨c',xh,rfl⟩:=jz.1 hc;exact Nu.QP (h _)
def Sf.FJ(s:Sf)(r:List (Sum IE BE))(j:Nat):Nu:=match r[j]? with
 |some c=>s.cell c
 |none=>.t
theorem Sf.ok.FJ(h:s.ok σ ae)(r:List (Sum IE BE))(j:Nat):(s.FJ r j).has σ ((r.map (cg ae)).getD j 0):=by
 unfold Sf.FJ;split;rename_i c hc;rw[cm,iS,hc];exact h.cell c;trivial
def Sf.row(s:Sf)(r:List (Sum IE BE)):List (Nat×Nu):=(List.range r.length).map fun j=>(j,s.FJ r j)
theorem Sf.ok.row(h:s.ok σ ae)(r:List (Sum IE BE)):cG σ (s.row r) (r.map (cg ae)):=by
 intro c hc;obtain⟨j,_,rfl⟩:=jz.1 hc;exact h.FJ r j
def Sf.lits(s:Sf):List (List (Sum IE BE))->Kn
 | []=>.n
 |r::rs=>.l (rs.foldl (fun cs r=>uN cs (s.FJ r)) (s.row r))
theorem DT(h:s.ok σ ae):∀(rs:List (List (Sum IE BE))) {cs:List (Nat×Nu)} {D:List (List Int)},(∀r∈D,cG σ cs r)->∀r∈D++rs.map (fun r=>r.map (cg ae)),cG σ (rs.foldl (fun cs r=>uN cs (s.FJ r)) cs) r
 | [],cs,D,hD,r,hr=>by rw[pj,vM]at hr;exact hD r hr
 | x::rs,cs,D,hD,r,hr=>by
   refine DT h rs (cs:=uN cs (s.FJ x)) (D:=D++[x.map (cg ae)]) (fun r hr=>?_) r (by rw[OJ];exact hr);rcases jS.1 hr with hr|hr;exact DR (hD r hr);rw[iE.1 hr];exact DS (h.FJ x)
theorem Sf.ok.lits(h:s.ok σ ae)(rs:List (List (Sum IE BE))):(s.lits rs).has σ (.l (rs.map fun r=>r.map (cg ae))):=by
 cases rs with
 |nil=>rfl
 | cons x rs=>
   have:=DT h rs (cs:=s.row x) (D:=[x.map (cg ae)]) (fun r hr=>by rw[iE.1 hr];exact h.row x);exact this
def Kn.app:Kn->Kn->Kn
 |.l cs,.l ds=>.l (uN cs (K6 ds))
 |.l cs,.n=>.l cs
 |.n,.l ds=>.l ds
 |.n,.n=>.n
 |_,_=>.t
theorem Kn.Wc{a b:Kn}{x y:DV}(ha:a.has σ x)(hb:b.has σ y):(a.app b).has σ (.l (x.list++y.list)):=by
 cases a with
 | l cs=>cases b with
   | l ds=>
     have ha:∀r∈x.list,cG σ cs r:=ha;have hb:∀r∈y.list,cG σ ds r:=hb;intro r hr;rcases jS.1 hr with hr|hr;exact DR (ha r hr);exact DS (DQ (hb r hr))
   | n=>
     have hb:y.list=[]:=hb;rw[hb,vM];exact ha
   |_=>trivial
 | n=>
   have ha:x.list=[]:=ha;rw[ha,nM];cases b with
   |l ds=>exact hb
   |n=>exact hb
   |_=>trivial
 |_=>trivial
theorem HE{xs:List (List Int)}{i:Nat}{f:List Int->List Int}{r:List Int}(h:r∈xs.modify i f):r∈xs\/∃x∈xs,r=f x:=by
 obtain⟨k,hk⟩:=List.mem_iff_getElem?.1 h;rw[List.getElem?_modify]at hk;cases hx:xs[k]? with
 |none=>rw[hx]at hk;cases hk
 | some x=>
   rw[hx]at hk;have hk:some (if i=k then f x else x)=some r:=hk;injection hk with hk;have hm:x∈xs:=List.mem_iff_getElem?.2 ⟨k,hx⟩;by_cases e:i=k;rw[if_pos e]at hk;exact .inr ⟨x,hm,hk.symm⟩;rw[if_neg e]at hk;exact .inl (hk▸hm)
def Sf.op(s:Sf):ew->Kn
 |.lit rows=>s.lits rows
 |.app a b=>(s.at a).app (s.at b)
 | .set a _ j x=>match s.at a with
   |.l cs=>.l (cs.map fun c=>(c.1,if Nat.beq c.1 j then c.2.join (s.cell x)else c.2))
   |_=>.t
 |_=>.t
theorem Sf.ok.op(h:s.ok σ ae)(o:ew):(s.op o).has σ (.l (o.af ae)):=by
 cases o with
 |lit rows=>exact h.lits rows
 |app a b=>exact Kn.Wc (h.at a) (h.at b)
 | set a i j x=>
   have ha:=h.at a;show(match s.at a with
     |.l cs=>Kn.l (cs.map fun c:Nat×Nu=>(c.1,if Nat.beq c.1 j then c.2.join (s.cell x)else c.2))
     |_=>.t).has σ _
   split;rename_i cs jc;rw[jc]at ha;have ha:∀r∈(ae a).list,cG σ cs r:=ha;intro r hr c hc;obtain⟨c',xh,rfl⟩:=jz.1 hc;rcases HE (show r∈(ae a).list.modify (i.af ae).toNat (fun r=>mW r j (cg ae x))from hr)with hr|⟨y,hy,rfl⟩;show(if Nat.beq c'.1 j then c'.2.join (s.cell x)else c'.2).has σ _;split;exact Nu.QO (ha r hr c' xh);exact ha r hr c' xh;show(if Nat.beq c'.1 j then c'.2.join (s.cell x)else c'.2).has σ ((mW y j (cg ae x)).getD c'.1 0);rw[s6];split;rename_i e;rw[if_pos (tm e)];exact Nu.QP (h.cell x);rename_i e;rw[if_neg (fun e'=>e (by rw[e'];exact Nat.beq_refl j))];exact ha y hy c' xh;trivial
 |_=>trivial
structure Fc where
 c:FuncId->List (List Kn×List Kn)
 i:Nat->List Kn
 o:List Kn
def Fc.res(c:Fc)(f:FuncId)(g:BE)(az:List Kn):Option (List Kn):=if g.beq (.c true)then(match(c.c f).find? (fun p=>HD az p.1)with
 |some p=>some p.2
 |none=>none)else none
def isKind(s:Sf):BE->Bool
 | .eq e (.c 2)=>match s.nu e with
   |.s 4=>true
   |_=>false
 |_=>false
def aA.fl(c:Fc):aA->Sf->List Nat->Bool
 |.ret bM,s,_=>HD (bM.map s.kn) c.o
 |.stuck _,_,_=>true
 |.ev (.aH p) t,s,op=>t.fl c (s.ni p) op
 | .ev (.call f g args res b) t,s,op=>(match c.res f g (args.map s.kn)with
   |some rs=>t.fl c ⟨names b rs++(s.low b).g,(s.low b).f⟩ op
   |none=>t.fl c (s.low b) op)
 |.ev (.b8 id o) t,s,op=>t.fl c ⟨names id [s.op o]++(s.low id).g,(s.low id).f⟩ op
 |.ev (.dO _ _) _,_,_=>true
 |.ite p a b,s,op=>(isKind s p||a.fl c (s.ni p) op)&&b.fl c (s.ni (.not p)) op
 |.loop id entry _ b body,s,op=>HD (entry.map s.kn) (c.i id)&&body.fl c ⟨names b (c.i id)++(s.low b).g,(s.low b).f⟩ (id::op)
 |.again id bM,s,op=>op.any (Nat.beq id)&&HD (bM.map s.kn) (c.i id)
 |_,_,_=>false
theorem We(mo:PS σ){c:Fc}{E:Nat->List DV->List DV->Prop}{Ps:List (Int->Prop)}(hC:∀f,∀p∈c.c f,∀ds rs,dX σ p.1 ds->E f ds rs->dX σ p.2 rs) :
   ∀ {t:aA} {s:Sf} {op:List Nat} {ae:aF} {F:Nat->List DV->Prop},t.fl c s op=true->s.ok σ ae->(∀id∈op,∀ds,dX σ (c.i id) ds->F id ds)->t.par E (dX σ c.o) Ps ae F:=by
 intro t;induction t with
 |ret bM=>intro s op ae F h hs hF;exact uf mo h (hs.kns bM)
 |stuck w=>intro s op ae F _ _ _;trivial
 | ev e t ih=>
   intro s op ae F h hs hF;cases e with
   |aH p=>intro hp;exact ih h (hs.ni hp) hF
   | call f g args res b=>
     have h:(match c.res f g (args.map s.kn)with
       |some rs=>t.fl c ⟨names b rs++(s.low b).g,(s.low b).f⟩ op
       |none=>t.fl c (s.low b) op)=true:=h
     cases hr:c.res f g (args.map s.kn)with
     | none=>
       rw[hr]at h;exact⟨fun _ rs _=>ih h (hs.low fun k hk=>aF.aT hk) hF,fun _=>ih h (hs.low fun k hk=>aF.aT hk) hF⟩
     | some r=>
       rw[hr]at h;unfold Fc.res at hr;split at hr;rename_i LY;split at hr;rename_i p hp;injection hr with hr;subst hr;have h1:HD (args.map s.kn) p.1=true:=List.find?_some (p:=fun p:List Kn×List Kn=>HD (args.map s.kn) p.1) hp;refine⟨fun hg rs vn=>ih h (hs.au b (hC f p (xR hp) _ _ (uf mo h1 (hs.kns args)) vn)) hF,fun hg=>?_⟩;rw[BE.beq_eq LY]at hg;cases hg;cases hr;cases hr
   | b8 id o=>
     exact ih h (hs.au id (ds:=[.l (o.af ae)]) ⟨hs.op o,trivial⟩) hF
   |dO p e=>trivial
 | ite p a b fz fX=>
   intro s op ae F h hs hF;obtain⟨h1,h2⟩:=Bool.and_eq_true_iff.1 h;refine⟨fun hp=>?_,fun hp=>fX h2 (hs.ni (by show(!p.af ae)=true;rw[hp];rfl)) hF⟩;rcases Bool.or_eq_true_iff.1 h1 with h3|h3;exfalso;unfold isKind at h3;split at h3;rename_i e;have hn:=hs.nu e;split at h3;rename_i hk;rw[hk]at hn;have hn:e.af ae=σ 4:=hn;have hp:e.af ae=2:=jY hp;exact mo.2 (by omega);cases h3;cases h3;exact fz h3 (hs.ni hp) hF
 | loop id entry ks b body ih=>
   intro s op ae F h hs hF;obtain⟨h1,h2⟩:=Bool.and_eq_true_iff.1 h;refine⟨dX σ (c.i id),uf mo h1 (hs.kns entry),fun ds hd=>ih h2 (hs.au b hd) fun j hj xJ ZF=>?_⟩;unfold kO;split;rename_i e;subst e;exact ZF;rename_i e;rcases bC.1 hj with e'|hj;exact absurd e' e;exact hF j hj xJ ZF
 | again id bM=>
   intro s op ae F h hs hF;obtain⟨h1,h2⟩:=Bool.and_eq_true_iff.1 h;obtain⟨j,hj,e⟩:=la.1 h1;rw[tm e];rw[tm e]at h2;exact hF j hj _ (uf mo h2 (hs.kns bM))
 |fail e=>intro s op ae F h;cases h
 |gA x tp t _ _=>intro s op ae F h;cases h
 |pop t _=>intro s op ae F h;cases h
end
end Go.Sx
namespace Go.Proofs.YtohebioanhliiaaGreatDoor.aN
section
open Go.Sx Go
abbrev Fk:=List (Nat×List (List Kn×List Kn))
variable {X:bY}
def Told(X:bY)(k:Nat)(ps:List (List Kn×List Kn)):Prop:=∀σ,PS σ->∀p∈ps,∀ds rs,dX σ p.1 ds->cX (TT PP) X k ds rs->dX σ p.2 rs
def Told.all(X:bY)(L:Fk):Prop:=∀e∈L,Told X e.1 e.2
def QQ(L:Fk)(k:Nat):List (List Kn×List Kn):=match L.find? (fun e=>Nat.beq e.1 k)with
 |some e=>e.2
 |none=>[]
theorem Nt{L:Fk}(h:Told.all X L)(k:Nat):Told X k (QQ L k):=by
 unfold QQ;split;rename_i e he;have h2:Nat.beq e.1 k=true:=List.find?_some (p:=fun e:Nat×List (List Kn×List Kn)=>Nat.beq e.1 k) he;have:=h e (xR he);rwa[tm h2]at this;intro σ _ p hp;cases hp
noncomputable def DU(L:Fk)(inv:Nat->List Kn)(k:Nat)(ps:List (List Kn×List Kn)):Bool:=match TT PP k with
 |some e=>ps.all fun p=>e.tree.fl ⟨fun g=>QQ L (e.key g),inv,p.2⟩ ⟨names 0 p.1,[]⟩ []
 |none=>false
theorem gp{L:Fk}{inv:Nat->List Kn}{k:Nat}{ps:List (List Kn×List Kn)}(h:DU L inv k ps=true)(hL:Told.all X L):Told X k ps:=by
 intro σ mo p hp ds rs ha hg;unfold DU at h;split at h;rename_i e he;have hc:=mE.1 h p hp;refine bF he ?_ hg;exact We mo (fun f q hq ds rs=>Nt hL (e.key f) σ mo q hq ds rs) hc ⟨fun q hq=>BG ha q hq,fun q hq=>by cases hq⟩ (fun id l7=>by cases l7);cases h
abbrev pd(n:Nat)(l:List Kn):List Kn:=l++List.replicate (n-l.length) .t
abbrev kI:Kn:=.x (.r (-9223372036854775808) 9223372036854775807)
abbrev nI:Nu:=.r (-9223372036854775808) 9223372036854775807
abbrev cF:List (Nat×Nu):=[(3,.s 0),(4,.s 1),(5,.s 2),(6,.s 3)]
abbrev kF:Kn:=.l cF
abbrev kW:List Kn:=[.t,.t,.t,.x (.s 0),.x (.s 1),.x (.s 2),.x (.s 3)]
abbrev nW:List Nu:=[.t,.t,.t,.s 0,.s 1,.s 2,.s 3]
abbrev nX:Nu:=.r (-68719476736) 68719476736
abbrev cV:List (Nat×Nu):=[(0,nX),(1,nX),(2,nX),(3,nX),(4,.s 0),(5,.s 1),(6,.s 2),(7,.s 3)]
abbrev nD:Nu:=.r (-4611686018427387903) 4611686018427387903
abbrev kC:Kn:=.l (cV++[(8,nD)])
abbrev cS:List (Nat×Nu):=[(1,.r (-32768) 32768),(2,.r (-32768) 32768),(3,.r (-32768) 32768),(4,.r (-32768) 32768)]
abbrev xX:Kn:=.x nX
abbrev kV:List Kn:=[xX,xX,xX,xX,.x (.s 0),.x (.s 1),.x (.s 2),.x (.s 3)]
def sJ:Nat->List Kn
 |104003=>[kF,.t]
 |104006=>[kF,.t]
 |112012=>[kF,.t,.t]
 |162003=>[.t,.t]
 |162008=>[.t,.t]
 |112017=>[kF,.t]
 |113012=>[.t,kF]
 |113018=>[.t,.t,.t,kF]
 |73005=>[kC,.t]
 |116002=>[kC,.t]
 |116008=>[kC,.t]
 |122003=>[kF,.t]
 |123004=>[kF,.t,.t,.t,.t]
 |124003=>[kF,.t]
 |_=>[]
abbrev adQ:List (List Kn×List Kn):=(List.range 4).map fun k=>([.x (.s k),.x (.s k),kI,kI],[.x (.s k)])
abbrev adR:List (List Kn×List Kn):=(List.range 4).map fun k=>([.x (.s k),.x (.s k),.k [nI],.k [nI]],[.x (.s k)])
abbrev adS:List (List Kn×List Kn):=[(kW++kW++[.k [nI],.k [nI]],[.t,.x (.s 0),.x (.s 1),.x (.s 2),.x (.s 3)])]
abbrev Wf:List (List Kn×List Kn):=[(pd 16 (kW++kW),[.t,.x (.s 0),.x (.s 1),.x (.s 2),.x (.s 3)])]
def f246:Fk:=[(246,adQ)]
def f245:Fk:=(245,adR)::f246
theorem ajp:DU f246 sJ 245 adR=true:=by kernel_rfl
def f205:Fk:=(205245,adS)::f245
theorem ajq:DU f245 sJ 205245 adS=true:=by kernel_rfl
theorem ajr:DU f205 sJ 163 Wf=true:=by kernel_rfl
theorem ajs:DU f205 sJ 172 Wf=true:=by kernel_rfl
def f172:Fk:=(163,Wf)::(172,Wf)::f205
abbrev adT:List (List Kn×List Kn):=[(pd 19 (kW++kW),[kF])]
abbrev adU:List (List Kn×List Kn):=[(pd 23 (kW++kW),pd 4 [kF])]
abbrev p72:List (List Kn×List Kn):=[(pd 36 (kW++kW),pd 4 [kF])]
theorem ajt:DU f172 sJ 112 adT=true:=by kernel_rfl
theorem aju:DU f172 sJ 113 adU=true:=by kernel_rfl
def f113:Fk:=(112,adT)::(113,adU)::f172
theorem b72:DU f113 sJ 72 p72=true:=by kernel_rfl
abbrev adV:List (List Kn×List Kn):=[(pd 4 [.t,.t,.k nW],pd 8 kW)]
abbrev adW:List (List Kn×List Kn):=[(pd 5 [.t,.t,.k nW,.k [.s 4]],pd 8 kW)]
theorem ajv:DU [] sJ 150 adV=true:=by kernel_rfl
theorem ajw:DU [] sJ 106 adW=true:=by kernel_rfl
def f106:Fk:=[(150,adV),(106,adW)]
abbrev Yn:List (List Kn×List Kn):=[(pd 6 [.t,.t,.t,.t,.k nW],[kF])]
abbrev Yo:List (List Kn×List Kn):=[(pd 7 [.t,.t,.t,.t,.k nW,.k [.s 4]],[kF])]
theorem adX:DU f106 sJ 104150 Yn=true:=by kernel_rfl
theorem adY:DU f106 sJ 104106 Yo=true:=by kernel_rfl
def f104:Fk:=(104150,Yn)::(104106,Yo)::f106
abbrev adZ:List (List Kn×List Kn):=[(pd 12 kW,[kF])]
theorem ajx:DU f104 sJ 103 adZ=true:=by kernel_rfl
def f103:Fk:=(103,adZ)::f104
abbrev p69:List (List Kn×List Kn):=[(pd 13 (kW++[.t,.x (.s 4)]),[kF])]
theorem b69:DU f103 sJ 69 p69=true:=by kernel_rfl
def f69:Fk:=(69,p69)::(72,p72)::[]
abbrev Wg:List (List Kn×List Kn):=[(pd 21 [kF,.t,.t,.t,.t,.t,.t,.t,.t,.x (.s 4)],[kF])]
theorem ajy:DU f69 sJ 124 Wg=true:=by kernel_rfl
abbrev Wh:List (List Kn×List Kn):=[(pd 21 [kF],[kF])]
theorem ajz:DU f69 sJ 123 Wh=true:=by kernel_rfl
abbrev aaJ:List (List Kn×List Kn):=[(pd 26 (kW++kW++kW),[kF])]
def f177:Fk:=[(177,aaJ)]
theorem ajA:DU f177 sJ 122 Wh=true:=by kernel_rfl
def f124:Fk:=[(122,Wh),(123,Wh),(124,Wg)]
theorem b74:DU f124 sJ 74 Wg=true:=by kernel_rfl
abbrev p67:List (List Kn×List Kn):=[([.x .t,.x (.r (-32768) 32768),.x (.r (-32768) 32768),.x (.r (-32768) 32768),.x (.r (-32768) 32768),xX,xX,xX,xX,.x (.s 0),.x (.s 1),.x (.s 2),.x (.s 3)],[.x nD])]
abbrev ad0:List (List Kn×List Kn):=[(pd 21 (kV++[.x (.r 0 4611686018427387903),.t]++kV++[.x (.r (-4611686018427387903) (-1))]),pd 10 (kV++[.x (.r 0 0)]))]
abbrev kL:Kn:=.l cV
abbrev ad1:List (List Kn×List Kn):=[([kL,.t],[kC])]
abbrev ad2:List (List Kn×List Kn):=[([kC],[kL,.t])]
def f73:Fk:=[(67,p67),(173,ad0),(115,ad1),(117,ad2)]
abbrev p73:List (List Kn×List Kn):=[([kL,.t,.l cS],[kL,.t,.t])]
theorem b73:DU f73 sJ 73 p73=true:=by kernel_rfl
end
section
open Go.Sx Go
variable{rs ds:List DV}{n x:Int}
def t215:aA:=
.ev (.aH (r6 (.sub (.v 7) (.v 0)))) (
.ev (.aH (r6 (.sub (.v 15) (.v 1)))) (
.ev (.aH (r6 (.mul (.sub (.v 7) (.v 0)) (.sub (.v 15) (.v 1))))) (
.ev (.aH (r6 (.sub (.v 8) (.v 1)))) (
.ev (.aH (r6 (.sub (.v 14) (.v 0)))) (
.ev (.aH (r6 (.mul (.sub (.v 8) (.v 1)) (.sub (.v 14) (.v 0))))) (
.ev (.aH (r6 (.sub (.mul (.sub (.v 7) (.v 0)) (.sub (.v 15) (.v 1))) (.mul (.sub (.v 8) (.v 1)) (.sub (.v 14) (.v 0)))))) (
.ret [.i (.sub (.mul (.sub (.v 7) (.v 0)) (.sub (.v 15) (.v 1))) (.mul (.sub (.v 8) (.v 1)) (.sub (.v 14) (.v 0))))])))))))
theorem ajB:TT PP 215=some ⟨215,t215,(rowOf 215).sub⟩:=by kernel_rfl
def t252:aA:=
.ev (.call 215 (.c true) (iv 0 21) [oI] 24) (
.ite (.lt (.v 24) (.c 0)) (
.ev (.call 269 (.c true) (iv 0 7++iv 14 7) [.agg [.c i6,.c i6,.c i6,.c i6,.c i6]] 1049) (
.ev (.call 269 (.c true) (iv 14 7++iv 7 7) [.agg [.c i6,.c i6,.c i6,.c i6,.c i6]] 2585) (
.ev (.call 269 (.c true) (iv 7 7++iv 0 7) [.agg [.c i6,.c i6,.c i6,.c i6,.c i6]] 4121) (
.ev (.b8 4633 (.lit [[.inl (.v 1049),.inl (.v 1050),.inl (.v 1051),.inl (.v 1052),.inl (.v 1053)],[.inl (.v 2585),.inl (.v 2586),.inl (.v 2587),.inl (.v 2588),.inl (.v 2589)],[.inl (.v 4121),.inl (.v 4122),.inl (.v 4123),.inl (.v 4124),.inl (.v 4125)]])) (
.ret [.l 4633]))))) (
.ite (.eq (.v 24) (.c 0)) (
.ret [.nil]) (
.ev (.call 269 (.c true) (iv 0 14) [.agg [.c i6,.c i6,.c i6,.c i6,.c i6]] 1049) (
.ev (.call 269 (.c true) (iv 7 14) [.agg [.c i6,.c i6,.c i6,.c i6,.c i6]] 2585) (
.ev (.call 269 (.c true) (iv 14 7++iv 0 7) [.agg [.c i6,.c i6,.c i6,.c i6,.c i6]] 4121) (
.ev (.b8 4633 (.lit [[.inl (.v 1049),.inl (.v 1050),.inl (.v 1051),.inl (.v 1052),.inl (.v 1053)],[.inl (.v 2585),.inl (.v 2586),.inl (.v 2587),.inl (.v 2588),.inl (.v 2589)],[.inl (.v 4121),.inl (.v 4122),.inl (.v 4123),.inl (.v 4124),.inl (.v 4125)]])) (
.ret [.l 4633])))))))
theorem ajC:TT PP 252=some ⟨252,t252,(rowOf 252).sub⟩:=by kernel_rfl
def t221:aA:=
.ev (.call 252 (.c true) (iv 0 21) [.one (.s 369 [i6,i6,i6,i6,i6])] 29) (
.ev (.call 65 (.not (.eq (.len 29) (.c 0))) (iv 21 4) [oB] 30) (
.ite (.or (.eq (.len 29) (.c 0)) (.not (.v 30))) (
.ret [.nil]) (
.ev (.aH (r6 (.sub (.ediv (.min (.min (.v 1) (.v 8)) (.v 15)) 256) (.c 1)))) (
.ev (.aH (r6 (.add (.ediv (.max (.max (.v 1) (.v 8)) (.v 15)) 256) (.c 2)))) (
.loop 221008 [.nil,.i (.max (.v 22) (.sub (.ediv (.min (.min (.v 1) (.v 8)) (.v 15)) 256) (.c 1)))] [.s 344 [i6,i6,i6],.c i6] 31 (
.ite (.lt (.v 32) (.min (.v 24) (.add (.ediv (.max (.max (.v 1) (.v 8)) (.v 15)) 256) (.c 2)))) (
.loop 221012 [.i (.v 21),.i (.v 23),.i (.c 0)] [.c i6,.c i6,.c i6] 33 (
.ite (.lt (.v 35) (.len 29)) (
.ev (.aH (.le (.c 0) (.v 35))) (
.ev (.call 253 (.c true) [.i (.get 29 (.v 35) 0),.i (.get 29 (.v 35) 1),.i (.get 29 (.v 35) 2),.i (.get 29 (.v 35) 3),.i (.get 29 (.v 35) 4),.i (.v 32),.i (.v 33),.i (.v 34)] [oI,oI] 37) (
.ev (.aH (r6 (.add (.v 35) (.c 1)))) (
.again 221012 [.i (.v 37),.i (.v 38),.i (.add (.v 35) (.c 1))])))) (
.ite (.lt (.v 33) (.v 34)) (
.ev (.b8 36 (.lit [[.inl (.v 32),.inl (.v 33),.inl (.v 34)]])) (
.ev (.aH (.le (.add (.len 31) (.len 36)) (.c 5864062014805))) (
.ev (.b8 37 (.app 31 36)) (
.ev (.aH (r6 (.add (.v 32) (.c 1)))) (
.again 221008 [.l 37,.i (.add (.v 32) (.c 1))]))))) (
.ev (.aH (r6 (.add (.v 32) (.c 1)))) (
.again 221008 [.l 31,.i (.add (.v 32) (.c 1))]))))) (
.ret [.l 31])))))))
theorem ajD:TT PP 221=some ⟨221,t221,(rowOf 221).sub⟩:=by kernel_rfl
def t272:aA:=
.ev (.aH (r6 (.mul (.v 22) (.c 256)))) (
.ev (.aH (r6 (.add (.mul (.v 22) (.c 256)) (.c 128)))) (
.ev (.aH (r6 (.mul (.v 23) (.c 256)))) (
.ev (.aH (r6 (.add (.mul (.v 23) (.c 256)) (.c 128)))) (
.ev (.call 215 (.c true) [.i (.add (.mul (.v 22) (.c 256)) (.c 128)),.i (.add (.mul (.v 23) (.c 256)) (.c 128)),.i (.c 0),.i (.c 0),.i (.c 0),.i (.c 0),.i (.c 0),.i (.v 7),.i (.v 8),.i (.v 9),.i (.v 10),.i (.v 11),.i (.v 12),.i (.v 13),.i (.v 14),.i (.v 15),.i (.v 16),.i (.v 17),.i (.v 18),.i (.v 19),.i (.v 20)] [oI] 3611) (
.ev (.call 215 (.c true) [.i (.v 0),.i (.v 1),.i (.v 2),.i (.v 3),.i (.v 4),.i (.v 5),.i (.v 6),.i (.add (.mul (.v 22) (.c 256)) (.c 128)),.i (.add (.mul (.v 23) (.c 256)) (.c 128)),.i (.c 0),.i (.c 0),.i (.c 0),.i (.c 0),.i (.c 0),.i (.v 14),.i (.v 15),.i (.v 16),.i (.v 17),.i (.v 18),.i (.v 19),.i (.v 20)] [oI] 7707) (
.ev (.call 215 (.c true) [.i (.v 0),.i (.v 1),.i (.v 2),.i (.v 3),.i (.v 4),.i (.v 5),.i (.v 6),.i (.v 7),.i (.v 8),.i (.v 9),.i (.v 10),.i (.v 11),.i (.v 12),.i (.v 13),.i (.add (.mul (.v 22) (.c 256)) (.c 128)),.i (.add (.mul (.v 23) (.c 256)) (.c 128)),.i (.c 0),.i (.c 0),.i (.c 0),.i (.c 0),.i (.c 0)] [oI] 11803) (
.ret [.i (.v 3611),.i (.v 7707),.i (.v 11803)])))))))
theorem ajE:TT PP 272=some ⟨272,t272,(rowOf 272).sub⟩:=by kernel_rfl
def t273:aA:=
.ev (.call 156 (.c true) [.i (.v 0),.i (.v 3)] [.agg [.c i6,.c (.i .u64)]] 2057) (
.ev (.call 156 (.c true) [.i (.v 1),.i (.v 4)] [.agg [.c i6,.c (.i .u64)]] 4617) (
.ev (.call 220 (.c true) [.i (.v 2057),.i (.v 2058),.i (.v 4617),.i (.v 4618)] [.agg [.c i6,.c (.i .u64)]] 5129) (
.ev (.call 156 (.c true) [.i (.v 2),.i (.v 5)] [.agg [.c i6,.c (.i .u64)]] 7689) (
.ev (.call 220 (.c true) [.i (.v 5129),.i (.v 5130),.i (.v 7689),.i (.v 7690)] [.agg [.c i6,.c (.i .u64)]] 8201) (
.ret [.i (.v 8201),.i (.v 8202)])))))
theorem ajF:TT PP 273=some ⟨273,t273,(rowOf 273).sub⟩:=by kernel_rfl
def t220:aA:=
.ev (.call 214 (.c true) (iv 0 4) [.agg [.c i6,.c (.i .u64)],oB] 7) (
.ret [.i (.v 7),.i (.v 8)])
theorem ajG:TT PP 220=some ⟨220,t220,(rowOf 220).sub⟩:=by kernel_rfl
def t254:aA:=
.ev (.call 272 (.c true) [.i (.v 0),.i (.v 1),.i (.v 2),.i (.v 3),.i (.v 4),.i (.v 5),.i (.v 6),.i (.v 7),.i (.v 8),.i (.v 9),.i (.v 10),.i (.v 11),.i (.v 12),.i (.v 13),.i (.v 14),.i (.v 15),.i (.v 16),.i (.v 17),.i (.v 18),.i (.v 19),.i (.v 20),.i (.v 21),.i (.c 0),.i (.c 0)] [.agg [.c i6,.c i6,.c i6]] 28) (
.ev (.aH (r6 (.sub (.v 8) (.v 15)))) (
.ev (.aH (r6 (.mul (.sub (.v 8) (.v 15)) (.c 256)))) (
.ev (.aH (r6 (.sub (.v 14) (.v 7)))) (
.ev (.aH (r6 (.mul (.sub (.v 14) (.v 7)) (.c 256)))) (
.ev (.aH (r6 (.sub (.v 15) (.v 1)))) (
.ev (.aH (r6 (.mul (.sub (.v 15) (.v 1)) (.c 256)))) (
.ev (.aH (r6 (.sub (.v 0) (.v 14)))) (
.ev (.aH (r6 (.mul (.sub (.v 0) (.v 14)) (.c 256)))) (
.ev (.aH (r6 (.sub (.v 1) (.v 8)))) (
.ev (.aH (r6 (.mul (.sub (.v 1) (.v 8)) (.c 256)))) (
.ev (.aH (r6 (.sub (.v 7) (.v 0)))) (
.ev (.aH (r6 (.mul (.sub (.v 7) (.v 0)) (.c 256)))) (
.ev (.call 273 (.c true) [.i (.v 28),.i (.v 29),.i (.v 30),.i (.v 22),.i (.v 23),.i (.v 24)] [.agg [.c i6,.c (.i .u64)]] 21029) (
.ev (.call 273 (.c true) [.i (.mul (.sub (.v 8) (.v 15)) (.c 256)),.i (.mul (.sub (.v 15) (.v 1)) (.c 256)),.i (.mul (.sub (.v 1) (.v 8)) (.c 256)),.i (.v 22),.i (.v 23),.i (.v 24)] [.agg [.c i6,.c (.i .u64)]] 22565) (
.ev (.call 273 (.c true) [.i (.mul (.sub (.v 14) (.v 7)) (.c 256)),.i (.mul (.sub (.v 0) (.v 14)) (.c 256)),.i (.mul (.sub (.v 7) (.v 0)) (.c 256)),.i (.v 22),.i (.v 23),.i (.v 24)] [.agg [.c i6,.c (.i .u64)]] 24101) (
.ret [.i (.v 21029),.i (.v 21030),.i (.v 22565),.i (.v 22566),.i (.v 24101),.i (.v 24102),.i (.v 21)]))))))))))))))))
theorem ajH:TT PP 254=some ⟨254,t254,(rowOf 254).sub⟩:=by kernel_rfl
def t223:aA:=
.ev (.call 254 (.c true) (iv 0 22++[.i (.v 2),.i (.v 9),.i (.v 16)]) [.agg [.c i6,.c (.i .u64),.c i6,.c (.i .u64),.c i6,.c (.i .u64),.c i6]] 25) (
.ev (.call 254 (.c true) (iv 0 22++[.i (.v 3),.i (.v 10),.i (.v 17)]) [.agg [.c i6,.c (.i .u64),.c i6,.c (.i .u64),.c i6,.c (.i .u64),.c i6]] 11296) (
.ev (.call 254 (.c true) (iv 0 22++[.i (.v 4),.i (.v 11),.i (.v 18)]) [.agg [.c i6,.c (.i .u64),.c i6,.c (.i .u64),.c i6,.c (.i .u64),.c i6]] 22567) (
.ev (.call 254 (.c true) (iv 0 22++[.i (.v 5),.i (.v 12),.i (.v 19)]) [.agg [.c i6,.c (.i .u64),.c i6,.c (.i .u64),.c i6,.c (.i .u64),.c i6]] 33838) (
.ev (.call 254 (.c true) (iv 0 22++[.i (.v 6),.i (.v 13),.i (.v 20)]) [.agg [.c i6,.c (.i .u64),.c i6,.c (.i .u64),.c i6,.c (.i .u64),.c i6]] 45109) (
.ret (iv 25 7++iv 11296 7++iv 22567 7++iv 33838 7++iv 45109 7))))))
theorem ajI:TT PP 223=some ⟨223,t223,(rowOf 223).sub⟩:=by kernel_rfl
def t222:aA:=
.ev (.call 215 (.c true) (iv 0 21) [oI] 25) (
.ite (.lt (.v 25) (.c 0)) (
.ev (.aH (r6 (.sub (.c 0) (.v 25)))) (
.ret [.i (.v 0),.i (.v 1),.i (.v 2),.i (.v 3),.i (.v 4),.i (.v 5),.i (.v 6),.i (.v 14),.i (.v 15),.i (.v 16),.i (.v 17),.i (.v 18),.i (.v 19),.i (.v 20),.i (.v 7),.i (.v 8),.i (.v 9),.i (.v 10),.i (.v 11),.i (.v 12),.i (.v 13),.i (.sub (.c 0) (.v 25))])) (
.ret (iv 0 21++[.i (.v 25)])))
theorem ajJ:TT PP 222=some ⟨222,t222,(rowOf 222).sub⟩:=by kernel_rfl
def t224:aA:=
.ev (.call 200 (.c true) [.i (.v 2),.i (.v 3),.i (.v 7)] [.agg [.c i6,.c (.i .u64)],oB] 11) (
.ev (.call 200 (.c true) [.i (.v 4),.i (.v 5),.i (.v 8)] [.agg [.c i6,.c (.i .u64)],oB] 15) (
.ev (.call 220 (.c true) [.i (.v 11),.i (.v 12),.i (.v 15),.i (.v 16)] [.agg [.c i6,.c (.i .u64)]] 2067) (
.ev (.call 220 (.c true) [.i (.v 0),.i (.v 1),.i (.v 2067),.i (.v 2068)] [.agg [.c i6,.c (.i .u64)]] 2579) (
.ret [.i (.v 2579),.i (.v 2580)]))))
theorem ajK:TT PP 224=some ⟨224,t224,(rowOf 224).sub⟩:=by kernel_rfl
def t225:aA:=
.ev (.call 198 (.c true) [.i (.v 7),.i (.v 8),.i (.v 6)] [.agg [.c i6,.c (.i .u64)],oI,oB] 11) (
.ev (.call 199 (.c true) [.i (.v 11),.i (.v 12)] [oI,oB] 16) (
.ret [.i (.v 16)]))
theorem ajL:TT PP 225=some ⟨225,t225,(rowOf 225).sub⟩:=by kernel_rfl
theorem aaK:([215,252,221,272,273,220,254,223,222,224,225,200,177].all fun k=>gP (rowOf k).sub)=true:=by kernel_rfl
theorem bW{k:Nat}(h:k∈[215,252,221,272,273,220,254,223,222,224,225,200,177]):gP (rowOf k).sub=true:=mE.1 aaK k h
def Ar(ax ay bx Ub cx cy:Int):Int:=(bx-ax)*(cy-ay)-(Ub-ay)*(cx-ax)
theorem aaL(ax ay bx Ub cx cy px py:Int):Ar px py bx Ub cx cy+Ar ax ay px py cx cy+Ar ax ay bx Ub px py=Ar ax ay bx Ub cx cy:=by unfold Ar;grind
theorem Wi(ax ay bx Ub cx cy:Int):Ar ax ay cx cy bx Ub = -Ar ax ay bx Ub cx cy:=by unfold Ar;grind
theorem zy{e:IE}{ae:aF}(h:(r6 e).af ae=true):gF (e.af ae):=by
 obtain⟨h1,h2⟩:=Bool.and_eq_true_iff.1 (show(decide ((-9223372036854775808:Int)<=e.af ae)&&decide (e.af ae<=9223372036854775807))=true from h);exact⟨jY h1,jY h2⟩
abbrev nm(ds:List DV)(k:Nat):Int:=(a8.au 0 ds k).int
abbrev ar(ds:List DV):Int:=Ar (nm ds 0) (nm ds 1) (nm ds 7) (nm ds 8) (nm ds 14) (nm ds 15)
theorem BH(hg:Gf 215 ds rs):rs=[.i (ar ds)]/\gF (ar ds):=by
 refine bF (R:=fun rs=>rs=[DV.i (ar ds)]/\gF (ar ds)) ajB ?_ hg;exact bA fun _=>bA fun _=>bA fun _=>bA fun _=>bA fun _=>bA fun _=>bA fun h=>cj ⟨rfl,zy h⟩
theorem BI{a b:Int}(ha:pU a)(hb:pU b)(OH:pU (a+b))(hg:Gf 220 [.i (dp a),.i (eA a),.i (dp b),.i (eA b)] rs):rs=[.i (dp (a+b)),.i (eA (a+b))]:=by
 refine bF (R:=fun rs=>rs=[DV.i (dp (a+b)),.i (eA (a+b))]) ajG ?_ hg;refine aY fun r1 g1=>?_;have g1:Gf 214 [.i (dp a),.i (eA a),.i (dp b),.i (eA b)] r1:=aM aX (bW (by simp)) g1;obtain rfl:=ad3 ha hb OH g1;exact cj rfl
theorem QR(hA:ar ds=0)(hg:Gf 252 ds rs):rs=[.l []]:=by
 refine bF (R:=fun rs=>rs=[DV.l []]) ajC ?_ hg;refine aY fun r1 g1=>?_;have g1:=aM aX (bW (by simp)) g1;obtain⟨e1,_⟩:=BH g1;have e1:r1=[.i (ar ds)]:=e1;rw[hA]at e1;subst e1;refine eT (fun hc=>?_) (fun _=>eT (fun _=>cj rfl) (fun hc=>?_));have hc:(0:Int)<0:=jY hc;omega;have hc:¬ ((0:Int)=0):=Dc hc;exact absurd rfl hc
theorem QS(hA:ar ds=0)(hg:Gf 221 ds rs):rs=[.l []]:=by
 refine bF (R:=fun rs=>rs=[DV.l []]) ajD ?_ hg;refine aY fun r1 g1=>?_;have g1:=aM aX (bW (by simp)) g1;have hA':ar ((iv 0 21).map (DE.af (a8.au 0 ds)))=0:=hA;obtain rfl:=QR hA' g1;have v8:∀e:aF,e 29 = .l []->(BE.or (.eq (.len 29) (.c 0)) (.not (.v 30))).af e=true:=fun e h=>by
   show(decide (((e 29).list.length:Int)=0)||_)=true;rw[h];rfl
 refine sa (fun hb r2 g2=>?_) (fun _=>HF (v8 _ rfl) (cj rfl));refine HF (v8 _ ?_) (cj rfl);rw[aF.aT (by omega)];rfl
theorem FK{a b c p:Int}(ha:gF a)(hb:gF b)(hc:gF c)(hp:0<=p/\p<=255)(hg:Gf 273 [.i a,.i b,.i c,.i p,.i p,.i p] rs):rs=[.i (dp ((a+b+c)*p)),.i (eA ((a+b+c)*p))]:=by
 refine bF (R:=fun rs=>rs=[DV.i (dp ((a+b+c)*p)),.i (eA ((a+b+c)*p))]) ajF ?_ hg;have pI:gF p:=by constructor<;>omega
 have bd:∀ {x:Int},gF x->-2351959869397967831040<=x*p/\x*p<=2351959869397967831040:=fun {x} hx=>by
   have h1:=qk hx.1 hp.1;have h2:=qk hx.2 hp.1;constructor<;>omega
 have b1:=bd ha;have b2:=bd hb;have b3:=bd hc
 refine aY fun r1 g1=>?_;have g1:Gf 156 [.i a,.i p] r1:=aM aX (bW (by simp)) g1;obtain rfl:=HG ha pI g1;refine aY fun r2 g2=>?_;have g2:Gf 156 [.i b,.i p] r2:=aM aX (bW (by simp)) g2;obtain rfl:=HG hb pI g2;refine aY fun r3 g3=>?_;have g3:Gf 220 [.i (dp (a*p)),.i (eA (a*p)),.i (dp (b*p)),.i (eA (b*p))] r3:=aM aX (bW (by simp)) g3;obtain rfl:=BI (by constructor<;>omega) (by constructor<;>omega) (by constructor<;>omega) g3;refine aY fun r4 g4=>?_;have g4:Gf 156 [.i c,.i p] r4:=aM aX (bW (by simp)) g4;obtain rfl:=HG hc pI g4;refine aY fun r5 g5=>?_;have g5:Gf 220 [.i (dp (a*p+b*p)),.i (eA (a*p+b*p)),.i (dp (c*p)),.i (eA (c*p))] r5:=aM aX (bW (by simp)) g5;obtain rfl:=BI (by constructor<;>omega) (by constructor<;>omega) (by constructor<;>omega) g5;refine cj ?_;rw[Int.add_mul,Int.add_mul];rfl
theorem Nv(h22:nm ds 22=0)(QT:nm ds 23=0)(hg:Gf 272 ds rs):∃a b c,rs=[.i a,.i b,.i c]/\gF a/\gF b/\gF c/\a+b+c=ar ds:=by
 refine bF (R:=fun rs=>∃a b c,rs=[DV.i a,.i b,.i c]/\gF a/\gF b/\gF c/\a+b+c=ar ds) ajE ?_ hg;refine bA fun _=>bA fun _=>bA fun _=>bA fun _=>?_;refine aY fun r1 g1=>?_;have g1:=aM aX (bW (by simp)) g1;obtain⟨e1,i1⟩:=BH g1;have e1:r1=[.i (Ar (nm ds 22*256+128) (nm ds 23*256+128) (nm ds 7) (nm ds 8) (nm ds 14) (nm ds 15))]:=e1;have i1:gF (Ar (nm ds 22*256+128) (nm ds 23*256+128) (nm ds 7) (nm ds 8) (nm ds 14) (nm ds 15)):=i1;subst e1;refine aY fun r2 g2=>?_;have g2:=aM aX (bW (by simp)) g2;obtain⟨e2,i2⟩:=BH g2;have e2:r2=[.i (Ar (nm ds 0) (nm ds 1) (nm ds 22*256+128) (nm ds 23*256+128) (nm ds 14) (nm ds 15))]:=e2;have i2:gF (Ar (nm ds 0) (nm ds 1) (nm ds 22*256+128) (nm ds 23*256+128) (nm ds 14) (nm ds 15)):=i2;subst e2;refine aY fun r3 g3=>?_;have g3:=aM aX (bW (by simp)) g3;obtain⟨e3,i3⟩:=BH g3;have e3:r3=[.i (Ar (nm ds 0) (nm ds 1) (nm ds 7) (nm ds 8) (nm ds 22*256+128) (nm ds 23*256+128))]:=e3;have i3:gF (Ar (nm ds 0) (nm ds 1) (nm ds 7) (nm ds 8) (nm ds 22*256+128) (nm ds 23*256+128)):=i3;subst e3;exact cj ⟨_,_,_,rfl,i1,i2,i3,aaL ..⟩
theorem Af{p:Int}(hp:0<=p/\p<=255)(h22:nm ds 22=p)(QT:nm ds 23=p)(N8:nm ds 24=p)(hg:Gf 254 ds rs):rs=[.i (dp (ar ds*p)),.i (eA (ar ds*p)),.i 0,.i 0,.i 0,.i 0,.i (nm ds 21)]:=by
 refine bF (R:=fun rs=>rs=[DV.i (dp (ar ds*p)),.i (eA (ar ds*p)),.i 0,.i 0,.i 0,.i 0,.i (nm ds 21)]) ajH ?_ hg;refine aY fun r1 g1=>?_;have g1:=aM aX (bW (by simp)) g1;obtain⟨a,b,c,rfl,ia,ib,ic,hs⟩:=Nv rfl rfl g1;have hs:a+b+c=ar ds:=hs;refine bA fun _=>bA fun i1=>bA fun _=>bA fun i2=>bA fun _=>bA fun i3=>bA fun _=>bA fun i4=>bA fun _=>bA fun i5=>bA fun _=>bA fun i6'=>?_;have i1:gF ((nm ds 8-nm ds 15)*256):=zy i1;have i2:gF ((nm ds 14-nm ds 7)*256):=zy i2;have i3:gF ((nm ds 15-nm ds 1)*256):=zy i3;have i4:gF ((nm ds 0-nm ds 14)*256):=zy i4;have i5:gF ((nm ds 1-nm ds 8)*256):=zy i5;have i6':gF ((nm ds 7-nm ds 0)*256):=zy i6';refine aY fun r2 g2=>?_;have g2:Gf 273 [.i a,.i b,.i c,.i (nm ds 22),.i (nm ds 23),.i (nm ds 24)] r2:=aM aX (bW (by simp)) g2;rw[h22,QT,N8]at g2;obtain rfl:=FK ia ib ic hp g2;refine aY fun r3 g3=>?_;have g3:Gf 273 [.i ((nm ds 8-nm ds 15)*256),.i ((nm ds 15-nm ds 1)*256),.i ((nm ds 1-nm ds 8)*256),.i (nm ds 22),.i (nm ds 23),.i (nm ds 24)] r3:=aM aX (bW (by simp)) g3;rw[h22,QT,N8]at g3;have e3:=FK i1 i3 i5 hp g3;rw[show(nm ds 8-nm ds 15)*256+(nm ds 15-nm ds 1)*256+(nm ds 1-nm ds 8)*256=0 by omega,Int.zero_mul]at e3;subst e3;refine aY fun r4 g4=>?_;have g4:Gf 273 [.i ((nm ds 14-nm ds 7)*256),.i ((nm ds 0-nm ds 14)*256),.i ((nm ds 7-nm ds 0)*256),.i (nm ds 22),.i (nm ds 23),.i (nm ds 24)] r4:=aM aX (bW (by simp)) g4;rw[h22,QT,N8]at g4;have e4:=FK i2 i4 i6' hp g4;rw[show(nm ds 14-nm ds 7)*256+(nm ds 0-nm ds 14)*256+(nm ds 7-nm ds 0)*256=0 by omega,Int.zero_mul]at e4;subst e4;refine cj ?_;rw[<- hs];rfl
theorem HH(hg:Gf 200 [.i 0,.i 0,.i x] rs):rs=[.i 0,.i 0,.b true]:=by
 refine bF (R:=fun rs=>rs=[DV.i 0,.i 0,.b true]) ajM ?_ hg;refine vb rfl ?_;refine aY fun r1 g1=>?_;have g1:Gf 196 [.i x] r1:=aM aX (bW (by simp)) g1;obtain⟨m,rfl,hm⟩:∃m,r1=[DV.i m]/\(0<=m/\m<18446744073709551616):=by
   refine bF (R:=fun rs=>∃m,rs=[DV.i m]/\(0<=m/\m<18446744073709551616)) ad4 ?_ g1;have wr:∀z:Int,0<=IntKind.u64.wrap z/\IntKind.u64.wrap z<18446744073709551616:=fun z=>by rw[mP];omega
   exact eT (fun _=>cj ⟨_,rfl,wr _⟩) (fun _=>cj ⟨_,rfl,wr _⟩)
 refine aY fun r2 g2=>?_;have g2:Gf 139 [.i 0,.i m] r2:=aM aX (bW (by simp)) g2;have e2:=FL (by omega) hm g2;rw[Int.zero_mul]at e2;have e2:r2=[.i 0,.i 0]:=e2;subst e2;refine aY fun r3 g3=>?_;have g3:Gf 139 [.i 0,.i m] r3:=aM aX (bW (by simp)) g3;have e3:=FL (by omega) hm g3;rw[Int.zero_mul]at e3;have e3:r3=[.i 0,.i 0]:=e3;subst e3;refine aY fun r4 g4=>?_;have g4:Gf 243 [.i 0,.i 0,.i 0] r4:=aM aX (bW (by simp)) g4;have e4:r4=[.i 0,.i 0]:=QU g4;subst e4;refine vb rfl ?_;refine aY fun r5 g5=>?_;have g5:=aM aX (bW (by simp)) g5;have g5:Gf 197 [.i (dp 0),.i (eA 0),.b (!(decide ((0:Int)<0)==decide (x<0)))] r5:=g5;have e5:=HI (by omega) (by omega) g5;have e5:r5=[.i 0,.i 0,.b true]:=by rw[e5];cases(!(decide ((0:Int)<0)==decide (x<0)))<;>rfl
 subst e5;exact vb rfl (cj rfl)
theorem ad5{V:Int}(hV:pU V){y:Int}(hg:Gf 224 [.i (dp V),.i (eA V),.i 0,.i 0,.i 0,.i 0,.i n,.i x,.i y] rs):rs=[.i (dp V),.i (eA V)]:=by
 refine bF (R:=fun rs=>rs=[DV.i (dp V),.i (eA V)]) ajK ?_ hg;refine aY fun r1 g1=>?_;have g1:Gf 200 [.i 0,.i 0,.i x] r1:=aM aX (bW (by simp)) g1;obtain rfl:=HH g1;refine aY fun r2 g2=>?_;have g2:Gf 200 [.i 0,.i 0,.i y] r2:=aM aX (bW (by simp)) g2;obtain rfl:=HH g2;refine aY fun r3 g3=>?_;have g3:=aM aX (bW (by simp)) g3;have g3:Gf 220 [.i (dp 0),.i (eA 0),.i (dp 0),.i (eA 0)] r3:=g3;obtain rfl:=BI (by constructor<;>omega) (by constructor<;>omega) (by constructor<;>omega) g3;refine aY fun r4 g4=>?_;have g4:=aM aX (bW (by simp)) g4;have g4:Gf 220 [.i (dp V),.i (eA V),.i (dp 0),.i (eA 0)] r4:=g4;have e4:=BI hV (by constructor<;>omega) (by rw[Int.add_zero];exact hV) g4;rw[Int.add_zero]at e4;subst e4;exact cj rfl
theorem Wj{p:Int}(hn:1<=n)(pG:n<=9223372036854775807)(hp:0<=p/\p<=255){a0 a1 a2 a3 a4 a5:DV}(hg:Gf 225 [a0,a1,a2,a3,a4,a5,.i n,.i (dp (n*p)),.i (eA (n*p))] rs):rs=[.i p]:=by
 refine bF (R:=fun rs=>rs=[DV.i p]) ajL ?_ hg;have h1:=qk pG hp.1;have h2:=qJ (show 0<=n by omega) hp.1;refine aY fun r1 g1=>?_;have g1:Gf 198 [.i (dp (n*p)),.i (eA (n*p)),.i n] r1:=aM aX (bW (by simp)) g1;obtain rfl:=QV (by constructor<;>omega) hn pG g1;rw[Int.mul_ediv_cancel_left _ (by omega)];refine aY fun r2 g2=>?_;have g2:Gf 199 [.i (dp p),.i (eA p)] r2:=aM aX (bW (by simp)) g2;obtain rfl:=FM (by constructor<;>omega) g2;exact cj rfl
theorem aaM(hg:Gf 222 ds rs):rs.length=22/\nm rs 21=ar rs/\0<=ar rs/\ar rs<=9223372036854775807/\(ar rs=0->ar ds=0)/\∀k,3<=k->k<=6->∀p,nm ds k=p->nm ds (7+k)=p->nm ds (14+k)=p->nm rs k=p/\nm rs (7+k)=p/\nm rs (14+k)=p:=by
 refine bF (R:=fun rs=>rs.length=22/\nm rs 21=ar rs/\0<=ar rs/\ar rs<=9223372036854775807/\(ar rs=0->ar ds=0)/\∀k,3<=k->k<=6->∀p,nm ds k=p->nm ds (7+k)=p->nm ds (14+k)=p->nm rs k=p/\nm rs (7+k)=p/\nm rs (14+k)=p) ajJ ?_ hg;refine aY fun r1 g1=>?_;have g1:=aM aX (bW (by simp)) g1;obtain⟨e1,i1⟩:=BH g1;have e1:r1=[.i (ar ds)]:=e1;have i1:gF (ar ds):=i1;subst e1;have col:∀k,3<=k->k<=6->k=3\/k=4\/k=5\/k=6:=fun k h1 h2=>by omega
 refine eT (fun hc=>?_) (fun hc=>?_)
 . have hc:ar ds<0:=jY hc;refine bA fun h=>?_;have h:gF (0-ar ds):=zy h;have et:=Wi (nm ds 0) (nm ds 1) (nm ds 7) (nm ds 8) (nm ds 14) (nm ds 15);have et:Ar (nm ds 0) (nm ds 1) (nm ds 14) (nm ds 15) (nm ds 7) (nm ds 8) = -ar ds:=et;refine cj ⟨rfl,?_,?_,?_,?_,?_⟩;show 0-ar ds=Ar (nm ds 0) (nm ds 1) (nm ds 14) (nm ds 15) (nm ds 7) (nm ds 8);omega;show 0<=Ar (nm ds 0) (nm ds 1) (nm ds 14) (nm ds 15) (nm ds 7) (nm ds 8);omega;show Ar (nm ds 0) (nm ds 1) (nm ds 14) (nm ds 15) (nm ds 7) (nm ds 8)<=_;omega;intro h0;have h0:Ar (nm ds 0) (nm ds 1) (nm ds 14) (nm ds 15) (nm ds 7) (nm ds 8)=0:=h0;omega
   . intro k h1 h2 p q0 q1 q2;rcases col k h1 h2 with rfl|rfl|rfl|rfl
     all_goals exact⟨q0,q2,q1⟩
 . have hc:¬ ar ds<0:=Dc hc;refine cj ⟨rfl,rfl,?_,i1.2,fun h=>h,?_⟩;show 0<=ar ds;omega
   . intro k h1 h2 p q0 q1 q2;rcases col k h1 h2 with rfl|rfl|rfl|rfl
     all_goals exact⟨q0,q1,q2⟩
theorem Wk:lD 254=some ⟨(lD 254).get!.args,(lD 254).get!.res,0⟩:=by kernel_rfl
theorem kd7(hg:∃ds,Gf 254 ds rs):∃b0 b1 b2 b3 b4 b5 b6,rs=[DV.i b0,.i b1,.i b2,.i b3,.i b4,.i b5,.i b6]:=by
 obtain⟨ds,hg⟩:=hg;have:=aX.kd 254 _ ds rs Wk hg;rw[show bP (bX.res ⟨(lD 254).get!.args,(lD 254).get!.res,0⟩)=[.c i6,.c (.i .u64),.c i6,.c (.i .u64),.c i6,.c (.i .u64),.c i6]from by kernel_rfl]at this;obtain⟨b0,r0,rfl,k0⟩:=ez this;obtain⟨b1,r1,rfl,k1⟩:=ez k0;obtain⟨b2,r2,rfl,k2⟩:=ez k1;obtain⟨b3,r3,rfl,k3⟩:=ez k2;obtain⟨b4,r4,rfl,k4⟩:=ez k3;obtain⟨b5,r5,rfl,k5⟩:=ez k4;obtain⟨b6,r6,rfl,k6⟩:=ez k5;obtain rfl:=jR k6;exact⟨b0,b1,b2,b3,b4,b5,b6,rfl⟩
abbrev pl(A p n:Int):List DV:=[.i (dp (A*p)),.i (eA (A*p)),.i 0,.i 0,.i 0,.i 0,.i n]
theorem QW{p:Nat->Int}(hp:∀k,k<4->0<=p k/\p k<=255)(h:∀k,k<4->nm ds (3+k)=p k/\nm ds (10+k)=p k/\nm ds (17+k)=p k)(hg:Gf 223 ds rs) :
   ∃b0 b1 b2 b3 b4 b5 b6,rs=[DV.i b0,.i b1,.i b2,.i b3,.i b4,.i b5,.i b6]++(pl (ar ds) (p 0) (nm ds 21)++(pl (ar ds) (p 1) (nm ds 21)++(pl (ar ds) (p 2) (nm ds 21)++pl (ar ds) (p 3) (nm ds 21)))):=by
 refine bF (R:=fun rs=>∃b0 b1 b2 b3 b4 b5 b6,rs=[DV.i b0,.i b1,.i b2,.i b3,.i b4,.i b5,.i b6]++(pl (ar ds) (p 0) (nm ds 21)++(pl (ar ds) (p 1) (nm ds 21)++(pl (ar ds) (p 2) (nm ds 21)++pl (ar ds) (p 3) (nm ds 21))))) ajI ?_ hg;have h0:=h 0 (by omega);have h1:=h 1 (by omega);have h2:=h 2 (by omega);have h3:=h 3 (by omega)
 refine aY fun r1 g1=>?_;have g1:=aM aX (bW (by simp)) g1;obtain⟨b0,b1,b2,b3,b4,b5,b6,rfl⟩:=kd7 ⟨_,g1⟩;refine aY fun r2 g2=>?_;have g2:=aM aX (bW (by simp)) g2;have e2:=Af (hp 0 (by omega)) h0.1 h0.2.1 h0.2.2 g2;have e2:r2=pl (ar ds) (p 0) (nm ds 21):=e2;subst e2;refine aY fun r3 g3=>?_;have g3:=aM aX (bW (by simp)) g3;have e3:=Af (hp 1 (by omega)) h1.1 h1.2.1 h1.2.2 g3;have e3:r3=pl (ar ds) (p 1) (nm ds 21):=e3;subst e3;refine aY fun r4 g4=>?_;have g4:=aM aX (bW (by simp)) g4;have e4:=Af (hp 2 (by omega)) h2.1 h2.2.1 h2.2.2 g4;have e4:r4=pl (ar ds) (p 2) (nm ds 21):=e4;subst e4;refine aY fun r5 g5=>?_;have g5:=aM aX (bW (by simp)) g5;have e5:=Af (hp 3 (by omega)) h3.1 h3.2.1 h3.2.2 g5;have e5:r5=pl (ar ds) (p 3) (nm ds 21):=e5;subst e5;exact cj ⟨b0,b1,b2,b3,b4,b5,b6,rfl⟩
end
end Go.Proofs.YtohebioanhliiaaGreatDoor.aN

/- Numbers that are handed on as they came in; triangles exactly. -/
import Derived.Test.YtohebioanhliiaaGreatDoorGL1
set_option linter.unusedVariables false
set_option linter.unusedSimpArgs false
set_option maxRecDepth 100000
namespace Go.Sx
section
inductive Nu where
 |t
 |s (k:Nat)
 |r (lo hi:Int)
inductive Kn where
 |t
 |x (v:Nu)
 |l (cs:List (Nat×Nu))
 |k (vs:List Nu)
 |n
def Nu.has(σ:Nat->Int):Nu->Int->Prop
 |.t,_=>True
 |.s k,n=>n=σ k
 |.r lo hi,n=>lo<=n/\n<=hi
def gA(σ:Nat->Int)(cs:List (Nat×Nu))(r:List Int):Prop:=∀c∈cs,c.2.has σ (r.getD c.1 0)
def Kn.has(σ:Nat->Int):Kn->DV->Prop
 |.t,_=>True
 |.x v,d=>∃n,d = .i n/\v.has σ n
 |.l cs,d=>∀r∈d.list,gA σ cs r
 |.k vs,d=>∀(j:Nat) (v:Nu),vs[j]?=some v->v.has σ (cellAt d.list (j:Int) 0)
 |.n,d=>d.list=[]
def yb(σ:Nat->Int):List Kn->List DV->Prop
 | [],[]=>True
 |a::az,d::ds=>a.has σ d/\yb σ az ds
 |_,_=>False
def PS(σ:Nat->Int):Prop:=(∀k,k<4->0<=σ k/\σ k<=255)/\σ 4≠2
def Nu.le:Nu->Nu->Bool
 |_,.t=>true
 |.s k,.s j=>Nat.beq k j
 |.r a b,.r c d=>decide (c<=a)&&decide (b<=d)
 |.s k,.r c d=>Nat.blt k 4&&(decide (c<=0)&&decide (255<=d))
 |_,_=>false
def Zo(vs:List Nu):List Nu->Bool
 | []=>true
 |w::ws=>(match vs with|v::_=>v.le w| []=>false)&&Zo vs.tail ws
def Kn.le:Kn->Kn->Bool
 |_,.t=>true
 |.x v,.x w=>v.le w
 |.l cs,.l ds=>ds.all fun d=>cs.any fun c=>Nat.beq c.1 d.1&&c.2.le d.2
 |.n,.l _=>true
 |.k vs,.k ws=>Zo vs ws
 |_,_=>false
structure Sf where
 g:List (Nat×Kn)
 f:List BE
def Sf.at(s:Sf)(k:Nat):Kn:=match s.g.find? (fun p=>Nat.beq p.1 k)with
 |some p=>p.2
 |none=>.t
def Sf.eQ(s:Sf)(p:BE):Bool:=s.f.any fun q=>q.beq p
structure Sf.ok(σ:Nat->Int)(s:Sf)(ae:aH):Prop where
 g:∀p∈s.g,p.2.has σ (ae p.1)
 f:∀p∈s.f,p.af ae=true
variable {σ:Nat->Int}{s:Sf}{ae:aH}
theorem Sf.ok.at(h:s.ok σ ae)(k:Nat):(s.at k).has σ (ae k):=by
 unfold Sf.at;split;rename_i p hp;have h1:=h.g p (A8 hp);have h2:Nat.beq p.1 k=true:=List.find?_some (p:=fun p:Nat×Kn=>Nat.beq p.1 k) hp;have h2:=mq h2;rwa[h2]at h1;trivial
theorem Sf.ok.eQ(h:s.ok σ ae){p:BE}(hp:s.eQ p=true):p.af ae=true:=by
 obtain⟨q,hq,e⟩:=mr.1 hp;have:=BE.beq_eq e;rw[<- this];exact h.f q hq
def Sf.low(s:Sf)(b:Nat):Sf:=⟨s.g.filter fun p=>Nat.blt p.1 b,s.f.filter fun p=>p.all fun k=>Nat.blt k b⟩
theorem Sf.ok.low{ak:aH}{b:Nat}(h:s.ok σ ae)(he:∀k,k<b->ak k=ae k):(s.low b).ok σ ak:=by
 refine⟨fun p hp=>?_,fun p hp=>?_⟩;obtain⟨h1,h2⟩:=jq.1 hp;rw[he _ (Nat.le_of_ble_eq_true h2)];exact h.g p h1;obtain⟨h1,h2⟩:=jq.1 hp;rw[BE.aq (p:=fun k=>Nat.blt k b) (fun k hk=>he k (Nat.le_of_ble_eq_true hk)) h2];exact h.f p h1
def names(b:Nat):List Kn->List (Nat×Kn)
 | []=>[]
 |a::az=>(b,a)::names (b+1) az
theorem IA:∀ {az:List Kn} {ds:List DV} {b:Nat} {e:aH},yb σ az ds->∀p∈names b az,p.2.has σ (e.aB b ds p.1)
 | [],_,_,_,_,p,hp=>by cases hp
 |a::az,[],_,_,h,_,_=>h.elim
 | a::az,d::ds,b,e,h,p,hp=>by
   rcases bF.1 hp with rfl|hp;show a.has σ ((e.set b d).aB (b+1) ds b);rw[aH.cA (Nat.lt_succ_self b)];simp only[aH.set,if_true];exact h.1;exact IA (e:=e.set b d) h.2 p hp
theorem Sf.ok.aB(h:s.ok σ ae){az:List Kn}{ds:List DV}(b:Nat)(ha:yb σ az ds):Sf.ok σ ⟨names b az++(s.low b).g,(s.low b).f⟩ (ae.aB b ds):=by
 have hl:=h.low (ak:=ae.aB b ds) (b:=b) fun k hk=>aH.cA hk;refine⟨fun p hp=>?_,hl.f⟩;rcases mi.1 hp with hp|hp;exact IA ha p hp;exact hl.g p hp
def Sf.Yo(s:Sf)(l:Nat)(i:IE):Bool:=(match i with| .c n=>decide (0<=n)|_=>s.eQ (.le (.c 0) i))&&s.eQ (.lt i (.len l))
theorem Sf.ok.Yo(h:s.ok σ ae){l:Nat}{i:IE}(hi:s.Yo l i=true):0<=i.af ae/\i.af ae<((ae l).list.length:Int):=by
 obtain⟨h1,h2⟩:=Bool.and_eq_true_iff.1 hi;have h2:i.af ae<((ae l).list.length:Int):=mW (h.eQ h2);refine⟨?_,h2⟩;split at h1;exact mW h1;exact mW (h.eQ h1)
def Mq(cs:List (Nat×Nu))(j:Nat):Nu:=match cs.find? (fun c=>Nat.beq c.1 j)with
 |some c=>c.2
 |none=>.t
theorem ED{cs:List (Nat×Nu)}{r:List Int}(h:gA σ cs r)(j:Nat):(Mq cs j).has σ (r.getD j 0):=by
 unfold Mq;split;rename_i c hc;have h1:=h c (A8 hc);have h2:Nat.beq c.1 j=true:=List.find?_some (p:=fun c:Nat×Nu=>Nat.beq c.1 j) hc;have h2:=mq h2;rwa[h2]at h1;trivial
theorem Sn{xs:List (List Int)}{i:Int}(h0:0<=i)(h1:i<(xs.length:Int)):xs.getD i.toNat []∈xs:=by
 have:i.toNat<xs.length:=by omega
 rw[cT,eT this];exact List.getElem_mem this
def Sf.nu0(s:Sf):IE->Nu
 | .v k=>match s.at k with
   |.x v=>v
   |_=>.t
 |.c n=>.r n n
 | .get l i j=>match s.at l with
   |.l cs=>if s.Yo l i then Mq cs j else .t
   | .k vs=>match i,j with
     |.c (.ofNat n),0=>vs.getD n .t
     |_,_=>.t
   |_=>.t
 |_=>.t
theorem Sf.ok.nu0(h:s.ok σ ae)(e:IE):(s.nu0 e).has σ (e.af ae):=by
 unfold Sf.nu0;split;rename_i k;have:=h.at k;split;rename_i v hv;rw[hv]at this;obtain⟨n,e,hn⟩:=this;show v.has σ (ae k).int;rw[e];exact hn;trivial;exact⟨Int.le_refl _,Int.le_refl _⟩;rename_i l i j;have:=h.at l;split;rename_i cs iW;rw[iW]at this;have this:∀r∈(ae l).list,gA σ cs r:=this;split;rename_i hi;obtain⟨h1,h2⟩:=h.Yo hi;exact ED (this _ (Sn h1 h2)) j;trivial;rename_i vs mo;rw[mo]at this;have this:∀(j:Nat) (v:Nu),vs[j]?=some v->v.has σ (cellAt (ae l).list (j:Int) 0):=this;split;rename_i n;cases hn:vs[n]? with
 |none=>rw[cT,hn];trivial
 |some v=>rw[cT,hn];exact this n v hn
 trivial;trivial;trivial
def Sf.nu(s:Sf)(e:IE):Nu:=match s.nu0 e with
 |.t=>if s.eQ (.le (.c (-9223372036854775808)) e)&&s.eQ (.le e (.c 9223372036854775807))then .r (-9223372036854775808) 9223372036854775807 else .t
 |.r lo hi=>if s.eQ (.le (.c 0) e)then .r (max lo 0) hi else if s.eQ (.not (.le (.c 0) e))then .r lo (min hi (-1))else .r lo hi
 |v=>v
theorem Sf.ok.nu(h:s.ok σ ae)(e:IE):(s.nu e).has σ (e.af ae):=by
 have h0:=h.nu0 e;unfold Sf.nu;split;split;rename_i hk;obtain⟨k1,k2⟩:=Bool.and_eq_true_iff.1 hk;exact⟨mW (h.eQ k1),mW (h.eQ k2)⟩;trivial;rename_i lo hi hr;rw[hr]at h0;have h0:lo<=e.af ae/\e.af ae<=hi:=h0;split;rename_i hk;have:=h.eQ hk;have:(0:Int)<=e.af ae:=mW this;exact⟨by omega,h0.2⟩;split;rename_i hk;have:=h.eQ hk;have:(!(decide ((0:Int)<=e.af ae)))=true:=this;rw[nQ]at this;have:=Jq this;exact⟨h0.1,by omega⟩;exact h0;exact h0
end
section
variable {σ:Nat->Int}{s:Sf}{ae:aH}
variable{cs:List (Nat×Nu)}{f:Nat->Nu}{n:Int}
def Nu.join:Nu->Nu->Nu
 |.s k,.s j=>if Nat.beq k j then .s k else .t
 |.r a b,.r c d=>.r (min a c) (max b d)
 |_,_=>.t
theorem Nu.So{a b:Nu}(h:a.has σ n):(a.join b).has σ n:=by
 cases a with
 |t=>cases b<;>trivial
 | s k=>cases b with
   | s j=>
     show(if Nat.beq k j then Nu.s k else .t).has σ n;split;exact h;trivial
   |_=>trivial
 | r lo hi=>cases b with
   | r c d=>
     have h:lo<=n/\n<=hi:=h;exact⟨by omega,by omega⟩
   |_=>trivial
theorem Nu.Sp{a b:Nu}(h:b.has σ n):(a.join b).has σ n:=by
 cases a with
 |t=>cases b<;>trivial
 | s k=>cases b with
   | s j=>
     show(if Nat.beq k j then Nu.s k else .t).has σ n;split;rename_i e;have h:n=σ j:=h;rw[mq e];exact h;trivial
   |_=>trivial
 | r lo hi=>cases b with
   | r c d=>
     have h:c<=n/\n<=d:=h;exact⟨by omega,by omega⟩
   |_=>trivial
def Sf.cell(s:Sf):Sum IE BE->Nu
 |.inl e=>s.nu e
 |.inr _=>.t
theorem Sf.ok.cell(h:s.ok σ ae)(c:Sum IE BE):(s.cell c).has σ (b7 ae c):=by
 cases c with
 |inl e=>exact h.nu e
 |inr b=>trivial
def vf(cs:List (Nat×Nu))(f:Nat->Nu):List (Nat×Nu):=cs.map fun c=>(c.1,c.2.join (f c.1))
theorem EE{r:List Int}(h:gA σ cs r):gA σ (vf cs f) r:=by
 intro c hc;obtain⟨c',CX,rfl⟩:=jO.1 hc;exact Nu.So (h c' CX)
theorem EF{r:List Int}(h:∀j,(f j).has σ (r.getD j 0)):gA σ (vf cs f) r:=by
 intro c hc;obtain⟨c',CX,rfl⟩:=jO.1 hc;exact Nu.Sp (h _)
def Sf.GB(s:Sf)(r:List (Sum IE BE))(j:Nat):Nu:=match r[j]? with
 |some c=>s.cell c
 |none=>.t
theorem Sf.ok.GB(h:s.ok σ ae)(r:List (Sum IE BE))(j:Nat):(s.GB r j).has σ ((r.map (b7 ae)).getD j 0):=by
 unfold Sf.GB;split;rename_i c hc;rw[cT,gL,hc];exact h.cell c;trivial
def Sf.row(s:Sf)(r:List (Sum IE BE)):List (Nat×Nu):=(List.range r.length).map fun j=>(j,s.GB r j)
theorem Sf.ok.row(h:s.ok σ ae)(r:List (Sum IE BE)):gA σ (s.row r) (r.map (b7 ae)):=by
 intro c hc;obtain⟨j,_,rfl⟩:=jO.1 hc;exact h.GB r j
def Sf.lits(s:Sf):List (List (Sum IE BE))->Kn
 | []=>.n
 |r::rs=>.l (rs.foldl (fun cs r=>vf cs (s.GB r)) (s.row r))
theorem EG(h:s.ok σ ae):∀(rs:List (List (Sum IE BE))) {cs:List (Nat×Nu)} {D:List (List Int)},(∀r∈D,gA σ cs r)->∀r∈D++rs.map (fun r=>r.map (b7 ae)),gA σ (rs.foldl (fun cs r=>vf cs (s.GB r)) cs) r
 | [],cs,D,hD,r,hr=>by rw[rM,qH]at hr;exact hD r hr
 | x::rs,cs,D,hD,r,hr=>by
   refine EG h rs (cs:=vf cs (s.GB x)) (D:=D++[x.map (b7 ae)]) (fun r hr=>?_) r (by rw[V0];exact hr);rcases mi.1 hr with hr|hr;exact EE (hD r hr);rw[kL.1 hr];exact EF (h.GB x)
theorem Sf.ok.lits(h:s.ok σ ae)(rs:List (List (Sum IE BE))):(s.lits rs).has σ (.l (rs.map fun r=>r.map (b7 ae))):=by
 cases rs with
 |nil=>rfl
 | cons x rs=>
   have:=EG h rs (cs:=s.row x) (D:=[x.map (b7 ae)]) (fun r hr=>by rw[kL.1 hr];exact h.row x);exact this
def Kn.app:Kn->Kn->Kn
 |.l cs,.l ds=>.l (vf cs (Mq ds))
 |.l cs,.n=>.l cs
 |.n,.l ds=>.l ds
 |.n,.n=>.n
 |_,_=>.t
theorem Kn.Xx{a b:Kn}{x y:DV}(ha:a.has σ x)(hb:b.has σ y):(a.app b).has σ (.l (x.list++y.list)):=by
 cases a with
 | l cs=>cases b with
   | l ds=>
     have ha:∀r∈x.list,gA σ cs r:=ha;have hb:∀r∈y.list,gA σ ds r:=hb;intro r hr;rcases mi.1 hr with hr|hr;exact EE (ha r hr);exact EF (ED (hb r hr))
   | n=>
     have hb:y.list=[]:=hb;rw[hb,qH];exact ha
   |_=>trivial
 | n=>
   have ha:x.list=[]:=ha;rw[ha,nc];cases b with
   |l ds=>exact hb
   |n=>exact hb
   |_=>trivial
 |_=>trivial
theorem IB{xs:List (List Int)}{i:Nat}{f:List Int->List Int}{r:List Int}(h:r∈xs.modify i f):r∈xs\/∃x∈xs,r=f x:=by
 obtain⟨k,hk⟩:=List.mem_iff_getElem?.1 h;rw[List.getElem?_modify]at hk;cases hx:xs[k]? with
 |none=>rw[hx]at hk;cases hk
 | some x=>
   rw[hx]at hk;have hk:some (if i=k then f x else x)=some r:=hk;injection hk with hk;have hm:x∈xs:=List.mem_iff_getElem?.2 ⟨k,hx⟩;by_cases e:i=k;rw[if_pos e]at hk;exact .inr ⟨x,hm,hk.symm⟩;rw[if_neg e]at hk;exact .inl (hk▸hm)
def Sf.op(s:Sf):dw->Kn
 |.lit rows=>s.lits rows
 |.app a b=>(s.at a).app (s.at b)
 | .set a _ j x=>match s.at a with
   |.l cs=>.l (cs.map fun c=>(c.1,if Nat.beq c.1 j then c.2.join (s.cell x)else c.2))
   |_=>.t
 |_=>.t
theorem Sf.ok.op(h:s.ok σ ae)(o:dw):(s.op o).has σ (.l (o.af ae)):=by
 cases o with
 |lit rows=>exact h.lits rows
 |app a b=>exact Kn.Xx (h.at a) (h.at b)
 | set a i j x=>
   have ha:=h.at a;show(match s.at a with
     |.l cs=>Kn.l (cs.map fun c:Nat×Nu=>(c.1,if Nat.beq c.1 j then c.2.join (s.cell x)else c.2))
     |_=>.t).has σ _
   split;rename_i cs iW;rw[iW]at ha;have ha:∀r∈(ae a).list,gA σ cs r:=ha;intro r hr c hc;obtain⟨c',CX,rfl⟩:=jO.1 hc;rcases IB (show r∈(ae a).list.modify (i.af ae).toNat (fun r=>lV r j (b7 ae x))from hr)with hr|⟨y,hy,rfl⟩;show(if Nat.beq c'.1 j then c'.2.join (s.cell x)else c'.2).has σ _;split;exact Nu.So (ha r hr c' CX);exact ha r hr c' CX;show(if Nat.beq c'.1 j then c'.2.join (s.cell x)else c'.2).has σ ((lV y j (b7 ae x)).getD c'.1 0);rw[tt];split;rename_i e;rw[if_pos (mq e)];exact Nu.Sp (h.cell x);rename_i e;rw[if_neg (fun e'=>e (by rw[e'];exact Nat.beq_refl j))];exact ha y hy c' CX;trivial
 |_=>trivial
end
end Go.Sx
namespace Go.Proofs.YtohebioanhliiaaGreatDoor.av
section
open Go.Sx Go
abbrev Fk:=List (Nat×List (List Kn×List Kn))
variable {X:bY}
def Told(X:bY)(k:Nat)(ps:List (List Kn×List Kn)):Prop:=∀σ,PS σ->∀p∈ps,∀ds rs,yb σ p.1 ds->eR (TT PP) X k ds rs->yb σ p.2 rs
def Told.all(X:bY)(L:Fk):Prop:=∀e∈L,Told X e.1 e.2
abbrev pd(n:Nat)(l:List Kn):List Kn:=l++List.replicate (n-l.length) .t
abbrev cF:List (Nat×Nu):=[(3,.s 0),(4,.s 1),(5,.s 2),(6,.s 3)]
abbrev kF:Kn:=.l cF
abbrev kW:List Kn:=[.t,.t,.t,.x (.s 0),.x (.s 1),.x (.s 2),.x (.s 3)]
abbrev ajP:List (List Kn×List Kn):=[(pd 26 (kW++kW++kW),[kF])]
end
section
open Go.Sx Go
variable{rs ds:List DV}{n x:Int}
def t215:au:=
.ev (.aL (r6 (.sub (.v 7) (.v 0)))) (
.ev (.aL (r6 (.sub (.v 15) (.v 1)))) (
.ev (.aL (r6 (.mul (.sub (.v 7) (.v 0)) (.sub (.v 15) (.v 1))))) (
.ev (.aL (r6 (.sub (.v 8) (.v 1)))) (
.ev (.aL (r6 (.sub (.v 14) (.v 0)))) (
.ev (.aL (r6 (.mul (.sub (.v 8) (.v 1)) (.sub (.v 14) (.v 0))))) (
.ev (.aL (r6 (.sub (.mul (.sub (.v 7) (.v 0)) (.sub (.v 15) (.v 1))) (.mul (.sub (.v 8) (.v 1)) (.sub (.v 14) (.v 0)))))) (
.ret [.i (.sub (.mul (.sub (.v 7) (.v 0)) (.sub (.v 15) (.v 1))) (.mul (.sub (.v 8) (.v 1)) (.sub (.v 14) (.v 0))))])))))))
theorem ajQ:TT PP 215=some ⟨215,t215,(rowOf 215).sub⟩:=by kernel_rfl
def t252:au:=
.ev (.call 215 (.c true) (iv 0 21) [oI] 24) (
.ite (.lt (.v 24) (.c 0)) (
.ev (.call 269 (.c true) (iv 0 7++iv 14 7) [.agg [.c i6,.c i6,.c i6,.c i6,.c i6]] 1049) (
.ev (.call 269 (.c true) (iv 14 7++iv 7 7) [.agg [.c i6,.c i6,.c i6,.c i6,.c i6]] 2585) (
.ev (.call 269 (.c true) (iv 7 7++iv 0 7) [.agg [.c i6,.c i6,.c i6,.c i6,.c i6]] 4121) (
.ev (.cH 4633 (.lit [[.inl (.v 1049),.inl (.v 1050),.inl (.v 1051),.inl (.v 1052),.inl (.v 1053)],[.inl (.v 2585),.inl (.v 2586),.inl (.v 2587),.inl (.v 2588),.inl (.v 2589)],[.inl (.v 4121),.inl (.v 4122),.inl (.v 4123),.inl (.v 4124),.inl (.v 4125)]])) (
.ret [.l 4633]))))) (
.ite (.eq (.v 24) (.c 0)) (
.ret [.nil]) (
.ev (.call 269 (.c true) (iv 0 14) [.agg [.c i6,.c i6,.c i6,.c i6,.c i6]] 1049) (
.ev (.call 269 (.c true) (iv 7 14) [.agg [.c i6,.c i6,.c i6,.c i6,.c i6]] 2585) (
.ev (.call 269 (.c true) (iv 14 7++iv 0 7) [.agg [.c i6,.c i6,.c i6,.c i6,.c i6]] 4121) (
.ev (.cH 4633 (.lit [[.inl (.v 1049),.inl (.v 1050),.inl (.v 1051),.inl (.v 1052),.inl (.v 1053)],[.inl (.v 2585),.inl (.v 2586),.inl (.v 2587),.inl (.v 2588),.inl (.v 2589)],[.inl (.v 4121),.inl (.v 4122),.inl (.v 4123),.inl (.v 4124),.inl (.v 4125)]])) (
.ret [.l 4633])))))))
theorem aem:TT PP 252=some ⟨252,t252,(rowOf 252).sub⟩:=by kernel_rfl
def t221:au:=
.ev (.call 252 (.c true) (iv 0 21) [.one (.s 369 [i6,i6,i6,i6,i6])] 29) (
.ev (.call 65 (.not (.eq (.len 29) (.c 0))) (iv 21 4) [oB] 30) (
.ite (.or (.eq (.len 29) (.c 0)) (.not (.v 30))) (
.ret [.nil]) (
.ev (.aL (r6 (.sub (.ediv (.min (.min (.v 1) (.v 8)) (.v 15)) 256) (.c 1)))) (
.ev (.aL (r6 (.add (.ediv (.max (.max (.v 1) (.v 8)) (.v 15)) 256) (.c 2)))) (
.loop 221008 [.nil,.i (.max (.v 22) (.sub (.ediv (.min (.min (.v 1) (.v 8)) (.v 15)) 256) (.c 1)))] [.s 344 [i6,i6,i6],.c i6] 31 (
.ite (.lt (.v 32) (.min (.v 24) (.add (.ediv (.max (.max (.v 1) (.v 8)) (.v 15)) 256) (.c 2)))) (
.loop 221012 [.i (.v 21),.i (.v 23),.i (.c 0)] [.c i6,.c i6,.c i6] 33 (
.ite (.lt (.v 35) (.len 29)) (
.ev (.aL (.le (.c 0) (.v 35))) (
.ev (.call 253 (.c true) [.i (.get 29 (.v 35) 0),.i (.get 29 (.v 35) 1),.i (.get 29 (.v 35) 2),.i (.get 29 (.v 35) 3),.i (.get 29 (.v 35) 4),.i (.v 32),.i (.v 33),.i (.v 34)] [oI,oI] 37) (
.ev (.aL (r6 (.add (.v 35) (.c 1)))) (
.again 221012 [.i (.v 37),.i (.v 38),.i (.add (.v 35) (.c 1))])))) (
.ite (.lt (.v 33) (.v 34)) (
.ev (.cH 36 (.lit [[.inl (.v 32),.inl (.v 33),.inl (.v 34)]])) (
.ev (.aL (.le (.add (.len 31) (.len 36)) (.c 5864062014805))) (
.ev (.cH 37 (.app 31 36)) (
.ev (.aL (r6 (.add (.v 32) (.c 1)))) (
.again 221008 [.l 37,.i (.add (.v 32) (.c 1))]))))) (
.ev (.aL (r6 (.add (.v 32) (.c 1)))) (
.again 221008 [.l 31,.i (.add (.v 32) (.c 1))]))))) (
.ret [.l 31])))))))
theorem aen:TT PP 221=some ⟨221,t221,(rowOf 221).sub⟩:=by kernel_rfl
def t272:au:=
.ev (.aL (r6 (.mul (.v 22) (.c 256)))) (
.ev (.aL (r6 (.add (.mul (.v 22) (.c 256)) (.c 128)))) (
.ev (.aL (r6 (.mul (.v 23) (.c 256)))) (
.ev (.aL (r6 (.add (.mul (.v 23) (.c 256)) (.c 128)))) (
.ev (.call 215 (.c true) [.i (.add (.mul (.v 22) (.c 256)) (.c 128)),.i (.add (.mul (.v 23) (.c 256)) (.c 128)),.i (.c 0),.i (.c 0),.i (.c 0),.i (.c 0),.i (.c 0),.i (.v 7),.i (.v 8),.i (.v 9),.i (.v 10),.i (.v 11),.i (.v 12),.i (.v 13),.i (.v 14),.i (.v 15),.i (.v 16),.i (.v 17),.i (.v 18),.i (.v 19),.i (.v 20)] [oI] 3611) (
.ev (.call 215 (.c true) [.i (.v 0),.i (.v 1),.i (.v 2),.i (.v 3),.i (.v 4),.i (.v 5),.i (.v 6),.i (.add (.mul (.v 22) (.c 256)) (.c 128)),.i (.add (.mul (.v 23) (.c 256)) (.c 128)),.i (.c 0),.i (.c 0),.i (.c 0),.i (.c 0),.i (.c 0),.i (.v 14),.i (.v 15),.i (.v 16),.i (.v 17),.i (.v 18),.i (.v 19),.i (.v 20)] [oI] 7707) (
.ev (.call 215 (.c true) [.i (.v 0),.i (.v 1),.i (.v 2),.i (.v 3),.i (.v 4),.i (.v 5),.i (.v 6),.i (.v 7),.i (.v 8),.i (.v 9),.i (.v 10),.i (.v 11),.i (.v 12),.i (.v 13),.i (.add (.mul (.v 22) (.c 256)) (.c 128)),.i (.add (.mul (.v 23) (.c 256)) (.c 128)),.i (.c 0),.i (.c 0),.i (.c 0),.i (.c 0),.i (.c 0)] [oI] 11803) (
.ret [.i (.v 3611),.i (.v 7707),.i (.v 11803)])))))))
theorem ajR:TT PP 272=some ⟨272,t272,(rowOf 272).sub⟩:=by kernel_rfl
def t273:au:=
.ev (.call 156 (.c true) [.i (.v 0),.i (.v 3)] [.agg [.c i6,.c (.i .u64)]] 2057) (
.ev (.call 156 (.c true) [.i (.v 1),.i (.v 4)] [.agg [.c i6,.c (.i .u64)]] 4617) (
.ev (.call 220 (.c true) [.i (.v 2057),.i (.v 2058),.i (.v 4617),.i (.v 4618)] [.agg [.c i6,.c (.i .u64)]] 5129) (
.ev (.call 156 (.c true) [.i (.v 2),.i (.v 5)] [.agg [.c i6,.c (.i .u64)]] 7689) (
.ev (.call 220 (.c true) [.i (.v 5129),.i (.v 5130),.i (.v 7689),.i (.v 7690)] [.agg [.c i6,.c (.i .u64)]] 8201) (
.ret [.i (.v 8201),.i (.v 8202)])))))
theorem ajS:TT PP 273=some ⟨273,t273,(rowOf 273).sub⟩:=by kernel_rfl
def t220:au:=
.ev (.call 214 (.c true) (iv 0 4) [.agg [.c i6,.c (.i .u64)],oB] 7) (
.ret [.i (.v 7),.i (.v 8)])
theorem ajT:TT PP 220=some ⟨220,t220,(rowOf 220).sub⟩:=by kernel_rfl
def t254:au:=
.ev (.call 272 (.c true) [.i (.v 0),.i (.v 1),.i (.v 2),.i (.v 3),.i (.v 4),.i (.v 5),.i (.v 6),.i (.v 7),.i (.v 8),.i (.v 9),.i (.v 10),.i (.v 11),.i (.v 12),.i (.v 13),.i (.v 14),.i (.v 15),.i (.v 16),.i (.v 17),.i (.v 18),.i (.v 19),.i (.v 20),.i (.v 21),.i (.c 0),.i (.c 0)] [.agg [.c i6,.c i6,.c i6]] 28) (
.ev (.aL (r6 (.sub (.v 8) (.v 15)))) (
.ev (.aL (r6 (.mul (.sub (.v 8) (.v 15)) (.c 256)))) (
.ev (.aL (r6 (.sub (.v 14) (.v 7)))) (
.ev (.aL (r6 (.mul (.sub (.v 14) (.v 7)) (.c 256)))) (
.ev (.aL (r6 (.sub (.v 15) (.v 1)))) (
.ev (.aL (r6 (.mul (.sub (.v 15) (.v 1)) (.c 256)))) (
.ev (.aL (r6 (.sub (.v 0) (.v 14)))) (
.ev (.aL (r6 (.mul (.sub (.v 0) (.v 14)) (.c 256)))) (
.ev (.aL (r6 (.sub (.v 1) (.v 8)))) (
.ev (.aL (r6 (.mul (.sub (.v 1) (.v 8)) (.c 256)))) (
.ev (.aL (r6 (.sub (.v 7) (.v 0)))) (
.ev (.aL (r6 (.mul (.sub (.v 7) (.v 0)) (.c 256)))) (
.ev (.call 273 (.c true) [.i (.v 28),.i (.v 29),.i (.v 30),.i (.v 22),.i (.v 23),.i (.v 24)] [.agg [.c i6,.c (.i .u64)]] 21029) (
.ev (.call 273 (.c true) [.i (.mul (.sub (.v 8) (.v 15)) (.c 256)),.i (.mul (.sub (.v 15) (.v 1)) (.c 256)),.i (.mul (.sub (.v 1) (.v 8)) (.c 256)),.i (.v 22),.i (.v 23),.i (.v 24)] [.agg [.c i6,.c (.i .u64)]] 22565) (
.ev (.call 273 (.c true) [.i (.mul (.sub (.v 14) (.v 7)) (.c 256)),.i (.mul (.sub (.v 0) (.v 14)) (.c 256)),.i (.mul (.sub (.v 7) (.v 0)) (.c 256)),.i (.v 22),.i (.v 23),.i (.v 24)] [.agg [.c i6,.c (.i .u64)]] 24101) (
.ret [.i (.v 21029),.i (.v 21030),.i (.v 22565),.i (.v 22566),.i (.v 24101),.i (.v 24102),.i (.v 21)]))))))))))))))))
theorem ajU:TT PP 254=some ⟨254,t254,(rowOf 254).sub⟩:=by kernel_rfl
def t223:au:=
.ev (.call 254 (.c true) (iv 0 22++[.i (.v 2),.i (.v 9),.i (.v 16)]) [.agg [.c i6,.c (.i .u64),.c i6,.c (.i .u64),.c i6,.c (.i .u64),.c i6]] 25) (
.ev (.call 254 (.c true) (iv 0 22++[.i (.v 3),.i (.v 10),.i (.v 17)]) [.agg [.c i6,.c (.i .u64),.c i6,.c (.i .u64),.c i6,.c (.i .u64),.c i6]] 11296) (
.ev (.call 254 (.c true) (iv 0 22++[.i (.v 4),.i (.v 11),.i (.v 18)]) [.agg [.c i6,.c (.i .u64),.c i6,.c (.i .u64),.c i6,.c (.i .u64),.c i6]] 22567) (
.ev (.call 254 (.c true) (iv 0 22++[.i (.v 5),.i (.v 12),.i (.v 19)]) [.agg [.c i6,.c (.i .u64),.c i6,.c (.i .u64),.c i6,.c (.i .u64),.c i6]] 33838) (
.ev (.call 254 (.c true) (iv 0 22++[.i (.v 6),.i (.v 13),.i (.v 20)]) [.agg [.c i6,.c (.i .u64),.c i6,.c (.i .u64),.c i6,.c (.i .u64),.c i6]] 45109) (
.ret (iv 25 7++iv 11296 7++iv 22567 7++iv 33838 7++iv 45109 7))))))
theorem ajV:TT PP 223=some ⟨223,t223,(rowOf 223).sub⟩:=by kernel_rfl
def t222:au:=
.ev (.call 215 (.c true) (iv 0 21) [oI] 25) (
.ite (.lt (.v 25) (.c 0)) (
.ev (.aL (r6 (.sub (.c 0) (.v 25)))) (
.ret [.i (.v 0),.i (.v 1),.i (.v 2),.i (.v 3),.i (.v 4),.i (.v 5),.i (.v 6),.i (.v 14),.i (.v 15),.i (.v 16),.i (.v 17),.i (.v 18),.i (.v 19),.i (.v 20),.i (.v 7),.i (.v 8),.i (.v 9),.i (.v 10),.i (.v 11),.i (.v 12),.i (.v 13),.i (.sub (.c 0) (.v 25))])) (
.ret (iv 0 21++[.i (.v 25)])))
theorem ajW:TT PP 222=some ⟨222,t222,(rowOf 222).sub⟩:=by kernel_rfl
def t224:au:=
.ev (.call 200 (.c true) [.i (.v 2),.i (.v 3),.i (.v 7)] [.agg [.c i6,.c (.i .u64)],oB] 11) (
.ev (.call 200 (.c true) [.i (.v 4),.i (.v 5),.i (.v 8)] [.agg [.c i6,.c (.i .u64)],oB] 15) (
.ev (.call 220 (.c true) [.i (.v 11),.i (.v 12),.i (.v 15),.i (.v 16)] [.agg [.c i6,.c (.i .u64)]] 2067) (
.ev (.call 220 (.c true) [.i (.v 0),.i (.v 1),.i (.v 2067),.i (.v 2068)] [.agg [.c i6,.c (.i .u64)]] 2579) (
.ret [.i (.v 2579),.i (.v 2580)]))))
theorem ajX:TT PP 224=some ⟨224,t224,(rowOf 224).sub⟩:=by kernel_rfl
def t225:au:=
.ev (.call 198 (.c true) [.i (.v 7),.i (.v 8),.i (.v 6)] [.agg [.c i6,.c (.i .u64)],oI,oB] 11) (
.ev (.call 199 (.c true) [.i (.v 11),.i (.v 12)] [oI,oB] 16) (
.ret [.i (.v 16)]))
theorem ajY:TT PP 225=some ⟨225,t225,(rowOf 225).sub⟩:=by kernel_rfl
theorem abH:([215,252,221,272,273,220,254,223,222,224,225,200,177].all fun k=>mC (rowOf k).sub)=true:=by kernel_rfl
theorem bR{k:Nat}(h:k∈[215,252,221,272,273,220,254,223,222,224,225,200,177]):mC (rowOf k).sub=true:=kG.1 abH k h
def Ar(ax ay bx bZ cx cy:Int):Int:=(bx-ax)*(cy-ay)-(bZ-ay)*(cx-ax)
theorem abI(ax ay bx bZ cx cy px py:Int):Ar px py bx bZ cx cy+Ar ax ay px py cx cy+Ar ax ay bx bZ px py=Ar ax ay bx bZ cx cy:=by unfold Ar;grind
theorem Xy(ax ay bx bZ cx cy:Int):Ar ax ay cx cy bx bZ = -Ar ax ay bx bZ cx cy:=by unfold Ar;grind
theorem Ae{e:IE}{ae:aH}(h:(r6 e).af ae=true):iU (e.af ae):=by
 obtain⟨h1,h2⟩:=Bool.and_eq_true_iff.1 (show(decide ((-9223372036854775808:Int)<=e.af ae)&&decide (e.af ae<=9223372036854775807))=true from h);exact⟨mW h1,mW h2⟩
abbrev nm(ds:List DV)(k:Nat):Int:=(bj.aB 0 ds k).int
abbrev ar(ds:List DV):Int:=Ar (nm ds 0) (nm ds 1) (nm ds 7) (nm ds 8) (nm ds 14) (nm ds 15)
theorem zk(hg:Gf 215 ds rs):rs=[.i (ar ds)]/\iU (ar ds):=by
 refine bV (R:=fun rs=>rs=[DV.i (ar ds)]/\iU (ar ds)) ajQ ?_ hg;exact bh fun _=>bh fun _=>bh fun _=>bh fun _=>bh fun _=>bh fun _=>bh fun h=>c8 ⟨rfl,Ae h⟩
theorem Cq{a b:Int}(ha:ri a)(hb:ri b)(VZ:ri (a+b))(hg:Gf 220 [.i (dc a),.i (dW a),.i (dc b),.i (dW b)] rs):rs=[.i (dc (a+b)),.i (dW (a+b))]:=by
 refine bV (R:=fun rs=>rs=[DV.i (dc (a+b)),.i (dW (a+b))]) ajT ?_ hg;refine bp fun r1 g1=>?_;have g1:Gf 214 [.i (dc a),.i (dW a),.i (dc b),.i (dW b)] r1:=aP bD (bR (by simp)) g1;obtain rfl:=ae9 ha hb VZ g1;exact c8 rfl
theorem Sq(hA:ar ds=0)(hg:Gf 252 ds rs):rs=[.l []]:=by
 refine bV (R:=fun rs=>rs=[DV.l []]) aem ?_ hg;refine bp fun r1 g1=>?_;have g1:=aP bD (bR (by simp)) g1;obtain⟨e1,_⟩:=zk g1;have e1:r1=[.i (ar ds)]:=e1;rw[hA]at e1;subst e1;refine lk (fun hc=>?_) (fun _=>lk (fun _=>c8 rfl) (fun hc=>?_));have hc:(0:Int)<0:=mW hc;omega;have hc:¬ ((0:Int)=0):=Jq hc;exact absurd rfl hc
theorem Ir(hA:ar ds=0)(hg:Gf 221 ds rs):rs=[.l []]:=by
 refine bV (R:=fun rs=>rs=[DV.l []]) aen ?_ hg;refine bp fun r1 g1=>?_;have g1:=aP bD (bR (by simp)) g1;have hA':ar ((iv 0 21).map (DE.af (bj.aB 0 ds)))=0:=hA;obtain rfl:=Sq hA' g1;have tU:∀e:aH,e 29 = .l []->(BE.or (.eq (.len 29) (.c 0)) (.not (.v 30))).af e=true:=fun e h=>by
   show(decide (((e 29).list.length:Int)=0)||_)=true;rw[h];rfl
 refine LY (fun hb r2 g2=>?_) (fun _=>Sr (tU _ rfl) (c8 rfl));refine Sr (tU _ ?_) (c8 rfl);rw[aH.cA (by omega)];rfl
theorem GC{a b c p:Int}(ha:iU a)(hb:iU b)(hc:iU c)(hp:0<=p/\p<=255)(hg:Gf 273 [.i a,.i b,.i c,.i p,.i p,.i p] rs):rs=[.i (dc ((a+b+c)*p)),.i (dW ((a+b+c)*p))]:=by
 refine bV (R:=fun rs=>rs=[DV.i (dc ((a+b+c)*p)),.i (dW ((a+b+c)*p))]) ajS ?_ hg;have pI:iU p:=by constructor<;>omega
 have bd:∀ {x:Int},iU x->-2351959869397967831040<=x*p/\x*p<=2351959869397967831040:=fun {x} hx=>by
   have h1:=rS hx.1 hp.1;have h2:=rS hx.2 hp.1;constructor<;>omega
 have b1:=bd ha;have b2:=bd hb;have b3:=bd hc
 refine bp fun r1 g1=>?_;have g1:Gf 156 [.i a,.i p] r1:=aP bD (bR (by simp)) g1;obtain rfl:=Ss ha pI g1;refine bp fun r2 g2=>?_;have g2:Gf 156 [.i b,.i p] r2:=aP bD (bR (by simp)) g2;obtain rfl:=Ss hb pI g2;refine bp fun r3 g3=>?_;have g3:Gf 220 [.i (dc (a*p)),.i (dW (a*p)),.i (dc (b*p)),.i (dW (b*p))] r3:=aP bD (bR (by simp)) g3;obtain rfl:=Cq (by constructor<;>omega) (by constructor<;>omega) (by constructor<;>omega) g3;refine bp fun r4 g4=>?_;have g4:Gf 156 [.i c,.i p] r4:=aP bD (bR (by simp)) g4;obtain rfl:=Ss hc pI g4;refine bp fun r5 g5=>?_;have g5:Gf 220 [.i (dc (a*p+b*p)),.i (dW (a*p+b*p)),.i (dc (c*p)),.i (dW (c*p))] r5:=aP bD (bR (by simp)) g5;obtain rfl:=Cq (by constructor<;>omega) (by constructor<;>omega) (by constructor<;>omega) g5;refine c8 ?_;rw[Int.add_mul,Int.add_mul];rfl
theorem OQ(h22:nm ds 22=0)(Xz:nm ds 23=0)(hg:Gf 272 ds rs):∃a b c,rs=[.i a,.i b,.i c]/\iU a/\iU b/\iU c/\a+b+c=ar ds:=by
 refine bV (R:=fun rs=>∃a b c,rs=[DV.i a,.i b,.i c]/\iU a/\iU b/\iU c/\a+b+c=ar ds) ajR ?_ hg;refine bh fun _=>bh fun _=>bh fun _=>bh fun _=>?_;refine bp fun r1 g1=>?_;have g1:=aP bD (bR (by simp)) g1;obtain⟨e1,i1⟩:=zk g1;have e1:r1=[.i (Ar (nm ds 22*256+128) (nm ds 23*256+128) (nm ds 7) (nm ds 8) (nm ds 14) (nm ds 15))]:=e1;have i1:iU (Ar (nm ds 22*256+128) (nm ds 23*256+128) (nm ds 7) (nm ds 8) (nm ds 14) (nm ds 15)):=i1;subst e1;refine bp fun r2 g2=>?_;have g2:=aP bD (bR (by simp)) g2;obtain⟨e2,i2⟩:=zk g2;have e2:r2=[.i (Ar (nm ds 0) (nm ds 1) (nm ds 22*256+128) (nm ds 23*256+128) (nm ds 14) (nm ds 15))]:=e2;have i2:iU (Ar (nm ds 0) (nm ds 1) (nm ds 22*256+128) (nm ds 23*256+128) (nm ds 14) (nm ds 15)):=i2;subst e2;refine bp fun r3 g3=>?_;have g3:=aP bD (bR (by simp)) g3;obtain⟨e3,i3⟩:=zk g3;have e3:r3=[.i (Ar (nm ds 0) (nm ds 1) (nm ds 7) (nm ds 8) (nm ds 22*256+128) (nm ds 23*256+128))]:=e3;have i3:iU (Ar (nm ds 0) (nm ds 1) (nm ds 7) (nm ds 8) (nm ds 22*256+128) (nm ds 23*256+128)):=i3;subst e3;exact c8 ⟨_,_,_,rfl,i1,i2,i3,abI ..⟩
theorem AV{p:Int}(hp:0<=p/\p<=255)(h22:nm ds 22=p)(Xz:nm ds 23=p)(VH:nm ds 24=p)(hg:Gf 254 ds rs):rs=[.i (dc (ar ds*p)),.i (dW (ar ds*p)),.i 0,.i 0,.i 0,.i 0,.i (nm ds 21)]:=by
 refine bV (R:=fun rs=>rs=[DV.i (dc (ar ds*p)),.i (dW (ar ds*p)),.i 0,.i 0,.i 0,.i 0,.i (nm ds 21)]) ajU ?_ hg;refine bp fun r1 g1=>?_;have g1:=aP bD (bR (by simp)) g1;obtain⟨a,b,c,rfl,ia,ib,ic,hs⟩:=OQ rfl rfl g1;have hs:a+b+c=ar ds:=hs;refine bh fun _=>bh fun i1=>bh fun _=>bh fun i2=>bh fun _=>bh fun i3=>bh fun _=>bh fun i4=>bh fun _=>bh fun i5=>bh fun _=>bh fun i6'=>?_;have i1:iU ((nm ds 8-nm ds 15)*256):=Ae i1;have i2:iU ((nm ds 14-nm ds 7)*256):=Ae i2;have i3:iU ((nm ds 15-nm ds 1)*256):=Ae i3;have i4:iU ((nm ds 0-nm ds 14)*256):=Ae i4;have i5:iU ((nm ds 1-nm ds 8)*256):=Ae i5;have i6':iU ((nm ds 7-nm ds 0)*256):=Ae i6';refine bp fun r2 g2=>?_;have g2:Gf 273 [.i a,.i b,.i c,.i (nm ds 22),.i (nm ds 23),.i (nm ds 24)] r2:=aP bD (bR (by simp)) g2;rw[h22,Xz,VH]at g2;obtain rfl:=GC ia ib ic hp g2;refine bp fun r3 g3=>?_;have g3:Gf 273 [.i ((nm ds 8-nm ds 15)*256),.i ((nm ds 15-nm ds 1)*256),.i ((nm ds 1-nm ds 8)*256),.i (nm ds 22),.i (nm ds 23),.i (nm ds 24)] r3:=aP bD (bR (by simp)) g3;rw[h22,Xz,VH]at g3;have e3:=GC i1 i3 i5 hp g3;rw[show(nm ds 8-nm ds 15)*256+(nm ds 15-nm ds 1)*256+(nm ds 1-nm ds 8)*256=0 by omega,Int.zero_mul]at e3;subst e3;refine bp fun r4 g4=>?_;have g4:Gf 273 [.i ((nm ds 14-nm ds 7)*256),.i ((nm ds 0-nm ds 14)*256),.i ((nm ds 7-nm ds 0)*256),.i (nm ds 22),.i (nm ds 23),.i (nm ds 24)] r4:=aP bD (bR (by simp)) g4;rw[h22,Xz,VH]at g4;have e4:=GC i2 i4 i6' hp g4;rw[show(nm ds 14-nm ds 7)*256+(nm ds 0-nm ds 14)*256+(nm ds 7-nm ds 0)*256=0 by omega,Int.zero_mul]at e4;subst e4;refine c8 ?_;rw[<- hs];rfl
theorem IC(hg:Gf 200 [.i 0,.i 0,.i x] rs):rs=[.i 0,.i 0,.b true]:=by
 refine bV (R:=fun rs=>rs=[DV.i 0,.i 0,.b true]) ajZ ?_ hg;refine OR rfl ?_;refine bp fun r1 g1=>?_;have g1:Gf 196 [.i x] r1:=aP bD (bR (by simp)) g1;obtain⟨m,rfl,hm⟩:∃m,r1=[DV.i m]/\(0<=m/\m<18446744073709551616):=by
   refine bV (R:=fun rs=>∃m,rs=[DV.i m]/\(0<=m/\m<18446744073709551616)) ae' ?_ g1;have wr:∀z:Int,0<=IntKind.u64.wrap z/\IntKind.u64.wrap z<18446744073709551616:=fun z=>by rw[lQ];omega
   exact lk (fun _=>c8 ⟨_,rfl,wr _⟩) (fun _=>c8 ⟨_,rfl,wr _⟩)
 refine bp fun r2 g2=>?_;have g2:Gf 139 [.i 0,.i m] r2:=aP bD (bR (by simp)) g2;have e2:=GD (by omega) hm g2;rw[Int.zero_mul]at e2;have e2:r2=[.i 0,.i 0]:=e2;subst e2;refine bp fun r3 g3=>?_;have g3:Gf 139 [.i 0,.i m] r3:=aP bD (bR (by simp)) g3;have e3:=GD (by omega) hm g3;rw[Int.zero_mul]at e3;have e3:r3=[.i 0,.i 0]:=e3;subst e3;refine bp fun r4 g4=>?_;have g4:Gf 243 [.i 0,.i 0,.i 0] r4:=aP bD (bR (by simp)) g4;have e4:r4=[.i 0,.i 0]:=Su g4;subst e4;refine OR rfl ?_;refine bp fun r5 g5=>?_;have g5:=aP bD (bR (by simp)) g5;have g5:Gf 197 [.i (dc 0),.i (dW 0),.b (!(decide ((0:Int)<0)==decide (x<0)))] r5:=g5;have e5:=ID (by omega) (by omega) g5;have e5:r5=[.i 0,.i 0,.b true]:=by rw[e5];cases(!(decide ((0:Int)<0)==decide (x<0)))<;>rfl
 subst e5;exact OR rfl (c8 rfl)
theorem afa{V:Int}(hV:ri V){y:Int}(hg:Gf 224 [.i (dc V),.i (dW V),.i 0,.i 0,.i 0,.i 0,.i n,.i x,.i y] rs):rs=[.i (dc V),.i (dW V)]:=by
 refine bV (R:=fun rs=>rs=[DV.i (dc V),.i (dW V)]) ajX ?_ hg;refine bp fun r1 g1=>?_;have g1:Gf 200 [.i 0,.i 0,.i x] r1:=aP bD (bR (by simp)) g1;obtain rfl:=IC g1;refine bp fun r2 g2=>?_;have g2:Gf 200 [.i 0,.i 0,.i y] r2:=aP bD (bR (by simp)) g2;obtain rfl:=IC g2;refine bp fun r3 g3=>?_;have g3:=aP bD (bR (by simp)) g3;have g3:Gf 220 [.i (dc 0),.i (dW 0),.i (dc 0),.i (dW 0)] r3:=g3;obtain rfl:=Cq (by constructor<;>omega) (by constructor<;>omega) (by constructor<;>omega) g3;refine bp fun r4 g4=>?_;have g4:=aP bD (bR (by simp)) g4;have g4:Gf 220 [.i (dc V),.i (dW V),.i (dc 0),.i (dW 0)] r4:=g4;have e4:=Cq hV (by constructor<;>omega) (by rw[Int.add_zero];exact hV) g4;rw[Int.add_zero]at e4;subst e4;exact c8 rfl
theorem XA{p:Int}(hn:1<=n)(po:n<=9223372036854775807)(hp:0<=p/\p<=255){a0 a1 a2 a3 a4 a5:DV}(hg:Gf 225 [a0,a1,a2,a3,a4,a5,.i n,.i (dc (n*p)),.i (dW (n*p))] rs):rs=[.i p]:=by
 refine bV (R:=fun rs=>rs=[DV.i p]) ajY ?_ hg;have h1:=rS po hp.1;have h2:=j7 (show 0<=n by omega) hp.1;refine bp fun r1 g1=>?_;have g1:Gf 198 [.i (dc (n*p)),.i (dW (n*p)),.i n] r1:=aP bD (bR (by simp)) g1;obtain rfl:=afb (by constructor<;>omega) hn po g1;rw[Int.mul_ediv_cancel_left _ (by omega)];refine bp fun r2 g2=>?_;have g2:Gf 199 [.i (dc p),.i (dW p)] r2:=aP bD (bR (by simp)) g2;obtain rfl:=XB (by constructor<;>omega) g2;exact c8 rfl
theorem abJ(hg:Gf 222 ds rs):rs.length=22/\nm rs 21=ar rs/\0<=ar rs/\ar rs<=9223372036854775807/\(ar rs=0->ar ds=0)/\∀k,3<=k->k<=6->∀p,nm ds k=p->nm ds (7+k)=p->nm ds (14+k)=p->nm rs k=p/\nm rs (7+k)=p/\nm rs (14+k)=p:=by
 refine bV (R:=fun rs=>rs.length=22/\nm rs 21=ar rs/\0<=ar rs/\ar rs<=9223372036854775807/\(ar rs=0->ar ds=0)/\∀k,3<=k->k<=6->∀p,nm ds k=p->nm ds (7+k)=p->nm ds (14+k)=p->nm rs k=p/\nm rs (7+k)=p/\nm rs (14+k)=p) ajW ?_ hg;refine bp fun r1 g1=>?_;have g1:=aP bD (bR (by simp)) g1;obtain⟨e1,i1⟩:=zk g1;have e1:r1=[.i (ar ds)]:=e1;have i1:iU (ar ds):=i1;subst e1;have col:∀k,3<=k->k<=6->k=3\/k=4\/k=5\/k=6:=fun k h1 h2=>by omega
 refine lk (fun hc=>?_) (fun hc=>?_)
 . have hc:ar ds<0:=mW hc;refine bh fun h=>?_;have h:iU (0-ar ds):=Ae h;have et:=Xy (nm ds 0) (nm ds 1) (nm ds 7) (nm ds 8) (nm ds 14) (nm ds 15);have et:Ar (nm ds 0) (nm ds 1) (nm ds 14) (nm ds 15) (nm ds 7) (nm ds 8) = -ar ds:=et;refine c8 ⟨rfl,?_,?_,?_,?_,?_⟩;show 0-ar ds=Ar (nm ds 0) (nm ds 1) (nm ds 14) (nm ds 15) (nm ds 7) (nm ds 8);omega;show 0<=Ar (nm ds 0) (nm ds 1) (nm ds 14) (nm ds 15) (nm ds 7) (nm ds 8);omega;show Ar (nm ds 0) (nm ds 1) (nm ds 14) (nm ds 15) (nm ds 7) (nm ds 8)<=_;omega;intro h0;have h0:Ar (nm ds 0) (nm ds 1) (nm ds 14) (nm ds 15) (nm ds 7) (nm ds 8)=0:=h0;omega
   . intro k h1 h2 p q0 q1 q2;rcases col k h1 h2 with rfl|rfl|rfl|rfl
     all_goals exact⟨q0,q2,q1⟩
 . have hc:¬ ar ds<0:=Jq hc;refine c8 ⟨rfl,rfl,?_,i1.2,fun h=>h,?_⟩;show 0<=ar ds;omega
   . intro k h1 h2 p q0 q1 q2;rcases col k h1 h2 with rfl|rfl|rfl|rfl
     all_goals exact⟨q0,q1,q2⟩
theorem XC:qX 254=some ⟨(qX 254).get!.args,(qX 254).get!.res,0⟩:=by kernel_rfl
theorem kd7(hg:∃ds,Gf 254 ds rs):∃b0 b1 b2 b3 b4 b5 b6,rs=[DV.i b0,.i b1,.i b2,.i b3,.i b4,.i b5,.i b6]:=by
 obtain⟨ds,hg⟩:=hg;have:=bD.kd 254 _ ds rs XC hg;rw[show bL (bW.res ⟨(qX 254).get!.args,(qX 254).get!.res,0⟩)=[.c i6,.c (.i .u64),.c i6,.c (.i .u64),.c i6,.c (.i .u64),.c i6]from by kernel_rfl]at this;obtain⟨b0,r0,rfl,k0⟩:=Kh this;obtain⟨b1,r1,rfl,k1⟩:=Kh k0;obtain⟨b2,r2,rfl,k2⟩:=Kh k1;obtain⟨b3,r3,rfl,k3⟩:=Kh k2;obtain⟨b4,r4,rfl,k4⟩:=Kh k3;obtain⟨b5,r5,rfl,k5⟩:=Kh k4;obtain⟨b6,r6,rfl,k6⟩:=Kh k5;obtain rfl:=aa2 k6;exact⟨b0,b1,b2,b3,b4,b5,b6,rfl⟩
abbrev pl(A p n:Int):List DV:=[.i (dc (A*p)),.i (dW (A*p)),.i 0,.i 0,.i 0,.i 0,.i n]
theorem Sv{p:Nat->Int}(hp:∀k,k<4->0<=p k/\p k<=255)(h:∀k,k<4->nm ds (3+k)=p k/\nm ds (10+k)=p k/\nm ds (17+k)=p k)(hg:Gf 223 ds rs) :
   ∃b0 b1 b2 b3 b4 b5 b6,rs=[DV.i b0,.i b1,.i b2,.i b3,.i b4,.i b5,.i b6]++(pl (ar ds) (p 0) (nm ds 21)++(pl (ar ds) (p 1) (nm ds 21)++(pl (ar ds) (p 2) (nm ds 21)++pl (ar ds) (p 3) (nm ds 21)))):=by
 refine bV (R:=fun rs=>∃b0 b1 b2 b3 b4 b5 b6,rs=[DV.i b0,.i b1,.i b2,.i b3,.i b4,.i b5,.i b6]++(pl (ar ds) (p 0) (nm ds 21)++(pl (ar ds) (p 1) (nm ds 21)++(pl (ar ds) (p 2) (nm ds 21)++pl (ar ds) (p 3) (nm ds 21))))) ajV ?_ hg;have h0:=h 0 (by omega);have h1:=h 1 (by omega);have h2:=h 2 (by omega);have h3:=h 3 (by omega)
 refine bp fun r1 g1=>?_;have g1:=aP bD (bR (by simp)) g1;obtain⟨b0,b1,b2,b3,b4,b5,b6,rfl⟩:=kd7 ⟨_,g1⟩;refine bp fun r2 g2=>?_;have g2:=aP bD (bR (by simp)) g2;have e2:=AV (hp 0 (by omega)) h0.1 h0.2.1 h0.2.2 g2;have e2:r2=pl (ar ds) (p 0) (nm ds 21):=e2;subst e2;refine bp fun r3 g3=>?_;have g3:=aP bD (bR (by simp)) g3;have e3:=AV (hp 1 (by omega)) h1.1 h1.2.1 h1.2.2 g3;have e3:r3=pl (ar ds) (p 1) (nm ds 21):=e3;subst e3;refine bp fun r4 g4=>?_;have g4:=aP bD (bR (by simp)) g4;have e4:=AV (hp 2 (by omega)) h2.1 h2.2.1 h2.2.2 g4;have e4:r4=pl (ar ds) (p 2) (nm ds 21):=e4;subst e4;refine bp fun r5 g5=>?_;have g5:=aP bD (bR (by simp)) g5;have e5:=AV (hp 3 (by omega)) h3.1 h3.2.1 h3.2.2 g5;have e5:r5=pl (ar ds) (p 3) (nm ds 21):=e5;subst e5;exact c8 ⟨b0,b1,b2,b3,b4,b5,b6,rfl⟩
end
end Go.Proofs.YtohebioanhliiaaGreatDoor.av

/- From a law's contract to a row's step. -/
import Derived.Test.YtohebioanhliiaaGreatDoorFA4
import Derived.Deep.Slices
import Derived.OpenShut
import Derived.ProofKit
set_option linter.unusedVariables false
set_option linter.unusedSimpArgs false
namespace Go.Sx
section
open Go.RowKit Go.WideShapes Go.ChangeShapes
variable {H:Type}{enc:TypeId×Value->H}{P:Program}{w:World}{base:Nat}{spare:Nat->Bool}{held:Bool}
variable{β α:Type}{R:α->Value->β->Prop}
def xl{α:Type}(P:Program)(g:TypeId->Option (List α)):Nat->List Field->Option (List α)
 |_,[]=>some []
 | off,f::fs=>if f.offset=off then(match g f.type with
   | some m=>if P.cellsOf f.type=m.length then(match xl P g (off+m.length) fs with
     |some r=>some (m++r)
     |none=>none)else none
   |none=>none)else none
def sr{α:Type}(P:Program)(leaf:TypeId->Option α):Nat->TypeId->Option (List α)
 |0,_=>none
 | n+1,t=>match leaf t with
   |some a=>some [a]
   | none=>match P.underlying t with
     |some (.struct fs)=>xl P (sr P leaf n) 0 fs.toList
     | some (.array len e)=>match sr P leaf n e with
       |some m=>if P.cellsOf e=m.length then some (List.replicate len m).flatten else none
       |none=>none
     |_=>none
def dI{α β:Type}(R:α->Value->β->Prop):List α->List Value->List β->Prop
 | [],[],[]=>True
 |c::cs,v::vs,d::ds=>R c v d/\dI R cs vs ds
 |_,_,_=>False
theorem qo:∀ {cs qG:List α} {vs N1:List Value} {ds xJ:List β},dI R cs vs ds->dI R qG N1 xJ->dI R (cs++qG) (vs++N1) (ds++xJ):=by
 intro cs;induction cs with
 |nil=>intro qG vs N1 ds xJ h h';cases vs<;>cases ds<;>simp_all[dI]
 | cons c cs ih=>
   intro qG vs N1 ds xJ h h';cases vs with
   |nil=>simp[dI]at h
   | cons v vs=>cases ds with
     |nil=>simp[dI]at h
     |cons d ds=>exact⟨h.1,ih h.2 h'⟩
theorem I3:∀ {cs:List α} {vs:List Value} {ds:List β},dI R cs vs ds->vs.length=cs.length/\ds.length=cs.length:=by
 intro cs;induction cs with
 |nil=>intro vs ds h;cases vs<;>cases ds<;>simp_all[dI]
 | cons c cs ih=>
   intro vs ds h;cases vs with
   |nil=>simp[dI]at h
   | cons v vs=>cases ds with
     |nil=>simp[dI]at h
     |cons d ds=>have:=ih h.2;simp[this.1,this.2]
theorem wb{Q:β->DataW H->Prop}{leaf:TypeId->Option α}(hQ:∀b d parts,d∈parts->Q b d->Q b (.agg parts))
   (xc:∀t a fuel cs x,leaf t=some a->DataW.trod enc P w base spare held fuel t cs=some x->∃v b,cs=[v]/\R a v b/\Q b x.1) :
   ∀ {n:Nat} {t:TypeId} {as:List α} {fuel:Nat} {cs:List Value} {x:DataW H×List MemPlace},sr P leaf n t=some as->(leaf t=none->P.cellsOf t=as.length)->DataW.trod enc P w base spare held fuel t cs=some x->
     ∃bs,dI R as cs bs/\∀b∈bs,Q b x.1:=by
 intro n;induction n with
 |zero=>intro t as fuel cs x h;simp[sr]at h
 | succ n ih=>
   intro t as fuel cs x h hC ht;simp only[sr]at h;split at h;rename_i a ha;simp only[ah]at h;subst h;obtain⟨v,b,rfl,hr,hq⟩:=xc t a fuel cs x ha ht;exact⟨[b],⟨hr,trivial⟩,fun b' nC=>by simp at nC;subst nC;exact hq⟩;rename_i hl;have hC:=hC hl;have Xv:∀ {t:TypeId} {as:List α} {fuel:Nat} {cs:List Value} {x:DataW H×List MemPlace},sr P leaf n t=some as->P.cellsOf t=as.length->DataW.trod enc P w base spare held fuel t cs=some x->∃bs,dI R as cs bs/\∀b∈bs,Q b x.1:=
     fun h1 h2 h3=>ih h1 (fun _=>h2) h3
   split at h;rename_i fs hu;obtain⟨xs,m,_,rfl,hlen,qw,hf⟩:=DataW.trod_struct hu ht;rw[hC]at hlen;have key:∀(l:List Field) (off:Nat) (r:List α),xl P (sr P leaf n) off l=some r->off+r.length=cs.length->(∀f∈l,∃y∈xs,DataW.trod enc P w base spare held m f.type ((cs.drop f.offset).take (P.cellsOf f.type))=some y)->
       ∃bs,dI R r (cs.drop off) bs/\∀b∈bs,Q b (.agg (xs.map (·.1))):=by
     intro l;induction l with
     | nil=>
       intro off r h hl _;simp only[xl,ah]at h;subst h;refine⟨[],?_,fun b hb=>by simp at hb⟩;rw[wN (by simp at hl;omega)];trivial
     | cons f l ihl=>
       intro off r h hl cJ;simp only[xl]at h;split at h;rename_i ho;split at h;rename_i mm hm;split at h;rename_i pc;split at h;rename_i r' dj;simp only[ah]at h;subst h;obtain⟨y,hy,hty⟩:=cJ f (aZ ..);obtain⟨bs1,h1,h2⟩:=Xv hm pc hty;obtain⟨bs2,h3,h4⟩:=ihl (off+mm.length) r' dj (by simp at hl;omega) (fun f hf=>cJ f (bI _ hf));refine⟨bs1++bs2,?_,fun b hb=>?_⟩;have e:cs.drop off=(cs.drop off).take mm.length++cs.drop (off+mm.length):=by
         rw[<- List.drop_drop,D9]
       rw[e];rw[ho,pc]at h1;exact qo h1 h3;rcases jS.1 hb with hb|hb;exact hQ b y.1 _ (List.mem_map_of_mem hy) (h2 b hb);exact h4 b hb;cases h;cases h;cases h;cases h
   have:=key fs.toList 0 as h (by omega) (fun f bD=>by
     obtain⟨i,hi⟩:=List.mem_iff_getElem?.1 bD;have Et:fs[i]?=some f:=by simpa using hi
     have h1:=hf i f Et;have cM:i<xs.length:=by rw[qw];exact(sy.1 Et).1
     rw[eN cM]at h1;exact⟨_,List.getElem_mem cM,h1⟩)
   simpa using this;rename_i len e hu;split at h;rename_i mm hm;split at h;rename_i pc;simp only[ah]at h;subst h;obtain⟨xs,m,_,rfl,hlen,qw,hf⟩:=DataW.trod_array hu ht;rw[hC]at hlen;have Ua:∀k:Nat,(List.replicate k mm).flatten.length=k*mm.length:=fun k=>by simp
   rw[Ua]at hlen;have key:∀k i:Nat,i+k=len->∃bs,dI R (List.replicate k mm).flatten (cs.drop (i*mm.length)) bs/\∀b∈bs,Q b (.agg (xs.map (·.1))):=by
     intro k;induction k with
     | zero=>
       intro i hi;have:i=len:=by omega
       subst this;refine⟨[],?_,fun b hb=>by simp at hb⟩;rw[wN (by omega)];trivial
     | succ k ihk=>
       intro i hi;have h1:=hf i (by omega);rw[eN (by omega),pc]at h1;obtain⟨bs1,g1,g2⟩:=Xv hm pc h1;obtain⟨bs2,g3,g4⟩:=ihk (i+1) (by omega);refine⟨bs1++bs2,?_,fun b hb=>?_⟩;have e1:cs.drop (i*mm.length)=(cs.drop (i*mm.length)).take mm.length++cs.drop ((i+1)*mm.length):=by
         rw[lY,Nat.one_mul,<- List.drop_drop,D9]
       have e2:(List.replicate (k+1) mm).flatten=mm++(List.replicate k mm).flatten:=by simp[List.replicate_succ]
       rw[e1,e2];exact qo g1 g3;rcases jS.1 hb with hb|hb;exact hQ b _ _ (List.mem_map_of_mem (List.getElem_mem (by omega))) (g2 b hb);exact g4 b hb
   have:=key len 0 (by omega);simpa using this;cases h;cases h;cases h
def nd:CK->Int->Prop
 |.i k,n=>k.min<=n/\n<=k.max
 |.b,n=>n=0\/n=1
 |.f,_=>True
def zq:List CK->List Int->Prop
 | [],[]=>True
 |k::ks,n::ns=>nd k n/\zq ks ns
 |_,_=>False
def Pq(P:Program)(t:TypeId):Option CK:=
 match P.underlying t with
 |some (.int k)=>some (.i k)
 |some .bool=>some .b
 |_=>none
def Dt(P:Program)(t:TypeId):Option CT:=
 match P.underlying t with
 |some (.int k)=>some (.c (.i k))
 |some .bool=>some (.c .b)
 | some (.slice e)=>match sr P (Pq P) 16 e with
   |some ks=>if 0<ks.length/\P.cellsOf e=ks.length then some (.s e ks)else none
   |none=>none
 |_=>none
theorem Pr{k:IntKind}{n:Int}(h:(Lit.int k n).wf=true):k.min<=n/\n<=k.max:=by simpa[Lit.wf]using h
theorem I4:∀ {ks:List CK} {vs:List Value} {row:List Int} (pre:List Int),dI (fun k v n=>v=k.val n/\nd k n) ks vs row->vs=bU ks pre.length (pre++row)/\zq ks row:=by
 intro ks;induction ks with
 |nil=>intro vs row pre h;cases vs<;>cases row<;>simp_all[dI,bU,zq]
 | cons k ks ih=>
   intro vs row pre h;cases vs with
   |nil=>simp[dI]at h
   | cons v vs=>cases row with
     |nil=>simp[dI]at h
     | cons n row=>
       obtain⟨⟨h1,h2⟩,h3⟩:=h;obtain⟨e1,e2⟩:=ih (pre++[n]) h3;refine⟨?_,h2,e2⟩;simp only[bU];rw[h1,e1];congr 1;simp[List.getD];simp
theorem Pu{t:TypeId}{ks:List CK}{fuel:Nat}{cs:List Value}{x:DataW H×List MemPlace}(hk:sr P (Pq P) 16 t=some ks)(hC:P.cellsOf t=ks.length)(h:DataW.trod enc P w base spare held fuel t cs=some x) :
   ∃row,cs=bU ks 0 row/\zq ks row:=by
 obtain⟨row,h1,_⟩:=wb (R:=fun k v n=>v=k.val n/\nd k n) (Q:=fun _ _=>True) (fun _ _ _ _ _=>trivial) (fun t a fuel cs x ha ht=>by
   unfold Pq at ha;split at ha;rename_i k hu;simp only[ah]at ha;subst ha;obtain⟨n,rfl,_,hw⟩:=DataW.trod_int hu ht;exact⟨_,n,rfl,⟨rfl,Pr hw⟩,trivial⟩;rename_i hu;simp only[ah]at ha;subst ha;obtain⟨b,rfl,_⟩:=DataW.trod_bool hu ht;refine⟨_,if b then 1 else 0,rfl,⟨?_,?_⟩,trivial⟩;cases b<;>simp[CK.val];cases b<;>simp[nd];cases ha) hk (fun _=>hC) h
 obtain⟨e1,e2⟩:=I4 [] h1;exact⟨row,by simpa using e1,e2⟩
def ac0:NK->Int×List Int->Prop
 |.c k,d=>nd k d.1/\d.2=[]
 |.s _ k,d=>d.1=(d.2.length:Int)/\d.2.length<=maxLen/\∀x∈d.2,nd k x
def zr:List NK->List (Int×List Int)->Prop
 | [],[]=>True
 |k::ks,d::ds=>ac0 k d/\zr ks ds
 |_,_=>False
def wg(ds:List (Int×List Int)):List Int:=ds.map (·.1)++ds.flatMap (·.2)
def ZJ:CT->DV->Prop
 |.c (.i k),.i n=>nd (.i k) n
 |.c .b,.b _=>True
 |.s _ ks,.l xs=>xs.length<=maxLen/\∀row∈xs,zq ks row
 |.n _ aU,.l xs=>xs.length<=maxLen/\∀row∈xs,∃ds,row=wg ds/\zr aU ds
 |_,_=>False
def I5(w:World):CT->Value->DV->Prop:=fun c v d=>lq (mZ w) c v d/\ZJ c d
theorem I6{w:World}:∀ {cs:List CT} {vs:List Value} {ds:List DV},dI (I5 w) cs vs ds->fitAll (mZ w) cs vs ds:=by
 intro cs;induction cs with
 |nil=>intro vs ds h;cases vs<;>cases ds<;>simp_all[dI,fitAll]
 | cons c cs ih=>
   intro vs ds h;cases vs with
   |nil=>simp[dI]at h
   | cons v vs=>cases ds with
     |nil=>simp[dI]at h
     |cons d ds=>exact⟨h.1.1,ih h.2⟩
theorem Ba{B:DataW H->Nat}(hB:∀es sp,List.length es<=B (.slice es sp))(t:TypeId)(a:CT)(fuel:Nat)(cs:List Value)(x:DataW H×List MemPlace)(ha:Dt P t=some a)(ht:DataW.trod enc P w base spare held fuel t cs=some x) :
   ∃v b,cs=[v]/\I5 w a v b/\(∀xs,b=DV.l xs->xs.length<=B x.1):=by
 unfold Dt at ha;split at ha;rename_i k hu;simp only[ah]at ha;subst ha;obtain⟨n,rfl,_,hw⟩:=DataW.trod_int hu ht;exact⟨_,.i n,rfl,⟨rfl,Pr hw⟩,fun xs h=>by cases h⟩;rename_i hu;simp only[ah]at ha;subst ha;obtain⟨b,rfl,_⟩:=DataW.trod_bool hu ht;exact⟨_,.b b,rfl,⟨rfl,trivial⟩,fun xs h=>by cases h⟩;rename_i e hu;split at ha;rename_i ks ot;split at ha;rename_i hc;simp only[ah]at ha;subst ha;rcases Go.Deep.open_slice hu ht with⟨rfl,rfl⟩|⟨a,len,cap,m,n,D,Pl,rfl,hb,hl,hm,hmm,rfl,hi⟩;refine⟨_,.l [],rfl,⟨⟨hc.1,none,0,rfl,⟨Nat.zero_le _,Nat.zero_le _⟩,fun _=>⟨rfl,rfl⟩,fun j u hj=>by simp[aJ]at hj⟩,Nat.zero_le _,fun row hr=>by simp at hr⟩,fun xs h=>by cases h;exact Nat.zero_le _⟩;have hle:len<=m:=by rw[hmm];split<;>omega
 have bB:∀i,i<len->∃row,(∃qG,w.cells? base (a.add (i*ks.length)) ks.length=some qG/\qG=bU ks 0 row)/\zq ks row:=fun i hil=>by
   obtain⟨qG,h1,h2⟩:=hi i (by omega);obtain⟨row,h3,h4⟩:=Pu ot hc.2 h2;rw[hc.2]at h1;exact⟨row,⟨qG,h1,h3⟩,h4⟩
 have cJ:∀k,k<=len->∃xs:List (List Int),xs.length=k/\(∀i,i<k->∃row,xs[i]?=some row/\zq ks row/\w.cells? base (a.add (i*ks.length)) ks.length=some (bU ks 0 row)):=by
   intro k;induction k with
   |zero=>intro _;exact⟨[],rfl,fun i h=>by omega⟩
   | succ k ih=>
     intro hk;obtain⟨xs,qw,hx⟩:=ih (by omega);obtain⟨row,⟨qG,h1,rfl⟩,h2⟩:=bB k (by omega);refine⟨xs++[row],by simp[qw],fun i hik=>?_⟩;rcases oH i k with h|h;obtain⟨r,e1,e2⟩:=hx i h;exact⟨r,by rw[p9 (by omega)];exact e1,e2⟩;have:i=k:=by omega
     subst this;exact⟨row,by rw[qv (by omega)];simp[qw],h2,h1⟩
 obtain⟨xs,qw,hx⟩:=cJ len (ga _);have iP:∀row∈xs,zq ks row:=fun row bB=>by
   obtain⟨i,hi⟩:=List.mem_iff_getElem?.1 bB;obtain⟨r,e1,e2,_⟩:=hx i (by have:=(dw.1 hi).1;omega);rw[hi,ah]at e1;subst e1;exact e2
 refine⟨_,.l xs,rfl,⟨⟨hc.1,some a,cap,by rw[qw],⟨by omega,by omega⟩,fun h=>(by cases h),fun j u hj=>⟨a,rfl,?_⟩⟩,by omega,iP⟩,fun ys h=>(by cases h;exact lN (by simp[qw]) (hB _ _))⟩;have H8:j<xs.length*ks.length:=by rw[<- bV];exact(dw.1 hj).1
 have hq:j/ks.length<xs.length:=Nat.div_lt_of_lt_mul (by rw[Nat.mul_comm];exact H8);have hr:j%ks.length<ks.length:=Nat.mod_lt _ hc.1;have hjj:j=(j/ks.length)*ks.length+j%ks.length:=by rw[Nat.mul_comm];exact(Nat.div_add_mod j ks.length).symm
 obtain⟨row,e1,e2,e3⟩:=hx (j/ks.length) (by omega);obtain⟨_,_,LH⟩:=World.cells?_some e3;have h1:=LH (j%ks.length) hr;rw[hjj,nE ks xs _ _ hq hr]at hj;rw[jv]at h1;simp only[cm,e1,Option.getD_some]at hj;simp only[fR,cm]at h1;rw[hj]at h1;rw[hjj,<- h1];congr 1;rw[iF];cases ha;cases ha;cases ha
end
section
open Go.RowKit Go.WideShapes Go.ChangeShapes
variable {H:Type}{enc:TypeId×Value->H}{P:Program}{w:World}{base:Nat}{spare:Nat->Bool}{held:Bool}
variable{aU:List NK}{d:Int×List Int}{ds:List (Int×List Int)}{j:Nat}
theorem MK:∀ {aU:List NK} {ds:List (Int×List Int)},zr aU ds->ds.length=aU.length:=by
 intro aU;induction aU with
 | nil=>intro ds h;cases ds with
   |nil=>rfl
   |cons _ _=>exact h.elim
 | cons k aU ih=>intro ds h;cases ds with
   |nil=>exact h.elim
   |cons d ds=>simp[ih h.2]
theorem Ve:∀ {aU:List NK} {ds:List (Int×List Int)} (rest:List Int) {j:Nat} {d:Int×List Int},zr aU ds->ds[j]?=some d->qj aU (ds.map (·.1)) (ds.flatMap (·.2)++rest) j=d.2:=by
 intro aU;induction aU with
 | nil=>intro ds rest j d h hd;cases ds with
   |nil=>simp at hd
   |cons _ _=>exact h.elim
 | cons k aU ih=>intro ds rest j d h hd;cases ds with
   |nil=>exact h.elim
   | cons d0 ds=>
     cases k with
     | c k=>
       have h2:d0.2=[]:=h.1.2;cases j with
       |zero=>simp only[kK,ah]at hd;subst hd;rw[h2];rfl
       | succ j=>
         simp only[Am]at hd;have:=ih rest h.2 hd;simpa[qj,h2]using this
     | s e k=>
       have h1:d0.1=(d0.2.length:Int):=h.1.1;cases j with
       | zero=>
         simp only[kK,ah]at hd;subst hd;simp[qj,h1]
       | succ j=>
         simp only[Am]at hd;have:=ih rest h.2 hd;simpa[qj,h1]using this
theorem Du(h:zr aU ds)(hd:ds[j]?=some d):eU aU (wg ds) j=d.2:=by
 have hl:=MK h;unfold eU wg;rw[Eo (by simp[hl]),qB (by simp[hl]),Ip (by simp[hl]),wN (by simp[hl])];have:=Ve [] h hd;simpa using this
theorem Bb(h:zr aU ds)(hd:ds[j]?=some d):(wg ds).getD j 0=d.1:=by
 have hj:=(dw.1 hd).1;unfold wg;rw[cm,p9 (by simpa using hj),iS,hd];rfl
def Kt(P:Program)(t:TypeId):Option NK:=match Dt P t with
 |some (.c k)=>some (.c k)
 |some (.s e [k])=>some (.s e k)
 |_=>none
def Bc(P:Program)(t:TypeId):Option CT:=match Dt P t with
 |some a=>some a
 | none=>match P.underlying t with
   | some (.slice e)=>match sr P (Kt P) 16 e with
     |some aU=>if 0<aU.length/\P.cellsOf e=aU.length then some (.n e aU)else none
     |none=>none
   |_=>none
def nR(w:World)(nk:NK)(v:Value)(d:Int×List Int):Prop:=sf (fun k=>k<w.heap.size) w nk d.1 d.2 v/\ac0 nk d
theorem I7(t:TypeId)(a:NK)(fuel:Nat)(cs:List Value)(x:DataW H×List MemPlace)(ha:Kt P t=some a)(ht:DataW.trod enc P w base spare held fuel t cs=some x):∃v d,cs=[v]/\nR w a v d:=by
 unfold Kt at ha;have key:=fun c hc=>Ba (B:=fun d=>match d with| .slice es _=>es.length|_=>0) (fun es sp=>ga _) t c fuel cs x hc ht;split at ha;rename_i k hk;simp only[ah]at ha;subst ha;obtain⟨v,b,rfl,⟨h1,h2⟩,_⟩:=key _ hk;cases k with
 | i k=>cases b with
   |i n=>exact⟨v,(n,[]),rfl,h1,h2,rfl⟩
   |b _=>exact h2.elim
   |l _=>exact h2.elim
 | b=>cases b with
   |b n=>exact⟨v,(if n then 1 else 0,[]),rfl,by have h1:v = .bool n:=h1;rw[h1];cases n<;>rfl,by cases n<;>simp[nd],rfl⟩
   |i _=>exact h2.elim
   |l _=>exact h2.elim
 |f=>exact h2.elim
 rename_i e k hk;simp only[ah]at ha;subst ha;obtain⟨v,b,rfl,⟨h1,h2⟩,_⟩:=key _ hk;cases b with
 |i _=>exact h2.elim
 |b _=>exact h2.elim
 | l xs=>
   obtain⟨hl,iP⟩:=h2;have hr:∀row∈xs,∃n,row=[n]/\nd k n:=fun row bB=>by
     have:=iP row bB
     match row,this with
     | [n],h=>exact⟨n,rfl,h.1⟩
   have hx:∀xs:List (List Int),(∀row∈xs,∃n,row=[n]/\nd k n)->∃ns:List Int,xs=ns.map (fun n=>[n])/\∀n∈ns,nd k n:=by
     intro xs;induction xs with
     |nil=>intro _;exact⟨[],rfl,fun n h=>by simp at h⟩
     | cons r xs ih=>
       intro h;obtain⟨n,rfl,hn⟩:=h r (aZ ..);obtain⟨ns,rfl,ES⟩:=ih fun row bB=>h row (bI _ bB);exact⟨n::ns,rfl,fun m hm=>(bC.1 hm).elim (fun e=>e▸hn) (ES m)⟩
   obtain⟨ns,rfl,ES⟩:=hx xs hr;have h1:0 < [k].length/\Reads w v (ns.map fun n=>[n]).length (aJ [k] (ns.map fun n=>[n])):=h1;obtain⟨_,h1⟩:=h1;rw[qd]at h1 hl;refine⟨v,(ns.length,ns),rfl,⟨rfl,h1,fun da b hb=>?_⟩,rfl,hl,ES⟩;obtain⟨a,cap,rfl,_,_,jc⟩:=h1
   match ns,da with
   | n::ns,_=>
     obtain⟨a,rfl,ha⟩:=jc 0 (k.val n) rfl;simp only[Value.ownBlock,ah]at hb;have:=World.block_lt_of_cell? w (a.add 0) ha;rw[Addr.add_zero']at this;omega
 cases ha
theorem Dv{α β:Type}{R:α->Value->β->Prop}:∀ {cs:List α} {vs:List Value} {ds:List β},dI R cs vs ds->∀ {j:Nat} {c:α},cs[j]?=some c->∃v d,vs[j]?=some v/\ds[j]?=some d/\R c v d:=by
 intro cs;induction cs with
 |nil=>intro vs ds h j c hc;simp at hc
 | cons c cs ih=>
   intro vs ds h j c' hc;cases vs with
   |nil=>exact h.elim
   | cons v vs=>cases ds with
     |nil=>exact h.elim
     | cons d ds=>cases j with
       |zero=>simp only[kK,ah]at hc;subst hc;exact⟨v,d,rfl,rfl,h.1⟩
       |succ j=>exact ih h.2 (by simpa using hc)
theorem Bd{w:World}:∀ {aU:List NK} {vs:List Value} {ds:List (Int×List Int)},dI (nR w) aU vs ds->zr aU ds:=by
 intro aU;induction aU with
 |nil=>intro vs ds h;cases vs<;>cases ds<;>simp_all[dI,zr]
 | cons k aU ih=>
   intro vs ds h;cases vs with
   |nil=>exact h.elim
   | cons v vs=>cases ds with
     |nil=>exact h.elim
     |cons d ds=>exact⟨h.1.2,ih h.2⟩
theorem ML{t:TypeId}{fuel:Nat}{cs:List Value}{x:DataW H×List MemPlace}(hk:sr P (Kt P) 16 t=some aU)(hC:P.cellsOf t=aU.length)(h:DataW.trod enc P w base spare held fuel t cs=some x) :
   ∃ds,dI (nR w) aU cs ds:=by
 obtain⟨ds,h1,_⟩:=wb (R:=nR w) (Q:=fun _ _=>True) (fun _ _ _ _ _=>trivial) (fun t a fuel cs x ha ht=>by
   obtain⟨v,d,h1,h2⟩:=I7 t a fuel cs x ha ht;exact⟨v,d,h1,h2,trivial⟩) hk (fun _=>hC) h
 exact⟨ds,h1⟩
theorem Be{B:DataW H->Nat}(hB:∀es sp,List.length es<=B (.slice es sp))(t:TypeId)(a:CT)(fuel:Nat)(cs:List Value)(x:DataW H×List MemPlace)(ha:Bc P t=some a)(ht:DataW.trod enc P w base spare held fuel t cs=some x) :
   ∃v b,cs=[v]/\I5 w a v b/\(∀xs,b=DV.l xs->xs.length<=B x.1):=by
 unfold Bc at ha;split at ha;rename_i c hc;simp only[ah]at ha;subst ha;exact Ba hB t _ fuel cs x hc ht;split at ha;rename_i e hu;split at ha;rename_i aU ot;split at ha;rename_i hc;simp only[ah]at ha;subst ha;rcases Go.Deep.open_slice hu ht with⟨rfl,rfl⟩|⟨a,len,cap,m,n,D,Pl,rfl,hb,hl,hm,hmm,rfl,hi⟩;refine⟨_,.l [],rfl,⟨⟨hc.1,none,0,rfl,Nat.zero_le _,fun _=>⟨rfl,rfl⟩,fun i r hi=>by simp at hi⟩,Nat.zero_le _,fun row hr=>by simp at hr⟩,fun xs h=>by cases h;exact Nat.zero_le _⟩;have hle:len<=m:=by rw[hmm];split<;>omega
 have bB:∀i,i<len->∃ds,∃qG,w.cells? base (a.add (i*aU.length)) aU.length=some qG/\dI (nR w) aU qG ds:=fun i hil=>by
   obtain⟨qG,h1,h2⟩:=hi i (by omega);obtain⟨ds,h3⟩:=ML ot hc.2 h2;rw[hc.2]at h1;exact⟨ds,qG,h1,h3⟩
 have cJ:∀k,k<=len->∃xs:List (List Int),xs.length=k/\(∀i,i<k->∃ds,xs[i]?=some (wg ds)/\∃qG,w.cells? base (a.add (i*aU.length)) aU.length=some qG/\dI (nR w) aU qG ds):=by
   intro k;induction k with
   |zero=>intro _;exact⟨[],rfl,fun i h=>by omega⟩
   | succ k ih=>
     intro hk;obtain⟨xs,qw,hx⟩:=ih (by omega);obtain⟨ds,sq⟩:=bB k (by omega);refine⟨xs++[wg ds],by simp[qw],fun i hik=>?_⟩;rcases oH i k with h|h;obtain⟨r,e1,e2⟩:=hx i h;exact⟨r,by rw[p9 (by omega)];exact e1,e2⟩;have:i=k:=by omega
     subst this;exact⟨ds,by rw[qv (by omega)];simp[qw],sq⟩
 obtain⟨xs,qw,hx⟩:=cJ len (ga _);refine⟨_,.l xs,rfl,⟨⟨hc.1,some a,cap,by rw[qw],by omega,fun h=>(by cases h),fun i r hir=>⟨a,rfl,?_,fun j nk hj=>?_⟩⟩,by omega,fun row bB=>?_⟩,fun ys h=>(by cases h;exact lN (by simp[qw]) (hB _ _))⟩;obtain⟨ds,_,qG,h1,h2⟩:=hx i (by have:=(dw.1 hir).1;omega);obtain⟨_,_,LH⟩:=World.cells?_some h1;obtain⟨v,d,hv,_⟩:=Dv h2 (eN hc.1);have:=LH 0 hc.1;rw[hv]at this;have:=World.block_lt_of_cell? w _ this;rw[kR,kR]at this;exact this;obtain⟨ds,e1,qG,h1,h2⟩:=hx i (by have:=(dw.1 hir).1;omega);rw[hir,ah]at e1;subst e1;obtain⟨_,_,LH⟩:=World.cells?_some h1;obtain⟨v,d,hv,hd,hn⟩:=Dv h2 hj;have h3:=LH j (dw.1 hj).1;rw[hv,iF]at h3;have ot:=Bd h2;refine⟨v,h3,?_⟩;rw[Bb ot hd,Du ot hd];exact hn.1;obtain⟨i,hir⟩:=List.mem_iff_getElem?.1 bB;obtain⟨ds,e1,qG,h1,h2⟩:=hx i (by have:=(dw.1 hir).1;omega);rw[hir,ah]at e1;exact⟨ds,e1,Bd h2⟩;cases ha;cases ha;cases ha
end
section
open Go.RowKit Go.WideShapes Go.ChangeShapes
variable {H:Type}{enc:TypeId×Value->H}{P:Program}
variable{W:World}{B:DataW H->Nat}{b0:Nat}{t:TypeId}{c:CT}
def MN(P:Program)(t:TypeId):VT->Bool
 |.one c=>decide (Bc P t=some c)
 | .agg cs=>(match P.underlying t with
   |some (.struct _)=>true
   |some (.array _ _)=>true
   |_=>false)&&decide (sr P (Bc P) 16 t=some cs)&&decide (P.cellsOf t=cs.length)&&decide (Bc P t=none)
 |.ptr _ _=>false
 |.fn _ _=>false
def Dw(P:Program):List TypeId->List VT->Bool
 | [],[]=>true
 |t::ts,v::vs=>MN P t v&&Dw P ts vs
 |_,_=>false
def G6:List CT->List DV->Prop
 | [],[]=>True
 |c::cs,d::ds=>ZJ c d/\G6 cs ds
 |_,_=>False
theorem MO{w:World}:∀ {cs:List CT} {vs:List Value} {ds:List DV},dI (I5 w) cs vs ds->G6 cs ds:=by
 intro cs;induction cs with
 |nil=>intro vs ds h;cases vs<;>cases ds<;>simp_all[dI,G6]
 | cons c cs ih=>
   intro vs ds h;cases vs with
   |nil=>simp[dI]at h
   | cons v vs=>cases ds with
     |nil=>simp[dI]at h
     |cons d ds=>exact⟨h.1.2,ih h.2⟩
theorem MP(h:Dt P t=some c):(∃k,P.underlying t=some (.int k))\/P.underlying t=some .bool\/∃e,P.underlying t=some (.slice e):=by
 unfold Dt at h;split at h;rename_i k hu;exact .inl ⟨k,hu⟩;rename_i hu;exact .inr (.inl hu);rename_i e hu;exact .inr (.inr ⟨e,hu⟩);cases h
theorem MQ(h:Bc P t=some c):(∃k,P.underlying t=some (.int k))\/P.underlying t=some .bool\/∃e,P.underlying t=some (.slice e):=by
 unfold Bc at h;split at h;rename_i a ha;exact MP ha;split at h;rename_i e hu;exact .inr (.inr ⟨e,hu⟩);cases h
theorem Pv(hB:∀es sp,List.length es<=B (.slice es sp))(hB2:∀d parts,d∈parts->B d<=B (.agg parts)){vt:VT}{v:Value}{d:DataW H}{p:List MemPlace}(hv:MN P t vt=true)
   (iA:Value.okWide P W .any b0 t v) (h:DataW.Trod enc P W 0 (fun _=>true) true t v d p) :
   ∃b9 F7,dI (I5 W) vt.bP b9 F7/\(∀ts rest,cw (vt::ts) (b9++rest)=v::cw ts rest)/\∀xs,DV.l xs∈F7->xs.length<=B d:=by
 obtain⟨fuel,hf⟩:=h;cases vt with
 |ptr e k=>simp[MN]at hv
 |fn g cs=>simp[MN]at hv
 | one c=>
   simp only[MN,aO]at hv;obtain⟨v',b,jc,hr,hq⟩:=Be (B:=B) hB t c fuel _ _ hv hf;have hvv:v.cells.toList=[v]:=by
     rcases MQ hv with⟨k,hu⟩|hu|⟨e,hu⟩;obtain⟨n,rfl⟩:=okWide_int hu iA;rfl;obtain⟨n,rfl⟩:=okWide_bool hu iA;rfl;obtain⟨a,len,cap,rfl⟩:=okWide_slice hu iA;rfl
   rw[hvv]at jc;simp only[List.cons.injEq,and_true]at jc;subst jc;refine⟨[v],[b],⟨hr,trivial⟩,fun ts rest=>rfl,fun xs hx=>?_⟩;simp only[iE]at hx;exact hq xs hx.symm
 | agg cs=>
   simp only[MN,ao,aO]at hv;obtain⟨⟨⟨Ur,XP⟩,hv3⟩,hv4⟩:=hv;obtain⟨c,rfl⟩:∃c,v = .agg c:=by
     unfold Value.okWide at iA;split at Ur;rename_i hu;rw[hu]at iA;obtain⟨c,h,_⟩:=iA;exact⟨c,h⟩;rename_i hu;rw[hu]at iA;obtain⟨c,h,_⟩:=iA;exact⟨c,h⟩;cases Ur
   obtain⟨bs,h1,h2⟩:=wb (R:=I5 W) (Q:=fun b (d:DataW H)=>∀xs,b=DV.l xs->xs.length<=B d) (fun b d parts hm hq xs hx=>lN (hq xs hx) (hB2 d parts hm)) (Be hB) XP (fun _=>hv3) hf;have hl:=(I3 h1).1;refine⟨_,bs,h1,fun ts rest=>?_,fun xs hx=>h2 _ hx xs rfl⟩;simp only[cw,VT.bP]at hl ⊢;rw[Eo (by omega),qB (by omega),Ip (by omega),wN (by omega)];rfl
theorem MR(hB:∀es sp,List.length es<=B (.slice es sp))(hB2:∀d parts,d∈parts->B d<=B (.agg parts)):∀ {ts:List TypeId} {Us:List VT} {vs:List Value} {ds:List (DataW H)} {ps:List MemPlace},Dw P ts Us=true->
   (∀(j:Nat) (t:TypeId) (v:Value),ts[j]?=some t->vs[j]?=some v->Value.okWide P W .any b0 t v)->DataW.TrodAll enc P W 0 (fun _=>true) true ts vs ds ps->
   ∃b9 F7,dI (I5 W) (bP Us) b9 F7/\vs=cw Us b9/\∀xs,DV.l xs∈F7->∃d∈ds,xs.length<=B d:=by
 intro ts;induction ts with
 | nil=>
   intro Us vs ds ps hv iA h;cases Us with
   |nil=>obtain⟨rfl,rfl,rfl⟩:=trodAll_nil h;exact⟨[],[],trivial,rfl,fun xs hx=>by simp at hx⟩
   |cons _ _=>simp[Dw]at hv
 | cons t ts ih=>
   intro Us vs ds ps hv iA h;cases Us with
   |nil=>simp[Dw]at hv
   | cons vt Us=>
     simp only[Dw,ao]at hv;obtain⟨v,N1,d,xJ,p,q,rfl,rfl,rfl,h1,h2⟩:=trodAll_cons h;obtain⟨c1,d1,g1,g2,g3⟩:=Pv hB hB2 hv.1 (iA 0 t v rfl rfl) h1;obtain⟨c2,d2,k1,k2,k3⟩:=ih hv.2 (fun j t v a b=>iA (j+1) t v (by simpa using a) (by simpa using b)) h2;have e:bP (vt::Us)=vt.bP++bP Us:=by simp[bP]
     refine⟨c1++c2,d1++d2,by rw[e];exact qo g1 k1,by rw[g2,k2],fun xs hx=>?_⟩;rcases jS.1 hx with hx|hx;exact⟨d,aZ ..,g3 xs hx⟩;obtain⟨d',ZF,hl⟩:=k3 xs hx;exact⟨d',bI _ ZF,hl⟩
theorem MS{W':World}(hl:laidOutB P=true)(hb:Below W.heap.size W W'):∀ {ts:List TypeId} {vs:List Value} {ds:List (DataW H)} {ps:List MemPlace},(ts.all fun t=>P.readableRec t&&decide (t<P.types.size))=true->
   DataW.TrodAll enc P W 0 (fun _=>true) true ts vs ds ps->(∀x∈ps,x.block<W.heap.size)->DataW.TrodAll enc P W' 0 (fun b=>decide (b<W.heap.size)) true ts vs ds ps:=by
 intro ts;induction ts with
 |nil=>intro vs ds ps _ h _;obtain⟨rfl,rfl,rfl⟩:=trodAll_nil h;exact trodAll_mk0
 | cons t ts ih=>
   intro vs ds ps hr h cM;simp only[List.all_cons,ao,aO]at hr;obtain⟨v,N1,d,xJ,p,q,rfl,rfl,rfl,h1,h2⟩:=trodAll_cons h;exact⟨p,q,Below.trod hl hr.1.1 hr.1.2 h1 hb (fun x hx=>cM x (zO _ hx)),ih hr.2 h2 (fun x hx=>cM x (Es _ hx)),rfl⟩
theorem Pw(hB:∀es sp,List.length es<=B (.slice es sp))(hB2:∀d parts,d∈parts->B d<=B (.agg parts)){f:FuncId}{fn:Func}{s:ChangeSpec}{ct:eB}{Wd:World->Prop}{tb:TypeId}{args:Array Value}{ds gs:List (DataW H)}{before:List MemPlace}
   (hOk:fK P Wd f ct) (hWd:Wd W) (ac1:∀ds rs,ct.rel ds rs->rs=[.b true]) (uZ:ct.sig.res=[.one (.c .b)]) (hvt:Dw P fn.params.toList ct.sig.args=true) (hl:laidOutB P=true) (hr:(fn.params.toList.all fun t=>P.readableRec t&&decide (t<P.types.size))=true)
   (hrt:fn.resultTypes = #[tb]) (htb:P.underlying tb=some .bool) (XQ:s.vars=[])
   (hs:∀ds:List (DataW H),ds.length=fn.params.toList.length->s.fn H ds = {results:=[.lit (.bool true)],args:=ds})
   (gI:∀(j:Nat) t v,fn.params[j]?=some t->args[j]?=some v->Value.okWide P W .any b0 t v) (hW:DataW.Whole enc P fn.params.toList s.vars false W args.toList ds gs before)
   (Cy:∀F7,G6 (bP ct.sig.args) F7->(∀xs,DV.l xs∈F7->∃d∈ds,xs.length<=B d)->ct.pre F7) :
   Calls P f args W fun e W'=>∃v,e = .returned v/\s.post enc P fn false true false false W args v W':=by
 have hW':=hW;obtain⟨p,q,hA,hV,rfl,hfz,qF⟩:=hW;rw[XQ]at hV;obtain⟨rfl,rfl⟩:=trodVars_none hV;obtain⟨b9,F7,h1,h2,h3⟩:=MR hB hB2 hvt (fun j t v a b=>gI j t v (by simpa using a) (by simpa using b)) hA;have pJ:=hOk.2 W args.toList F7 hWd ⟨b9,h2,I6 h1⟩ (Cy F7 (MO h1) h3);rw[Array.toArray_toList]at pJ;refine Calls.mono pJ fun e W' he=>?_;obtain⟨rv,iq,rfl,hb,hf,Uj,sH⟩:=he;have sH:iq=[.b true]:=ac1 _ _ sH;subst sH;rw[uZ]at hf;have cM:∀x∈p,x.block<W.heap.size:=fun x hx=>by simpa using hW'.lt x (by simpa using hx)
 have hrv:rv=[.bool true]:=by
   match rv,hf with
   | [v],hf=>
     have:v = .bool true:=hf.1;rw[this]
 subst hrv;refine⟨_,rfl,ds,[],p,[],p,[],by simpa using hW',?_,?_,?_,Below.frame hb _,fun h=>by cases h⟩;have hlen:(ds++[]).length=fn.params.toList.length:=by
   have:∀ {ts:List TypeId} {vs:List Value} {ds:List (DataW H)} {ps:List MemPlace},DataW.TrodAll enc P W 0 (fun _=>true) true ts vs ds ps->ds.length=ts.length:=by
     intro ts;induction ts with
     |nil=>intro vs ds ps h;obtain⟨_,rfl,_⟩:=trodAll_nil h;rfl
     |cons t ts ih=>intro vs ds ps h;obtain⟨_,_,_,_,_,_,_,rfl,_,_,h2⟩:=trodAll_cons h;simp[ih h2]
   simpa using this hA
 rw[hs _ hlen,hrt];rw[uZ];show DataW.TrodAll enc P W' W.heap.size (fun _=>false) false [tb] [.bool true] [.lit (.bool true)] [];exact trodAll_mk1 ⟨1,by simp[DataW.trod,Value.cells,htb]⟩;have hlen:(ds++[]).length=fn.params.toList.length:=by
   have:∀ {ts:List TypeId} {vs:List Value} {ds:List (DataW H)} {ps:List MemPlace},DataW.TrodAll enc P W 0 (fun _=>true) true ts vs ds ps->ds.length=ts.length:=by
     intro ts;induction ts with
     |nil=>intro vs ds ps h;obtain⟨_,rfl,_⟩:=trodAll_nil h;rfl
     |cons t ts ih=>intro vs ds ps h;obtain⟨_,_,_,_,_,_,_,rfl,_,_,h2⟩:=trodAll_cons h;simp[ih h2]
   simpa using this hA
 rw[hs _ hlen,vM];exact MS hl hb hr hA cM;have hlen:(ds++[]).length=fn.params.toList.length:=by
   have:∀ {ts:List TypeId} {vs:List Value} {ds:List (DataW H)} {ps:List MemPlace},DataW.TrodAll enc P W 0 (fun _=>true) true ts vs ds ps->ds.length=ts.length:=by
     intro ts;induction ts with
     |nil=>intro vs ds ps h;obtain⟨_,rfl,_⟩:=trodAll_nil h;rfl
     |cons t ts ih=>intro vs ds ps h;obtain⟨_,_,_,_,_,_,_,rfl,_,_,h2⟩:=trodAll_cons h;simp[ih h2]
   simpa using this hA
 rw[hs _ hlen,XQ];rfl
end
end Go.Sx

/- From a law's contract to a row's step. -/
import Derived.Test.YtohebioanhliiaaGreatDoorJA4
import Derived.Deep.Slices
import Derived.OpenShut
import Derived.WideShapes
import Derived.Carry
import Derived.ProofKit
set_option linter.unusedVariables false
set_option linter.unusedSimpArgs false
namespace Go.Sx
section
open Go.RowKit Go.WideShapes Go.ChangeShapes
variable {H:Type}{enc:TypeId×Value->H}{P:Program}{w:World}{base:Nat}{spare:Nat->Bool}{held:Bool}
def wb{α:Type}(P:Program)(g:TypeId->Option (List α)):Nat->List Field->Option (List α)
 |_,[]=>some []
 | off,f::fs=>if f.offset=off then(match g f.type with
   | some m=>if P.cellsOf f.type=m.length then(match wb P g (off+m.length) fs with
     |some r=>some (m++r)
     |none=>none)else none
   |none=>none)else none
def rG{α:Type}(P:Program)(leaf:TypeId->Option α):Nat->TypeId->Option (List α)
 |0,_=>none
 | n+1,t=>match leaf t with
   |some a=>some [a]
   | none=>match P.underlying t with
     |some (.struct fs)=>wb P (rG P leaf n) 0 fs.toList
     | some (.array len e)=>match rG P leaf n e with
       |some m=>if P.cellsOf e=m.length then some (List.replicate len m).flatten else none
       |none=>none
     |_=>none
def dh{α β:Type}(R:α->Value->β->Prop):List α->List Value->List β->Prop
 | [],[],[]=>True
 |c::cs,v::vs,d::ds=>R c v d/\dh R cs vs ds
 |_,_,_=>False
theorem pj{α β:Type}{R:α->Value->β->Prop}:∀ {cs pO:List α} {vs Nf:List Value} {ds lz:List β},dh R cs vs ds->dh R pO Nf lz->dh R (cs++pO) (vs++Nf) (ds++lz):=by
 intro cs;induction cs with
 |nil=>intro pO vs Nf ds lz h h';cases vs<;>cases ds<;>simp_all[dh]
 | cons c cs ih=>
   intro pO vs Nf ds lz h h';cases vs with
   |nil=>simp[dh]at h
   | cons v vs=>cases ds with
     |nil=>simp[dh]at h
     |cons d ds=>exact⟨h.1,ih h.2 h'⟩
theorem H3{α β:Type}{R:α->Value->β->Prop}:∀ {cs:List α} {vs:List Value} {ds:List β},dh R cs vs ds->vs.length=cs.length/\ds.length=cs.length:=by
 intro cs;induction cs with
 |nil=>intro vs ds h;cases vs<;>cases ds<;>simp_all[dh]
 | cons c cs ih=>
   intro vs ds h;cases vs with
   |nil=>simp[dh]at h
   | cons v vs=>cases ds with
     |nil=>simp[dh]at h
     |cons d ds=>have:=ih h.2;simp[this.1,this.2]
theorem vg{α β:Type}{R:α->Value->β->Prop}{Q:β->DataW H->Prop}{leaf:TypeId->Option α}(hQ:∀b d parts,d∈parts->Q b d->Q b (.agg parts))
   (vV:∀t a fuel cs x,leaf t=some a->DataW.trod enc P w base spare held fuel t cs=some x->∃v b,cs=[v]/\R a v b/\Q b x.1) :
   ∀ {n:Nat} {t:TypeId} {as:List α} {fuel:Nat} {cs:List Value} {x:DataW H×List MemPlace},rG P leaf n t=some as->(leaf t=none->P.cellsOf t=as.length)->DataW.trod enc P w base spare held fuel t cs=some x->
     ∃bs,dh R as cs bs/\∀b∈bs,Q b x.1:=by
 intro n;induction n with
 |zero=>intro t as fuel cs x h;simp[rG]at h
 | succ n ih=>
   intro t as fuel cs x h hC ht;simp only[rG]at h;split at h;rename_i a ha;simp only[ah]at h;subst h;obtain⟨v,b,rfl,hr,hq⟩:=vV t a fuel cs x ha ht;exact⟨[b],⟨hr,trivial⟩,fun b' nB=>by simp at nB;subst nB;exact hq⟩;rename_i hl;have hC:=hC hl;have Ww:∀ {t:TypeId} {as:List α} {fuel:Nat} {cs:List Value} {x:DataW H×List MemPlace},rG P leaf n t=some as->P.cellsOf t=as.length->DataW.trod enc P w base spare held fuel t cs=some x->∃bs,dh R as cs bs/\∀b∈bs,Q b x.1:=
     fun h1 h2 h3=>ih h1 (fun _=>h2) h3
   split at h;rename_i fs hu;obtain⟨xs,m,_,rfl,hlen,pC,hf⟩:=DataW.trod_struct hu ht;rw[hC]at hlen;have key:∀(l:List Field) (off:Nat) (r:List α),wb P (rG P leaf n) off l=some r->off+r.length=cs.length->(∀f∈l,∃y∈xs,DataW.trod enc P w base spare held m f.type ((cs.drop f.offset).take (P.cellsOf f.type))=some y)->
       ∃bs,dh R r (cs.drop off) bs/\∀b∈bs,Q b (.agg (xs.map (·.1))):=by
     intro l;induction l with
     | nil=>
       intro off r h hl _;simp only[wb,ah]at h;subst h;refine⟨[],?_,fun b hb=>by simp at hb⟩;rw[vK (by simp at hl;omega)];trivial
     | cons f l ihl=>
       intro off r h hl ch;simp only[wb]at h;split at h;rename_i ho;split at h;rename_i mm hm;split at h;rename_i oq;split at h;rename_i r' cO;simp only[ah]at h;subst h;obtain⟨y,hy,hty⟩:=ch f (aK ..);obtain⟨bs1,h1,h2⟩:=Ww hm oq hty;obtain⟨bs2,h3,h4⟩:=ihl (off+mm.length) r' cO (by simp at hl;omega) (fun f hf=>ch f (bl _ hf));refine⟨bs1++bs2,?_,fun b hb=>?_⟩;have e:cs.drop off=(cs.drop off).take mm.length++cs.drop (off+mm.length):=by
         rw[<- List.drop_drop,Dt]
       rw[e];rw[ho,oq]at h1;exact pj h1 h3;rcases lQ.1 hb with hb|hb;exact hQ b y.1 _ (List.mem_map_of_mem hy) (h2 b hb);exact h4 b hb;cases h;cases h;cases h;cases h
   have:=key fs.toList 0 as h (by omega) (fun f bn=>by
     obtain⟨i,hi⟩:=List.mem_iff_getElem?.1 bn;have DO:fs[i]?=some f:=by simpa using hi
     have h1:=hf i f DO;have cJ:i<xs.length:=by rw[pC];exact(rJ.1 DO).1
     rw[dG cJ]at h1;exact⟨_,List.getElem_mem cJ,h1⟩)
   simpa using this;rename_i len e hu;split at h;rename_i mm hm;split at h;rename_i oq;simp only[ah]at h;subst h;obtain⟨xs,m,_,rfl,hlen,pC,hf⟩:=DataW.trod_array hu ht;rw[hC]at hlen;have Tl:∀k:Nat,(List.replicate k mm).flatten.length=k*mm.length:=fun k=>by simp
   rw[Tl]at hlen;have key:∀k i:Nat,i+k=len->∃bs,dh R (List.replicate k mm).flatten (cs.drop (i*mm.length)) bs/\∀b∈bs,Q b (.agg (xs.map (·.1))):=by
     intro k;induction k with
     | zero=>
       intro i hi;have:i=len:=by omega
       subst this;refine⟨[],?_,fun b hb=>by simp at hb⟩;rw[vK (by omega)];trivial
     | succ k ihk=>
       intro i hi;have h1:=hf i (by omega);rw[dG (by omega),oq]at h1;obtain⟨bs1,g1,g2⟩:=Ww hm oq h1;obtain⟨bs2,g3,g4⟩:=ihk (i+1) (by omega);refine⟨bs1++bs2,?_,fun b hb=>?_⟩;have e1:cs.drop (i*mm.length)=(cs.drop (i*mm.length)).take mm.length++cs.drop ((i+1)*mm.length):=by
         rw[la,Nat.one_mul,<- List.drop_drop,Dt]
       have e2:(List.replicate (k+1) mm).flatten=mm++(List.replicate k mm).flatten:=by simp[List.replicate_succ]
       rw[e1,e2];exact pj g1 g3;rcases lQ.1 hb with hb|hb;exact hQ b _ _ (List.mem_map_of_mem (List.getElem_mem (by omega))) (g2 b hb);exact g4 b hb
   have:=key len 0 (by omega);simpa using this;cases h;cases h;cases h
def mu:CK->Int->Prop
 |.i k,n=>k.min<=n/\n<=k.max
 |.b,n=>n=0\/n=1
 |.f,_=>True
def yB:List CK->List Int->Prop
 | [],[]=>True
 |k::ks,n::ns=>mu k n/\yB ks ns
 |_,_=>False
def OG(P:Program)(t:TypeId):Option CK:=
 match P.underlying t with
 |some (.int k)=>some (.i k)
 |some .bool=>some .b
 |_=>none
def CQ(P:Program)(t:TypeId):Option CT:=
 match P.underlying t with
 |some (.int k)=>some (.c (.i k))
 |some .bool=>some (.c .b)
 | some (.slice e)=>match rG P (OG P) 16 e with
   |some ks=>if 0<ks.length/\P.cellsOf e=ks.length then some (.s e ks)else none
   |none=>none
 |_=>none
theorem OH{k:IntKind}{n:Int}(h:(Lit.int k n).wf=true):k.min<=n/\n<=k.max:=by simpa[Lit.wf]using h
theorem H4:∀ {ks:List CK} {vs:List Value} {row:List Int} (pre:List Int),dh (fun k v n=>v=k.val n/\mu k n) ks vs row->vs=bP ks pre.length (pre++row)/\yB ks row:=by
 intro ks;induction ks with
 |nil=>intro vs row pre h;cases vs<;>cases row<;>simp_all[dh,bP,yB]
 | cons k ks ih=>
   intro vs row pre h;cases vs with
   |nil=>simp[dh]at h
   | cons v vs=>cases row with
     |nil=>simp[dh]at h
     | cons n row=>
       obtain⟨⟨h1,h2⟩,h3⟩:=h;obtain⟨e1,e2⟩:=ih (pre++[n]) h3;refine⟨?_,h2,e2⟩;simp only[bP];rw[h1,e1];congr 1;simp[List.getD];simp
theorem OI{t:TypeId}{ks:List CK}{fuel:Nat}{cs:List Value}{x:DataW H×List MemPlace}(hk:rG P (OG P) 16 t=some ks)(hC:P.cellsOf t=ks.length)(h:DataW.trod enc P w base spare held fuel t cs=some x) :
   ∃row,cs=bP ks 0 row/\yB ks row:=by
 obtain⟨row,h1,_⟩:=vg (R:=fun k v n=>v=k.val n/\mu k n) (Q:=fun _ _=>True) (fun _ _ _ _ _=>trivial) (fun t a fuel cs x ha ht=>by
   unfold OG at ha;split at ha;rename_i k hu;simp only[ah]at ha;subst ha;obtain⟨n,rfl,_,hw⟩:=DataW.trod_int hu ht;exact⟨_,n,rfl,⟨rfl,OH hw⟩,trivial⟩;rename_i hu;simp only[ah]at ha;subst ha;obtain⟨b,rfl,_⟩:=DataW.trod_bool hu ht;refine⟨_,if b then 1 else 0,rfl,⟨?_,?_⟩,trivial⟩;cases b<;>simp[CK.val];cases b<;>simp[mu];cases ha) hk (fun _=>hC) h
 obtain⟨e1,e2⟩:=H4 [] h1;exact⟨row,by simpa using e1,e2⟩
def acd:NK->Int×List Int->Prop
 |.c k,d=>mu k d.1/\d.2=[]
 |.s _ k,d=>d.1=(d.2.length:Int)/\d.2.length<=maxLen/\∀x∈d.2,mu k x
def yC:List NK->List (Int×List Int)->Prop
 | [],[]=>True
 |k::ks,d::ds=>acd k d/\yC ks ds
 |_,_=>False
def vh(ds:List (Int×List Int)):List Int:=ds.map (·.1)++ds.flatMap (·.2)
def Up:CT->DV->Prop
 |.c (.i k),.i n=>mu (.i k) n
 |.c .b,.b _=>True
 |.s _ ks,.l xs=>xs.length<=maxLen/\∀row∈xs,yB ks row
 |.n _ aN,.l xs=>xs.length<=maxLen/\∀row∈xs,∃ds,row=vh ds/\yC aN ds
 |_,_=>False
def H5(w:World):CT->Value->DV->Prop:=fun c v d=>ky (mo w) c v d/\Up c d
theorem H6{w:World}:∀ {cs:List CT} {vs:List Value} {ds:List DV},dh (H5 w) cs vs ds->fitAll (mo w) cs vs ds:=by
 intro cs;induction cs with
 |nil=>intro vs ds h;cases vs<;>cases ds<;>simp_all[dh,fitAll]
 | cons c cs ih=>
   intro vs ds h;cases vs with
   |nil=>simp[dh]at h
   | cons v vs=>cases ds with
     |nil=>simp[dh]at h
     |cons d ds=>exact⟨h.1.1,ih h.2⟩
theorem Ay{B:DataW H->Nat}(hB:∀es sp,List.length es<=B (.slice es sp))(t:TypeId)(a:CT)(fuel:Nat)(cs:List Value)(x:DataW H×List MemPlace)(ha:CQ P t=some a)(ht:DataW.trod enc P w base spare held fuel t cs=some x) :
   ∃v b,cs=[v]/\H5 w a v b/\(∀xs,b=DV.l xs->xs.length<=B x.1):=by
 unfold CQ at ha;split at ha;rename_i k hu;simp only[ah]at ha;subst ha;obtain⟨n,rfl,_,hw⟩:=DataW.trod_int hu ht;exact⟨_,.i n,rfl,⟨rfl,OH hw⟩,fun xs h=>by cases h⟩;rename_i hu;simp only[ah]at ha;subst ha;obtain⟨b,rfl,_⟩:=DataW.trod_bool hu ht;exact⟨_,.b b,rfl,⟨rfl,trivial⟩,fun xs h=>by cases h⟩;rename_i e hu;split at ha;rename_i ks nA;split at ha;rename_i hc;simp only[ah]at ha;subst ha;rcases Go.Deep.open_slice hu ht with⟨rfl,rfl⟩|⟨a,len,cap,m,n,D,Pl,rfl,hb,hl,hm,hmm,rfl,hi⟩;refine⟨_,.l [],rfl,⟨⟨hc.1,none,0,rfl,⟨Nat.zero_le _,Nat.zero_le _⟩,fun _=>⟨rfl,rfl⟩,fun j u hj=>by simp[aB]at hj⟩,Nat.zero_le _,fun row hr=>by simp at hr⟩,fun xs h=>by cases h;exact Nat.zero_le _⟩;have hle:len<=m:=by rw[hmm];split<;>omega
 have bj:∀i,i<len->∃row,(∃pO,w.cells? base (a.add (i*ks.length)) ks.length=some pO/\pO=bP ks 0 row)/\yB ks row:=fun i hil=>by
   obtain⟨pO,h1,h2⟩:=hi i (by omega);obtain⟨row,h3,h4⟩:=OI nA hc.2 h2;rw[hc.2]at h1;exact⟨row,⟨pO,h1,h3⟩,h4⟩
 have ch:∀k,k<=len->∃xs:List (List Int),xs.length=k/\(∀i,i<k->∃row,xs[i]?=some row/\yB ks row/\w.cells? base (a.add (i*ks.length)) ks.length=some (bP ks 0 row)):=by
   intro k;induction k with
   |zero=>intro _;exact⟨[],rfl,fun i h=>by omega⟩
   | succ k ih=>
     intro hk;obtain⟨xs,pC,hx⟩:=ih (by omega);obtain⟨row,⟨pO,h1,rfl⟩,h2⟩:=bj k (by omega);refine⟨xs++[row],by simp[pC],fun i hik=>?_⟩;rcases mS i k with h|h;obtain⟨r,e1,e2⟩:=hx i h;exact⟨r,by rw[mJ (by omega)];exact e1,e2⟩;have:i=k:=by omega
     subst this;exact⟨row,by rw[pB (by omega)];simp[pC],h2,h1⟩
 obtain⟨xs,pC,hx⟩:=ch len (fu _);have hZ:∀row∈xs,yB ks row:=fun row bj=>by
   obtain⟨i,hi⟩:=List.mem_iff_getElem?.1 bj;obtain⟨r,e1,e2,_⟩:=hx i (by have:=(dc.1 hi).1;omega);rw[hi,ah]at e1;subst e1;exact e2
 refine⟨_,.l xs,rfl,⟨⟨hc.1,some a,cap,by rw[pC],⟨by omega,by omega⟩,fun h=>(by cases h),fun j u hj=>⟨a,rfl,?_⟩⟩,by omega,hZ⟩,fun ys h=>(by cases h;exact kL (by simp[pC]) (hB _ _))⟩;have He:j<xs.length*ks.length:=by rw[<- bQ];exact(dc.1 hj).1
 have hq:j/ks.length<xs.length:=Nat.div_lt_of_lt_mul (by rw[Nat.mul_comm];exact He);have hr:j%ks.length<ks.length:=Nat.mod_lt _ hc.1;have hjj:j=(j/ks.length)*ks.length+j%ks.length:=by rw[Nat.mul_comm];exact(Nat.div_add_mod j ks.length).symm
 obtain⟨row,e1,e2,e3⟩:=hx (j/ks.length) (by omega);obtain⟨_,_,KO⟩:=World.cells?_some e3;have h1:=KO (j%ks.length) hr;rw[hjj,mH ks xs _ _ hq hr]at hj;rw[iX]at h1;simp only[cq,e1,Option.getD_some]at hj;simp only[fC,cq]at h1;rw[hj]at h1;rw[hjj,<- h1];congr 1;rw[hO];cases ha;cases ha;cases ha
end
section
open Go.RowKit Go.WideShapes Go.ChangeShapes
variable {H:Type}{enc:TypeId×Value->H}{P:Program}{w:World}{base:Nat}{spare:Nat->Bool}{held:Bool}
theorem LW:∀ {aN:List NK} {ds:List (Int×List Int)},yC aN ds->ds.length=aN.length:=by
 intro aN;induction aN with
 | nil=>intro ds h;cases ds with
   |nil=>rfl
   |cons _ _=>exact h.elim
 | cons k aN ih=>intro ds h;cases ds with
   |nil=>exact h.elim
   |cons d ds=>simp[ih h.2]
theorem Uq:∀ {aN:List NK} {ds:List (Int×List Int)} (rest:List Int) {j:Nat} {d:Int×List Int},yC aN ds->ds[j]?=some d->o8 aN (ds.map (·.1)) (ds.flatMap (·.2)++rest) j=d.2:=by
 intro aN;induction aN with
 | nil=>intro ds rest j d h hd;cases ds with
   |nil=>simp at hd
   |cons _ _=>exact h.elim
 | cons k aN ih=>intro ds rest j d h hd;cases ds with
   |nil=>exact h.elim
   | cons d0 ds=>
     cases k with
     | c k=>
       have h2:d0.2=[]:=h.1.2;cases j with
       |zero=>simp only[jZ,ah]at hd;subst hd;rw[h2];rfl
       | succ j=>
         simp only[zy]at hd;have:=ih rest h.2 hd;simpa[o8,h2]using this
     | s e k=>
       have h1:d0.1=(d0.2.length:Int):=h.1.1;cases j with
       | zero=>
         simp only[jZ,ah]at hd;subst hd;simp[o8,h1]
       | succ j=>
         simp only[zy]at hd;have:=ih rest h.2 hd;simpa[o8,h1]using this
theorem CR{aN:List NK}{ds:List (Int×List Int)}(h:yC aN ds){j:Nat}{d:Int×List Int}(hd:ds[j]?=some d):ew aN (vh ds) j=d.2:=by
 have hl:=LW h;unfold ew vh;rw[DL (by simp[hl]),pI (by simp[hl]),Ht (by simp[hl]),vK (by simp[hl])];have:=Uq [] h hd;simpa using this
theorem Az{aN:List NK}{ds:List (Int×List Int)}(h:yC aN ds){j:Nat}{d:Int×List Int}(hd:ds[j]?=some d):(vh ds).getD j 0=d.1:=by
 have hj:=(dc.1 hd).1;unfold vh;rw[cq,mJ (by simpa using hj),jt,hd];rfl
def JI(P:Program)(t:TypeId):Option NK:=match CQ P t with
 |some (.c k)=>some (.c k)
 |some (.s e [k])=>some (.s e k)
 |_=>none
def AA(P:Program)(t:TypeId):Option CT:=match CQ P t with
 |some a=>some a
 | none=>match P.underlying t with
   | some (.slice e)=>match rG P (JI P) 16 e with
     |some aN=>if 0<aN.length/\P.cellsOf e=aN.length then some (.n e aN)else none
     |none=>none
   |_=>none
def nR(w:World)(nk:NK)(v:Value)(d:Int×List Int):Prop:=rn (fun k=>k<w.heap.size) w nk d.1 d.2 v/\acd nk d
theorem H7(t:TypeId)(a:NK)(fuel:Nat)(cs:List Value)(x:DataW H×List MemPlace)(ha:JI P t=some a)(ht:DataW.trod enc P w base spare held fuel t cs=some x):∃v d,cs=[v]/\nR w a v d:=by
 unfold JI at ha;have key:=fun c hc=>Ay (B:=fun d=>match d with| .slice es _=>es.length|_=>0) (fun es sp=>fu _) t c fuel cs x hc ht;split at ha;rename_i k hk;simp only[ah]at ha;subst ha;obtain⟨v,b,rfl,⟨h1,h2⟩,_⟩:=key _ hk;cases k with
 | i k=>cases b with
   |i n=>exact⟨v,(n,[]),rfl,h1,h2,rfl⟩
   |b _=>exact h2.elim
   |l _=>exact h2.elim
 | b=>cases b with
   |b n=>exact⟨v,(if n then 1 else 0,[]),rfl,by have h1:v = .bool n:=h1;rw[h1];cases n<;>rfl,by cases n<;>simp[mu],rfl⟩
   |i _=>exact h2.elim
   |l _=>exact h2.elim
 |f=>exact h2.elim
 rename_i e k hk;simp only[ah]at ha;subst ha;obtain⟨v,b,rfl,⟨h1,h2⟩,_⟩:=key _ hk;cases b with
 |i _=>exact h2.elim
 |b _=>exact h2.elim
 | l xs=>
   obtain⟨hl,hZ⟩:=h2;have hr:∀row∈xs,∃n,row=[n]/\mu k n:=fun row bj=>by
     have:=hZ row bj
     match row,this with
     | [n],h=>exact⟨n,rfl,h.1⟩
   have hx:∀xs:List (List Int),(∀row∈xs,∃n,row=[n]/\mu k n)->∃ns:List Int,xs=ns.map (fun n=>[n])/\∀n∈ns,mu k n:=by
     intro xs;induction xs with
     |nil=>intro _;exact⟨[],rfl,fun n h=>by simp at h⟩
     | cons r xs ih=>
       intro h;obtain⟨n,rfl,hn⟩:=h r (aK ..);obtain⟨ns,rfl,D8⟩:=ih fun row bj=>h row (bl _ bj);exact⟨n::ns,rfl,fun m hm=>(bD.1 hm).elim (fun e=>e▸hn) (D8 m)⟩
   obtain⟨ns,rfl,D8⟩:=hx xs hr;have h1:0 < [k].length/\Reads w v (ns.map fun n=>[n]).length (aB [k] (ns.map fun n=>[n])):=h1;obtain⟨_,h1⟩:=h1;rw[ot]at h1 hl;refine⟨v,(ns.length,ns),rfl,⟨rfl,h1,fun cQ b hb=>?_⟩,rfl,hl,D8⟩;obtain⟨a,cap,rfl,_,_,jn⟩:=h1
   match ns,cQ with
   | n::ns,_=>
     obtain⟨a,rfl,ha⟩:=jn 0 (k.val n) rfl;simp only[Value.ownBlock,ah]at hb;have:=World.block_lt_of_cell? w (a.add 0) ha;rw[Addr.add_zero']at this;omega
 cases ha
theorem CS{α β:Type}{R:α->Value->β->Prop}:∀ {cs:List α} {vs:List Value} {ds:List β},dh R cs vs ds->∀ {j:Nat} {c:α},cs[j]?=some c->∃v d,vs[j]?=some v/\ds[j]?=some d/\R c v d:=by
 intro cs;induction cs with
 |nil=>intro vs ds h j c hc;simp at hc
 | cons c cs ih=>
   intro vs ds h j c' hc;cases vs with
   |nil=>exact h.elim
   | cons v vs=>cases ds with
     |nil=>exact h.elim
     | cons d ds=>cases j with
       |zero=>simp only[jZ,ah]at hc;subst hc;exact⟨v,d,rfl,rfl,h.1⟩
       |succ j=>exact ih h.2 (by simpa using hc)
theorem AB{w:World}:∀ {aN:List NK} {vs:List Value} {ds:List (Int×List Int)},dh (nR w) aN vs ds->yC aN ds:=by
 intro aN;induction aN with
 |nil=>intro vs ds h;cases vs<;>cases ds<;>simp_all[dh,yC]
 | cons k aN ih=>
   intro vs ds h;cases vs with
   |nil=>exact h.elim
   | cons v vs=>cases ds with
     |nil=>exact h.elim
     |cons d ds=>exact⟨h.1.2,ih h.2⟩
theorem LX{t:TypeId}{aN:List NK}{fuel:Nat}{cs:List Value}{x:DataW H×List MemPlace}(hk:rG P (JI P) 16 t=some aN)(hC:P.cellsOf t=aN.length)(h:DataW.trod enc P w base spare held fuel t cs=some x) :
   ∃ds,dh (nR w) aN cs ds:=by
 obtain⟨ds,h1,_⟩:=vg (R:=nR w) (Q:=fun _ _=>True) (fun _ _ _ _ _=>trivial) (fun t a fuel cs x ha ht=>by
   obtain⟨v,d,h1,h2⟩:=H7 t a fuel cs x ha ht;exact⟨v,d,h1,h2,trivial⟩) hk (fun _=>hC) h
 exact⟨ds,h1⟩
theorem AD{B:DataW H->Nat}(hB:∀es sp,List.length es<=B (.slice es sp))(t:TypeId)(a:CT)(fuel:Nat)(cs:List Value)(x:DataW H×List MemPlace)(ha:AA P t=some a)(ht:DataW.trod enc P w base spare held fuel t cs=some x) :
   ∃v b,cs=[v]/\H5 w a v b/\(∀xs,b=DV.l xs->xs.length<=B x.1):=by
 unfold AA at ha;split at ha;rename_i c hc;simp only[ah]at ha;subst ha;exact Ay hB t _ fuel cs x hc ht;split at ha;rename_i e hu;split at ha;rename_i aN nA;split at ha;rename_i hc;simp only[ah]at ha;subst ha;rcases Go.Deep.open_slice hu ht with⟨rfl,rfl⟩|⟨a,len,cap,m,n,D,Pl,rfl,hb,hl,hm,hmm,rfl,hi⟩;refine⟨_,.l [],rfl,⟨⟨hc.1,none,0,rfl,Nat.zero_le _,fun _=>⟨rfl,rfl⟩,fun i r hi=>by simp at hi⟩,Nat.zero_le _,fun row hr=>by simp at hr⟩,fun xs h=>by cases h;exact Nat.zero_le _⟩;have hle:len<=m:=by rw[hmm];split<;>omega
 have bj:∀i,i<len->∃ds,∃pO,w.cells? base (a.add (i*aN.length)) aN.length=some pO/\dh (nR w) aN pO ds:=fun i hil=>by
   obtain⟨pO,h1,h2⟩:=hi i (by omega);obtain⟨ds,h3⟩:=LX nA hc.2 h2;rw[hc.2]at h1;exact⟨ds,pO,h1,h3⟩
 have ch:∀k,k<=len->∃xs:List (List Int),xs.length=k/\(∀i,i<k->∃ds,xs[i]?=some (vh ds)/\∃pO,w.cells? base (a.add (i*aN.length)) aN.length=some pO/\dh (nR w) aN pO ds):=by
   intro k;induction k with
   |zero=>intro _;exact⟨[],rfl,fun i h=>by omega⟩
   | succ k ih=>
     intro hk;obtain⟨xs,pC,hx⟩:=ih (by omega);obtain⟨ds,rF⟩:=bj k (by omega);refine⟨xs++[vh ds],by simp[pC],fun i hik=>?_⟩;rcases mS i k with h|h;obtain⟨r,e1,e2⟩:=hx i h;exact⟨r,by rw[mJ (by omega)];exact e1,e2⟩;have:i=k:=by omega
     subst this;exact⟨ds,by rw[pB (by omega)];simp[pC],rF⟩
 obtain⟨xs,pC,hx⟩:=ch len (fu _);refine⟨_,.l xs,rfl,⟨⟨hc.1,some a,cap,by rw[pC],by omega,fun h=>(by cases h),fun i r hir=>⟨a,rfl,?_,fun j nk hj=>?_⟩⟩,by omega,fun row bj=>?_⟩,fun ys h=>(by cases h;exact kL (by simp[pC]) (hB _ _))⟩;obtain⟨ds,_,pO,h1,h2⟩:=hx i (by have:=(dc.1 hir).1;omega);obtain⟨_,_,KO⟩:=World.cells?_some h1;obtain⟨v,d,hv,_⟩:=CS h2 (dG hc.1);have:=KO 0 hc.1;rw[hv]at this;have:=World.block_lt_of_cell? w _ this;rw[ka,ka]at this;exact this;obtain⟨ds,e1,pO,h1,h2⟩:=hx i (by have:=(dc.1 hir).1;omega);rw[hir,ah]at e1;subst e1;obtain⟨_,_,KO⟩:=World.cells?_some h1;obtain⟨v,d,hv,hd,hn⟩:=CS h2 hj;have h3:=KO j (dc.1 hj).1;rw[hv,hO]at h3;have nA:=AB h2;refine⟨v,h3,?_⟩;rw[Az nA hd,CR nA hd];exact hn.1;obtain⟨i,hir⟩:=List.mem_iff_getElem?.1 bj;obtain⟨ds,e1,pO,h1,h2⟩:=hx i (by have:=(dc.1 hir).1;omega);rw[hir,ah]at e1;exact⟨ds,e1,AB h2⟩;cases ha;cases ha;cases ha
end
section
open Go.RowKit Go.WideShapes Go.ChangeShapes
variable {H:Type}{enc:TypeId×Value->H}{P:Program}
def LY(P:Program)(t:TypeId):VT->Bool
 |.one c=>decide (AA P t=some c)
 | .agg cs=>(match P.underlying t with
   |some (.struct _)=>true
   |some (.array _ _)=>true
   |_=>false)&&decide (rG P (AA P) 16 t=some cs)&&decide (P.cellsOf t=cs.length)&&decide (AA P t=none)
 |.ptr _ _=>false
 |.fn _ _=>false
def CU(P:Program):List TypeId->List VT->Bool
 | [],[]=>true
 |t::ts,v::vs=>LY P t v&&CU P ts vs
 |_,_=>false
def CV:List CT->List DV->Prop
 | [],[]=>True
 |c::cs,d::ds=>Up c d/\CV cs ds
 |_,_=>False
theorem LZ{w:World}:∀ {cs:List CT} {vs:List Value} {ds:List DV},dh (H5 w) cs vs ds->CV cs ds:=by
 intro cs;induction cs with
 |nil=>intro vs ds h;cases vs<;>cases ds<;>simp_all[dh,CV]
 | cons c cs ih=>
   intro vs ds h;cases vs with
   |nil=>simp[dh]at h
   | cons v vs=>cases ds with
     |nil=>simp[dh]at h
     |cons d ds=>exact⟨h.1.2,ih h.2⟩
theorem L3{t:TypeId}{c:CT}(h:CQ P t=some c):(∃k,P.underlying t=some (.int k))\/P.underlying t=some .bool\/∃e,P.underlying t=some (.slice e):=by
 unfold CQ at h;split at h;rename_i k hu;exact .inl ⟨k,hu⟩;rename_i hu;exact .inr (.inl hu);rename_i e hu;exact .inr (.inr ⟨e,hu⟩);cases h
theorem L4{t:TypeId}{c:CT}(h:AA P t=some c):(∃k,P.underlying t=some (.int k))\/P.underlying t=some .bool\/∃e,P.underlying t=some (.slice e):=by
 unfold AA at h;split at h;rename_i a ha;exact L3 ha;split at h;rename_i e hu;exact .inr (.inr ⟨e,hu⟩);cases h
theorem OJ{b0:Nat}{B:DataW H->Nat}(hB:∀es sp,List.length es<=B (.slice es sp))(hB2:∀d parts,d∈parts->B d<=B (.agg parts)){W:World}{t:TypeId}{vt:VT}{v:Value}{d:DataW H}{p:List MemPlace}(hv:LY P t vt=true)
   (gD:Value.okWide P W .any b0 t v) (h:DataW.Trod enc P W 0 (fun _=>true) true t v d p) :
   ∃bT Ff,dh (H5 W) vt.bI bT Ff/\(∀ts rest,bZ (vt::ts) (bT++rest)=v::bZ ts rest)/\∀xs,DV.l xs∈Ff->xs.length<=B d:=by
 obtain⟨fuel,hf⟩:=h;cases vt with
 |ptr e k=>simp[LY]at hv
 |fn g cs=>simp[LY]at hv
 | one c=>
   simp only[LY,aC]at hv;obtain⟨v',b,jn,hr,hq⟩:=AD (B:=B) hB t c fuel _ _ hv hf;have hvv:v.cells.toList=[v]:=by
     rcases L4 hv with⟨k,hu⟩|hu|⟨e,hu⟩;obtain⟨n,rfl⟩:=okWide_int hu gD;rfl;obtain⟨n,rfl⟩:=okWide_bool hu gD;rfl;obtain⟨a,len,cap,rfl⟩:=okWide_slice hu gD;rfl
   rw[hvv]at jn;simp only[List.cons.injEq,and_true]at jn;subst jn;refine⟨[v],[b],⟨hr,trivial⟩,fun ts rest=>rfl,fun xs hx=>?_⟩;simp only[lg]at hx;exact hq xs hx.symm
 | agg cs=>
   simp only[LY,ao,aC]at hv;obtain⟨⟨⟨TB,WR⟩,hv3⟩,hv4⟩:=hv;obtain⟨c,rfl⟩:∃c,v = .agg c:=by
     unfold Value.okWide at gD;split at TB;rename_i hu;rw[hu]at gD;obtain⟨c,h,_⟩:=gD;exact⟨c,h⟩;rename_i hu;rw[hu]at gD;obtain⟨c,h,_⟩:=gD;exact⟨c,h⟩;cases TB
   obtain⟨bs,h1,h2⟩:=vg (R:=H5 W) (Q:=fun b (d:DataW H)=>∀xs,b=DV.l xs->xs.length<=B d) (fun b d parts hm hq xs hx=>kL (hq xs hx) (hB2 d parts hm)) (AD hB) WR (fun _=>hv3) hf;have hl:=(H3 h1).1;refine⟨_,bs,h1,fun ts rest=>?_,fun xs hx=>h2 _ hx xs rfl⟩;simp only[bZ,VT.bI]at hl ⊢;rw[DL (by omega),pI (by omega),Ht (by omega),vK (by omega)];rfl
theorem L5{b0:Nat}{B:DataW H->Nat}(hB:∀es sp,List.length es<=B (.slice es sp))(hB2:∀d parts,d∈parts->B d<=B (.agg parts)){W:World}:∀ {ts:List TypeId} {TC:List VT} {vs:List Value} {ds:List (DataW H)} {ps:List MemPlace},CU P ts TC=true->
   (∀(j:Nat) (t:TypeId) (v:Value),ts[j]?=some t->vs[j]?=some v->Value.okWide P W .any b0 t v)->DataW.TrodAll enc P W 0 (fun _=>true) true ts vs ds ps->
   ∃bT Ff,dh (H5 W) (bI TC) bT Ff/\vs=bZ TC bT/\∀xs,DV.l xs∈Ff->∃d∈ds,xs.length<=B d:=by
 intro ts;induction ts with
 | nil=>
   intro TC vs ds ps hv gD h;cases TC with
   |nil=>obtain⟨rfl,rfl,rfl⟩:=trodAll_nil h;exact⟨[],[],trivial,rfl,fun xs hx=>by simp at hx⟩
   |cons _ _=>simp[CU]at hv
 | cons t ts ih=>
   intro TC vs ds ps hv gD h;cases TC with
   |nil=>simp[CU]at hv
   | cons vt TC=>
     simp only[CU,ao]at hv;obtain⟨v,Nf,d,lz,p,q,rfl,rfl,rfl,h1,h2⟩:=trodAll_cons h;obtain⟨c1,d1,g1,g2,g3⟩:=OJ hB hB2 hv.1 (gD 0 t v rfl rfl) h1;obtain⟨c2,d2,k1,k2,k3⟩:=ih hv.2 (fun j t v a b=>gD (j+1) t v (by simpa using a) (by simpa using b)) h2;have e:bI (vt::TC)=vt.bI++bI TC:=by simp[bI]
     refine⟨c1++c2,d1++d2,by rw[e];exact pj g1 k1,by rw[g2,k2],fun xs hx=>?_⟩;rcases lQ.1 hx with hx|hx;exact⟨d,aK ..,g3 xs hx⟩;obtain⟨d',YK,hl⟩:=k3 xs hx;exact⟨d',bl _ YK,hl⟩
theorem L6{W W':World}(hl:laidOutB P=true)(hb:Below W.heap.size W W'):∀ {ts:List TypeId} {vs:List Value} {ds:List (DataW H)} {ps:List MemPlace},(ts.all fun t=>P.readableRec t&&decide (t<P.types.size))=true->
   DataW.TrodAll enc P W 0 (fun _=>true) true ts vs ds ps->(∀x∈ps,x.block<W.heap.size)->DataW.TrodAll enc P W' 0 (fun b=>decide (b<W.heap.size)) true ts vs ds ps:=by
 intro ts;induction ts with
 |nil=>intro vs ds ps _ h _;obtain⟨rfl,rfl,rfl⟩:=trodAll_nil h;exact trodAll_mk0
 | cons t ts ih=>
   intro vs ds ps hr h cJ;simp only[List.all_cons,ao,aC]at hr;obtain⟨v,Nf,d,lz,p,q,rfl,rfl,rfl,h1,h2⟩:=trodAll_cons h;exact⟨p,q,Below.trod hl hr.1.1 hr.1.2 h1 hb (fun x hx=>cJ x (yV _ hx)),ih hr.2 h2 (fun x hx=>cJ x (BJ _ hx)),rfl⟩
theorem OK{b0:Nat}{B:DataW H->Nat}(hB:∀es sp,List.length es<=B (.slice es sp))(hB2:∀d parts,d∈parts->B d<=B (.agg parts)){f:FuncId}{fn:Func}{s:ChangeSpec}{ct:dg}{Wd:World->Prop}{tb:TypeId}{W:World}{args:Array Value}{ds gs:List (DataW H)}{before:List MemPlace}
   (hOk:fj P Wd f ct) (hWd:Wd W) (ace:∀ds rs,ct.rel ds rs->rs=[.b true]) (ue:ct.sig.res=[.one (.c .b)]) (hvt:CU P fn.params.toList ct.sig.args=true) (hl:laidOutB P=true) (hr:(fn.params.toList.all fun t=>P.readableRec t&&decide (t<P.types.size))=true)
   (hrt:fn.resultTypes = #[tb]) (htb:P.underlying tb=some .bool) (WS:s.vars=[])
   (hs:∀ds:List (DataW H),ds.length=fn.params.toList.length->s.fn H ds = {results:=[.lit (.bool true)],args:=ds})
   (fY:∀(j:Nat) t v,fn.params[j]?=some t->args[j]?=some v->Value.okWide P W .any b0 t v) (hW:DataW.Whole enc P fn.params.toList s.vars false W args.toList ds gs before)
   (BT:∀Ff,CV (bI ct.sig.args) Ff->(∀xs,DV.l xs∈Ff->∃d∈ds,xs.length<=B d)->ct.pre Ff) :
   Calls P f args W fun e W'=>∃v,e = .returned v/\s.post enc P fn false true false false W args v W':=by
 have hW':=hW;obtain⟨p,q,hA,hV,rfl,hfz,pN⟩:=hW;rw[WS]at hV;obtain⟨rfl,rfl⟩:=trodVars_none hV;obtain⟨bT,Ff,h1,h2,h3⟩:=L5 hB hB2 hvt (fun j t v a b=>fY j t v (by simpa using a) (by simpa using b)) hA;have oF:=hOk.2 W args.toList Ff hWd ⟨bT,h2,H6 h1⟩ (BT Ff (LZ h1) h3);rw[Array.toArray_toList]at oF;refine Calls.mono oF fun e W' he=>?_;obtain⟨rv,gG,rfl,hb,hf,Tt,rP⟩:=he;have rP:gG=[.b true]:=ace _ _ rP;subst rP;rw[ue]at hf;have cJ:∀x∈p,x.block<W.heap.size:=fun x hx=>by simpa using hW'.lt x (by simpa using hx)
 have hrv:rv=[.bool true]:=by
   match rv,hf with
   | [v],hf=>
     have:v = .bool true:=hf.1;rw[this]
 subst hrv;refine⟨_,rfl,ds,[],p,[],p,[],by simpa using hW',?_,?_,?_,Below.frame hb _,fun h=>by cases h⟩;have hlen:(ds++[]).length=fn.params.toList.length:=by
   have:∀ {ts:List TypeId} {vs:List Value} {ds:List (DataW H)} {ps:List MemPlace},DataW.TrodAll enc P W 0 (fun _=>true) true ts vs ds ps->ds.length=ts.length:=by
     intro ts;induction ts with
     |nil=>intro vs ds ps h;obtain⟨_,rfl,_⟩:=trodAll_nil h;rfl
     |cons t ts ih=>intro vs ds ps h;obtain⟨_,_,_,_,_,_,_,rfl,_,_,h2⟩:=trodAll_cons h;simp[ih h2]
   simpa using this hA
 rw[hs _ hlen,hrt];rw[ue];show DataW.TrodAll enc P W' W.heap.size (fun _=>false) false [tb] [.bool true] [.lit (.bool true)] [];exact trodAll_mk1 ⟨1,by simp[DataW.trod,Value.cells,htb]⟩;have hlen:(ds++[]).length=fn.params.toList.length:=by
   have:∀ {ts:List TypeId} {vs:List Value} {ds:List (DataW H)} {ps:List MemPlace},DataW.TrodAll enc P W 0 (fun _=>true) true ts vs ds ps->ds.length=ts.length:=by
     intro ts;induction ts with
     |nil=>intro vs ds ps h;obtain⟨_,rfl,_⟩:=trodAll_nil h;rfl
     |cons t ts ih=>intro vs ds ps h;obtain⟨_,_,_,_,_,_,_,rfl,_,_,h2⟩:=trodAll_cons h;simp[ih h2]
   simpa using this hA
 rw[hs _ hlen,yS];exact L6 hl hb hr hA cJ;have hlen:(ds++[]).length=fn.params.toList.length:=by
   have:∀ {ts:List TypeId} {vs:List Value} {ds:List (DataW H)} {ps:List MemPlace},DataW.TrodAll enc P W 0 (fun _=>true) true ts vs ds ps->ds.length=ts.length:=by
     intro ts;induction ts with
     |nil=>intro vs ds ps h;obtain⟨_,rfl,_⟩:=trodAll_nil h;rfl
     |cons t ts ih=>intro vs ds ps h;obtain⟨_,_,_,_,_,_,_,rfl,_,_,h2⟩:=trodAll_cons h;simp[ih h2]
   simpa using this hA
 rw[hs _ hlen,WS];rfl
end
end Go.Sx

/- From a law's contract to a row's step. -/
import Derived.Test.YtohebioanhliiaaGreatDoorBA4
import Derived.Deep.Slices
import Derived.OpenShut
import Derived.WideShapes
import Derived.Carry
import Derived.ProofKit
set_option linter.unusedVariables false
set_option linter.unusedSimpArgs false
namespace Go.Sx
section
open Go.RowKit Go.WideShapes Go.ChangeShapes
variable {H:Type}{enc:TypeId×Value->H}{P:Program}{w:World}{base:Nat}{spare:Nat->Bool}{held:Bool}
def uD{α:Type}(P:Program)(g:TypeId->Option (List α)):Nat->List Field->Option (List α)
 |_,[]=>some []
 | off,f::fs=>if f.offset=off then(match g f.type with
   | some m=>if P.cellsOf f.type=m.length then(match uD P g (off+m.length) fs with
     |some r=>some (m++r)
     |none=>none)else none
   |none=>none)else none
def p9{α:Type}(P:Program)(leaf:TypeId->Option α):Nat->TypeId->Option (List α)
 |0,_=>none
 | n+1,t=>match leaf t with
   |some a=>some [a]
   | none=>match P.underlying t with
     |some (.struct fs)=>uD P (p9 P leaf n) 0 fs.toList
     | some (.array len e)=>match p9 P leaf n e with
       |some m=>if P.cellsOf e=m.length then some (List.replicate len m).flatten else none
       |none=>none
     |_=>none
def cM{α β:Type}(R:α->Value->β->Prop):List α->List Value->List β->Prop
 | [],[],[]=>True
 |c::cs,v::vs,d::ds=>R c v d/\cM R cs vs ds
 |_,_,_=>False
theorem nK{α β:Type}{R:α->Value->β->Prop}:∀ {cs oa:List α} {vs Lj:List Value} {ds xr:List β},cM R cs vs ds->cM R oa Lj xr->cM R (cs++oa) (vs++Lj) (ds++xr):=by
 intro cs;induction cs with
 |nil=>intro oa vs Lj ds xr h h';cases vs<;>cases ds<;>simp_all[cM]
 | cons c cs ih=>
   intro oa vs Lj ds xr h h';cases vs with
   |nil=>simp[cM]at h
   | cons v vs=>cases ds with
     |nil=>simp[cM]at h
     |cons d ds=>exact⟨h.1,ih h.2 h'⟩
theorem Gt{α β:Type}{R:α->Value->β->Prop}:∀ {cs:List α} {vs:List Value} {ds:List β},cM R cs vs ds->vs.length=cs.length/\ds.length=cs.length:=by
 intro cs;induction cs with
 |nil=>intro vs ds h;cases vs<;>cases ds<;>simp_all[cM]
 | cons c cs ih=>
   intro vs ds h;cases vs with
   |nil=>simp[cM]at h
   | cons v vs=>cases ds with
     |nil=>simp[cM]at h
     |cons d ds=>have:=ih h.2;simp[this.1,this.2]
theorem tA{α β:Type}{R:α->Value->β->Prop}{Q:β->DataW H->Prop}{leaf:TypeId->Option α}(hQ:∀b d parts,d∈parts->Q b d->Q b (.agg parts))
   (uw:∀t a fuel cs x,leaf t=some a->DataW.trod enc P w base spare held fuel t cs=some x->∃v b,cs=[v]/\R a v b/\Q b x.1) :
   ∀ {n:Nat} {t:TypeId} {as:List α} {fuel:Nat} {cs:List Value} {x:DataW H×List MemPlace},p9 P leaf n t=some as->(leaf t=none->P.cellsOf t=as.length)->DataW.trod enc P w base spare held fuel t cs=some x->
     ∃bs,cM R as cs bs/\∀b∈bs,Q b x.1:=by
 intro n;induction n with
 |zero=>intro t as fuel cs x h;simp[p9]at h
 | succ n ih=>
   intro t as fuel cs x h hC ht;simp only[p9]at h;split at h;rename_i a ha;simp only[af]at h;subst h;obtain⟨v,b,rfl,hr,hq⟩:=uw t a fuel cs x ha ht;exact⟨[b],⟨hr,trivial⟩,fun b' mE=>by simp at mE;subst mE;exact hq⟩;rename_i hl;have hC:=hC hl;have TY:∀ {t:TypeId} {as:List α} {fuel:Nat} {cs:List Value} {x:DataW H×List MemPlace},p9 P leaf n t=some as->P.cellsOf t=as.length->DataW.trod enc P w base spare held fuel t cs=some x->∃bs,cM R as cs bs/\∀b∈bs,Q b x.1:=
     fun h1 h2 h3=>ih h1 (fun _=>h2) h3
   split at h;rename_i fs hu;obtain⟨xs,m,_,rfl,hlen,nV,hf⟩:=DataW.trod_struct hu ht;rw[hC]at hlen;have key:∀(l:List Field) (off:Nat) (r:List α),uD P (p9 P leaf n) off l=some r->off+r.length=cs.length->(∀f∈l,∃y∈xs,DataW.trod enc P w base spare held m f.type ((cs.drop f.offset).take (P.cellsOf f.type))=some y)->
       ∃bs,cM R r (cs.drop off) bs/\∀b∈bs,Q b (.agg (xs.map (·.1))):=by
     intro l;induction l with
     | nil=>
       intro off r h hl _;simp only[uD,af]at h;subst h;refine⟨[],?_,fun b hb=>by simp at hb⟩;rw[ue (by simp at hl;omega)];trivial
     | cons f l ihl=>
       intro off r h hl b6;simp only[uD]at h;split at h;rename_i ho;split at h;rename_i mm hm;split at h;rename_i mD;split at h;rename_i r' cq;simp only[af]at h;subst h;obtain⟨y,hy,hty⟩:=b6 f (aM ..);obtain⟨bs1,h1,h2⟩:=TY hm mD hty;obtain⟨bs2,h3,h4⟩:=ihl (off+mm.length) r' cq (by simp at hl;omega) (fun f hf=>b6 f (aZ _ hf));refine⟨bs1++bs2,?_,fun b hb=>?_⟩;have e:cs.drop off=(cs.drop off).take mm.length++cs.drop (off+mm.length):=by
         rw[<- List.drop_drop,BZ]
       rw[e];rw[ho,mD]at h1;exact nK h1 h3;rcases oQ.1 hb with hb|hb;exact hQ b y.1 _ (List.mem_map_of_mem hy) (h2 b hb);exact h4 b hb;cases h;cases h;cases h;cases h
   have:=key fs.toList 0 as h (by omega) (fun f a6=>by
     obtain⟨i,hi⟩:=List.mem_iff_getElem?.1 a6;have Ra:fs[i]?=some f:=by simpa using hi
     have h1:=hf i f Ra;have cF:i<xs.length:=by rw[nV];exact(qd.1 Ra).1
     rw[fV cF]at h1;exact⟨_,List.getElem_mem cF,h1⟩)
   simpa using this;rename_i len e hu;split at h;rename_i mm hm;split at h;rename_i mD;simp only[af]at h;subst h;obtain⟨xs,m,_,rfl,hlen,nV,hf⟩:=DataW.trod_array hu ht;rw[hC]at hlen;have hfl:∀k:Nat,(List.replicate k mm).flatten.length=k*mm.length:=fun k=>by simp
   rw[hfl]at hlen;have key:∀k i:Nat,i+k=len->∃bs,cM R (List.replicate k mm).flatten (cs.drop (i*mm.length)) bs/\∀b∈bs,Q b (.agg (xs.map (·.1))):=by
     intro k;induction k with
     | zero=>
       intro i hi;have:i=len:=by omega
       subst this;refine⟨[],?_,fun b hb=>by simp at hb⟩;rw[ue (by omega)];trivial
     | succ k ihk=>
       intro i hi;have h1:=hf i (by omega);rw[fV (by omega),mD]at h1;obtain⟨bs1,g1,g2⟩:=TY hm mD h1;obtain⟨bs2,g3,g4⟩:=ihk (i+1) (by omega);refine⟨bs1++bs2,?_,fun b hb=>?_⟩;have e1:cs.drop (i*mm.length)=(cs.drop (i*mm.length)).take mm.length++cs.drop ((i+1)*mm.length):=by
         rw[j7,Nat.one_mul,<- List.drop_drop,BZ]
       have e2:(List.replicate (k+1) mm).flatten=mm++(List.replicate k mm).flatten:=by simp[List.replicate_succ]
       rw[e1,e2];exact nK g1 g3;rcases oQ.1 hb with hb|hb;exact hQ b _ _ (List.mem_map_of_mem (List.getElem_mem (by omega))) (g2 b hb);exact g4 b hb
   have:=key len 0 (by omega);simpa using this;cases h;cases h;cases h
def mr:CK->Int->Prop
 |.i k,n=>k.min<=n/\n<=k.max
 |.b,n=>n=0\/n=1
 |.f,_=>True
def wV:List CK->List Int->Prop
 | [],[]=>True
 |k::ks,n::ns=>mr k n/\wV ks ns
 |_,_=>False
def MI(P:Program)(t:TypeId):Option CK:=
 match P.underlying t with
 |some (.int k)=>some (.i k)
 |some .bool=>some .b
 |_=>none
def Br(P:Program)(t:TypeId):Option CT:=
 match P.underlying t with
 |some (.int k)=>some (.c (.i k))
 |some .bool=>some (.c .b)
 | some (.slice e)=>match p9 P (MI P) 16 e with
   |some ks=>if 0<ks.length/\P.cellsOf e=ks.length then some (.s e ks)else none
   |none=>none
 |_=>none
theorem MJ{k:IntKind}{n:Int}(h:(Lit.int k n).wf=true):k.min<=n/\n<=k.max:=by simpa[Lit.wf]using h
theorem Gu:∀ {ks:List CK} {vs:List Value} {row:List Int} (pre:List Int),cM (fun k v n=>v=k.val n/\mr k n) ks vs row->vs=bG ks pre.length (pre++row)/\wV ks row:=by
 intro ks;induction ks with
 |nil=>intro vs row pre h;cases vs<;>cases row<;>simp_all[cM,bG,wV]
 | cons k ks ih=>
   intro vs row pre h;cases vs with
   |nil=>simp[cM]at h
   | cons v vs=>cases row with
     |nil=>simp[cM]at h
     | cons n row=>
       obtain⟨⟨h1,h2⟩,h3⟩:=h;obtain⟨e1,e2⟩:=ih (pre++[n]) h3;refine⟨?_,h2,e2⟩;simp only[bG];rw[h1,e1];congr 1;simp[List.getD];simp
theorem MK{t:TypeId}{ks:List CK}{fuel:Nat}{cs:List Value}{x:DataW H×List MemPlace}(hk:p9 P (MI P) 16 t=some ks)(hC:P.cellsOf t=ks.length)(h:DataW.trod enc P w base spare held fuel t cs=some x) :
   ∃row,cs=bG ks 0 row/\wV ks row:=by
 obtain⟨row,h1,_⟩:=tA (R:=fun k v n=>v=k.val n/\mr k n) (Q:=fun _ _=>True) (fun _ _ _ _ _=>trivial) (fun t a fuel cs x ha ht=>by
   unfold MI at ha;split at ha;rename_i k hu;simp only[af]at ha;subst ha;obtain⟨n,rfl,_,hw⟩:=DataW.trod_int hu ht;exact⟨_,n,rfl,⟨rfl,MJ hw⟩,trivial⟩;rename_i hu;simp only[af]at ha;subst ha;obtain⟨b,rfl,_⟩:=DataW.trod_bool hu ht;refine⟨_,if b then 1 else 0,rfl,⟨?_,?_⟩,trivial⟩;cases b<;>simp[CK.val];cases b<;>simp[mr];cases ha) hk (fun _=>hC) h
 obtain⟨e1,e2⟩:=Gu [] h1;exact⟨row,by simpa using e1,e2⟩
def aaL:NK->Int×List Int->Prop
 |.c k,d=>mr k d.1/\d.2=[]
 |.s _ k,d=>d.1=(d.2.length:Int)/\d.2.length<=maxLen/\∀x∈d.2,mr k x
def wW:List NK->List (Int×List Int)->Prop
 | [],[]=>True
 |k::ks,d::ds=>aaL k d/\wW ks ds
 |_,_=>False
def tB(ds:List (Int×List Int)):List Int:=ds.map (·.1)++ds.flatMap (·.2)
def Wa:CT->DV->Prop
 |.c (.i k),.i n=>mr (.i k) n
 |.c .b,.b _=>True
 |.s _ ks,.l xs=>xs.length<=maxLen/\∀row∈xs,wV ks row
 |.n _ aH,.l xs=>xs.length<=maxLen/\∀row∈xs,∃ds,row=tB ds/\wW aH ds
 |_,_=>False
def Gw(w:World):CT->Value->DV->Prop:=fun c v d=>jE (kX w) c v d/\Wa c d
theorem Gx{w:World}:∀ {cs:List CT} {vs:List Value} {ds:List DV},cM (Gw w) cs vs ds->fitAll (kX w) cs vs ds:=by
 intro cs;induction cs with
 |nil=>intro vs ds h;cases vs<;>cases ds<;>simp_all[cM,fitAll]
 | cons c cs ih=>
   intro vs ds h;cases vs with
   |nil=>simp[cM]at h
   | cons v vs=>cases ds with
     |nil=>simp[cM]at h
     |cons d ds=>exact⟨h.1.1,ih h.2⟩
theorem yU{B:DataW H->Nat}(hB:∀es sp,List.length es<=B (.slice es sp))(t:TypeId)(a:CT)(fuel:Nat)(cs:List Value)(x:DataW H×List MemPlace)(ha:Br P t=some a)(ht:DataW.trod enc P w base spare held fuel t cs=some x) :
   ∃v b,cs=[v]/\Gw w a v b/\(∀xs,b=DV.l xs->xs.length<=B x.1):=by
 unfold Br at ha;split at ha;rename_i k hu;simp only[af]at ha;subst ha;obtain⟨n,rfl,_,hw⟩:=DataW.trod_int hu ht;exact⟨_,.i n,rfl,⟨rfl,MJ hw⟩,fun xs h=>by cases h⟩;rename_i hu;simp only[af]at ha;subst ha;obtain⟨b,rfl,_⟩:=DataW.trod_bool hu ht;exact⟨_,.b b,rfl,⟨rfl,trivial⟩,fun xs h=>by cases h⟩;rename_i e hu;split at ha;rename_i ks lR;split at ha;rename_i hc;simp only[af]at ha;subst ha;rcases Go.Deep.open_slice hu ht with⟨rfl,rfl⟩|⟨a,len,cap,m,n,D,Pl,rfl,hb,hl,hm,hmm,rfl,hi⟩;refine⟨_,.l [],rfl,⟨⟨hc.1,none,0,rfl,⟨Nat.zero_le _,Nat.zero_le _⟩,fun _=>⟨rfl,rfl⟩,fun j u hj=>by simp[av]at hj⟩,Nat.zero_le _,fun row hr=>by simp at hr⟩,fun xs h=>by cases h;exact Nat.zero_le _⟩;have hle:len<=m:=by rw[hmm];split<;>omega
 have aY:∀i,i<len->∃row,(∃oa,w.cells? base (a.add (i*ks.length)) ks.length=some oa/\oa=bG ks 0 row)/\wV ks row:=fun i hil=>by
   obtain⟨oa,h1,h2⟩:=hi i (by omega);obtain⟨row,h3,h4⟩:=MK lR hc.2 h2;rw[hc.2]at h1;exact⟨row,⟨oa,h1,h3⟩,h4⟩
 have b6:∀k,k<=len->∃xs:List (List Int),xs.length=k/\(∀i,i<k->∃row,xs[i]?=some row/\wV ks row/\w.cells? base (a.add (i*ks.length)) ks.length=some (bG ks 0 row)):=by
   intro k;induction k with
   |zero=>intro _;exact⟨[],rfl,fun i h=>by omega⟩
   | succ k ih=>
     intro hk;obtain⟨xs,nV,hx⟩:=ih (by omega);obtain⟨row,⟨oa,h1,rfl⟩,h2⟩:=aY k (by omega);refine⟨xs++[row],by simp[nV],fun i hik=>?_⟩;rcases pf i k with h|h;obtain⟨r,e1,e2⟩:=hx i h;exact⟨r,by rw[nT (by omega)];exact e1,e2⟩;have:i=k:=by omega
     subst this;exact⟨row,by rw[qv (by omega)];simp[nV],h2,h1⟩
 obtain⟨xs,nV,hx⟩:=b6 len (eZ _);have dy:∀row∈xs,wV ks row:=fun row aY=>by
   obtain⟨i,hi⟩:=List.mem_iff_getElem?.1 aY;obtain⟨r,e1,e2,_⟩:=hx i (by have:=(cC.1 hi).1;omega);rw[hi,af]at e1;subst e1;exact e2
 refine⟨_,.l xs,rfl,⟨⟨hc.1,some a,cap,by rw[nV],⟨by omega,by omega⟩,fun h=>(by cases h),fun j u hj=>⟨a,rfl,?_⟩⟩,by omega,dy⟩,fun ys h=>(by cases h;exact jS (by simp[nV]) (hB _ _))⟩;have Fw:j<xs.length*ks.length:=by rw[<- bH];exact(cC.1 hj).1
 have hq:j/ks.length<xs.length:=Nat.div_lt_of_lt_mul (by rw[Nat.mul_comm];exact Fw);have hr:j%ks.length<ks.length:=Nat.mod_lt _ hc.1;have hjj:j=(j/ks.length)*ks.length+j%ks.length:=by rw[Nat.mul_comm];exact(Nat.div_add_mod j ks.length).symm
 obtain⟨row,e1,e2,e3⟩:=hx (j/ks.length) (by omega);obtain⟨_,_,Jb⟩:=World.cells?_some e3;have h1:=Jb (j%ks.length) hr;rw[hjj,lk ks xs _ _ hq hr]at hj;rw[hO]at h1;simp only[eI,e1,Option.getD_some]at hj;simp only[fP,eI]at h1;rw[hj]at h1;rw[hjj,<- h1];congr 1;rw[gd];cases ha;cases ha;cases ha
end
section
open Go.RowKit Go.WideShapes Go.ChangeShapes
variable {H:Type}{enc:TypeId×Value->H}{P:Program}{w:World}{base:Nat}{spare:Nat->Bool}{held:Bool}
theorem J':∀ {aH:List NK} {ds:List (Int×List Int)},wW aH ds->ds.length=aH.length:=by
 intro aH;induction aH with
 | nil=>intro ds h;cases ds with
   |nil=>rfl
   |cons _ _=>exact h.elim
 | cons k aH ih=>intro ds h;cases ds with
   |nil=>exact h.elim
   |cons d ds=>simp[ih h.2]
theorem Sc:∀ {aH:List NK} {ds:List (Int×List Int)} (rest:List Int) {j:Nat} {d:Int×List Int},wW aH ds->ds[j]?=some d->mL aH (ds.map (·.1)) (ds.flatMap (·.2)++rest) j=d.2:=by
 intro aH;induction aH with
 | nil=>intro ds rest j d h hd;cases ds with
   |nil=>simp at hd
   |cons _ _=>exact h.elim
 | cons k aH ih=>intro ds rest j d h hd;cases ds with
   |nil=>exact h.elim
   | cons d0 ds=>
     cases k with
     | c k=>
       have h2:d0.2=[]:=h.1.2;cases j with
       |zero=>simp only[jo,af]at hd;subst hd;rw[h2];rfl
       | succ j=>
         simp only[xO]at hd;have:=ih rest h.2 hd;simpa[mL,h2]using this
     | s e k=>
       have h1:d0.1=(d0.2.length:Int):=h.1.1;cases j with
       | zero=>
         simp only[jo,af]at hd;subst hd;simp[mL,h1]
       | succ j=>
         simp only[xO]at hd;have:=ih rest h.2 hd;simpa[mL,h1]using this
theorem Ka{aH:List NK}{ds:List (Int×List Int)}(h:wW aH ds){j:Nat}{d:Int×List Int}(hd:ds[j]?=some d):fW aH (tB ds) j=d.2:=by
 have hl:=J' h;unfold fW tB;rw[DY (by simp[hl]),oV (by simp[hl]),FN (by simp[hl]),ue (by simp[hl])];have:=Sc [] h hd;simpa using this
theorem Gy{aH:List NK}{ds:List (Int×List Int)}(h:wW aH ds){j:Nat}{d:Int×List Int}(hd:ds[j]?=some d):(tB ds).getD j 0=d.1:=by
 have hj:=(cC.1 hd).1;unfold tB;rw[eI,nT (by simpa using hj),gJ,hd];rfl
def H6(P:Program)(t:TypeId):Option NK:=match Br P t with
 |some (.c k)=>some (.c k)
 |some (.s e [k])=>some (.s e k)
 |_=>none
def yV(P:Program)(t:TypeId):Option CT:=match Br P t with
 |some a=>some a
 | none=>match P.underlying t with
   | some (.slice e)=>match p9 P (H6 P) 16 e with
     |some aH=>if 0<aH.length/\P.cellsOf e=aH.length then some (.n e aH)else none
     |none=>none
   |_=>none
def nR(w:World)(nk:NK)(v:Value)(d:Int×List Int):Prop:=pV (fun k=>k<w.heap.size) w nk d.1 d.2 v/\aaL nk d
theorem Gz(t:TypeId)(a:NK)(fuel:Nat)(cs:List Value)(x:DataW H×List MemPlace)(ha:H6 P t=some a)(ht:DataW.trod enc P w base spare held fuel t cs=some x):∃v d,cs=[v]/\nR w a v d:=by
 unfold H6 at ha;have key:=fun c hc=>yU (B:=fun d=>match d with| .slice es _=>es.length|_=>0) (fun es sp=>eZ _) t c fuel cs x hc ht;split at ha;rename_i k hk;simp only[af]at ha;subst ha;obtain⟨v,b,rfl,⟨h1,h2⟩,_⟩:=key _ hk;cases k with
 | i k=>cases b with
   |i n=>exact⟨v,(n,[]),rfl,h1,h2,rfl⟩
   |b _=>exact h2.elim
   |l _=>exact h2.elim
 | b=>cases b with
   |b n=>exact⟨v,(if n then 1 else 0,[]),rfl,by have h1:v = .bool n:=h1;rw[h1];cases n<;>rfl,by cases n<;>simp[mr],rfl⟩
   |i _=>exact h2.elim
   |l _=>exact h2.elim
 |f=>exact h2.elim
 rename_i e k hk;simp only[af]at ha;subst ha;obtain⟨v,b,rfl,⟨h1,h2⟩,_⟩:=key _ hk;cases b with
 |i _=>exact h2.elim
 |b _=>exact h2.elim
 | l xs=>
   obtain⟨hl,dy⟩:=h2;have hr:∀row∈xs,∃n,row=[n]/\mr k n:=fun row aY=>by
     have:=dy row aY
     match row,this with
     | [n],h=>exact⟨n,rfl,h.1⟩
   have hx:∀xs:List (List Int),(∀row∈xs,∃n,row=[n]/\mr k n)->∃ns:List Int,xs=ns.map (fun n=>[n])/\∀n∈ns,mr k n:=by
     intro xs;induction xs with
     |nil=>intro _;exact⟨[],rfl,fun n h=>by simp at h⟩
     | cons r xs ih=>
       intro h;obtain⟨n,rfl,hn⟩:=h r (aM ..);obtain⟨ns,rfl,CC⟩:=ih fun row aY=>h row (aZ _ aY);exact⟨n::ns,rfl,fun m hm=>(bh.1 hm).elim (fun e=>e▸hn) (CC m)⟩
   obtain⟨ns,rfl,CC⟩:=hx xs hr;have h1:0 < [k].length/\Reads w v (ns.map fun n=>[n]).length (av [k] (ns.map fun n=>[n])):=h1;obtain⟨_,h1⟩:=h1;rw[kT]at h1 hl;refine⟨v,(ns.length,ns),rfl,⟨rfl,h1,fun ck b hb=>?_⟩,rfl,hl,CC⟩;obtain⟨a,cap,rfl,_,_,ix⟩:=h1
   match ns,ck with
   | n::ns,_=>
     obtain⟨a,rfl,ha⟩:=ix 0 (k.val n) rfl;simp only[Value.ownBlock,af]at hb;have:=World.block_lt_of_cell? w (a.add 0) ha;rw[Addr.add_zero']at this;omega
 cases ha
theorem Bs{α β:Type}{R:α->Value->β->Prop}:∀ {cs:List α} {vs:List Value} {ds:List β},cM R cs vs ds->∀ {j:Nat} {c:α},cs[j]?=some c->∃v d,vs[j]?=some v/\ds[j]?=some d/\R c v d:=by
 intro cs;induction cs with
 |nil=>intro vs ds h j c hc;simp at hc
 | cons c cs ih=>
   intro vs ds h j c' hc;cases vs with
   |nil=>exact h.elim
   | cons v vs=>cases ds with
     |nil=>exact h.elim
     | cons d ds=>cases j with
       |zero=>simp only[jo,af]at hc;subst hc;exact⟨v,d,rfl,rfl,h.1⟩
       |succ j=>exact ih h.2 (by simpa using hc)
theorem yW{w:World}:∀ {aH:List NK} {vs:List Value} {ds:List (Int×List Int)},cM (nR w) aH vs ds->wW aH ds:=by
 intro aH;induction aH with
 |nil=>intro vs ds h;cases vs<;>cases ds<;>simp_all[cM,wW]
 | cons k aH ih=>
   intro vs ds h;cases vs with
   |nil=>exact h.elim
   | cons v vs=>cases ds with
     |nil=>exact h.elim
     |cons d ds=>exact⟨h.1.2,ih h.2⟩
theorem Kb{t:TypeId}{aH:List NK}{fuel:Nat}{cs:List Value}{x:DataW H×List MemPlace}(hk:p9 P (H6 P) 16 t=some aH)(hC:P.cellsOf t=aH.length)(h:DataW.trod enc P w base spare held fuel t cs=some x) :
   ∃ds,cM (nR w) aH cs ds:=by
 obtain⟨ds,h1,_⟩:=tA (R:=nR w) (Q:=fun _ _=>True) (fun _ _ _ _ _=>trivial) (fun t a fuel cs x ha ht=>by
   obtain⟨v,d,h1,h2⟩:=Gz t a fuel cs x ha ht;exact⟨v,d,h1,h2,trivial⟩) hk (fun _=>hC) h
 exact⟨ds,h1⟩
theorem yX{B:DataW H->Nat}(hB:∀es sp,List.length es<=B (.slice es sp))(t:TypeId)(a:CT)(fuel:Nat)(cs:List Value)(x:DataW H×List MemPlace)(ha:yV P t=some a)(ht:DataW.trod enc P w base spare held fuel t cs=some x) :
   ∃v b,cs=[v]/\Gw w a v b/\(∀xs,b=DV.l xs->xs.length<=B x.1):=by
 unfold yV at ha;split at ha;rename_i c hc;simp only[af]at ha;subst ha;exact yU hB t _ fuel cs x hc ht;split at ha;rename_i e hu;split at ha;rename_i aH lR;split at ha;rename_i hc;simp only[af]at ha;subst ha;rcases Go.Deep.open_slice hu ht with⟨rfl,rfl⟩|⟨a,len,cap,m,n,D,Pl,rfl,hb,hl,hm,hmm,rfl,hi⟩;refine⟨_,.l [],rfl,⟨⟨hc.1,none,0,rfl,Nat.zero_le _,fun _=>⟨rfl,rfl⟩,fun i r hi=>by simp at hi⟩,Nat.zero_le _,fun row hr=>by simp at hr⟩,fun xs h=>by cases h;exact Nat.zero_le _⟩;have hle:len<=m:=by rw[hmm];split<;>omega
 have aY:∀i,i<len->∃ds,∃oa,w.cells? base (a.add (i*aH.length)) aH.length=some oa/\cM (nR w) aH oa ds:=fun i hil=>by
   obtain⟨oa,h1,h2⟩:=hi i (by omega);obtain⟨ds,h3⟩:=Kb lR hc.2 h2;rw[hc.2]at h1;exact⟨ds,oa,h1,h3⟩
 have b6:∀k,k<=len->∃xs:List (List Int),xs.length=k/\(∀i,i<k->∃ds,xs[i]?=some (tB ds)/\∃oa,w.cells? base (a.add (i*aH.length)) aH.length=some oa/\cM (nR w) aH oa ds):=by
   intro k;induction k with
   |zero=>intro _;exact⟨[],rfl,fun i h=>by omega⟩
   | succ k ih=>
     intro hk;obtain⟨xs,nV,hx⟩:=ih (by omega);obtain⟨ds,tS⟩:=aY k (by omega);refine⟨xs++[tB ds],by simp[nV],fun i hik=>?_⟩;rcases pf i k with h|h;obtain⟨r,e1,e2⟩:=hx i h;exact⟨r,by rw[nT (by omega)];exact e1,e2⟩;have:i=k:=by omega
     subst this;exact⟨ds,by rw[qv (by omega)];simp[nV],tS⟩
 obtain⟨xs,nV,hx⟩:=b6 len (eZ _);refine⟨_,.l xs,rfl,⟨⟨hc.1,some a,cap,by rw[nV],by omega,fun h=>(by cases h),fun i r ZQ=>⟨a,rfl,?_,fun j nk hj=>?_⟩⟩,by omega,fun row aY=>?_⟩,fun ys h=>(by cases h;exact jS (by simp[nV]) (hB _ _))⟩;obtain⟨ds,_,oa,h1,h2⟩:=hx i (by have:=(cC.1 ZQ).1;omega);obtain⟨_,_,Jb⟩:=World.cells?_some h1;obtain⟨v,d,hv,_⟩:=Bs h2 (fV hc.1);have:=Jb 0 hc.1;rw[hv]at this;have:=World.block_lt_of_cell? w _ this;rw[ju,ju]at this;exact this;obtain⟨ds,e1,oa,h1,h2⟩:=hx i (by have:=(cC.1 ZQ).1;omega);rw[ZQ,af]at e1;subst e1;obtain⟨_,_,Jb⟩:=World.cells?_some h1;obtain⟨v,d,hv,hd,hn⟩:=Bs h2 hj;have h3:=Jb j (cC.1 hj).1;rw[hv,gd]at h3;have lR:=yW h2;refine⟨v,h3,?_⟩;rw[Gy lR hd,Ka lR hd];exact hn.1;obtain⟨i,ZQ⟩:=List.mem_iff_getElem?.1 aY;obtain⟨ds,e1,oa,h1,h2⟩:=hx i (by have:=(cC.1 ZQ).1;omega);rw[ZQ,af]at e1;exact⟨ds,e1,yW h2⟩;cases ha;cases ha;cases ha
end
section
open Go.RowKit Go.WideShapes Go.ChangeShapes
variable {H:Type}{enc:TypeId×Value->H}{P:Program}
def Kc(P:Program)(t:TypeId):VT->Bool
 |.one c=>decide (yV P t=some c)
 | .agg cs=>(match P.underlying t with
   |some (.struct _)=>true
   |some (.array _ _)=>true
   |_=>false)&&decide (p9 P (yV P) 16 t=some cs)&&decide (P.cellsOf t=cs.length)&&decide (yV P t=none)
 |.ptr _ _=>false
 |.fn _ _=>false
def Bt(P:Program):List TypeId->List VT->Bool
 | [],[]=>true
 |t::ts,v::vs=>Kc P t v&&Bt P ts vs
 |_,_=>false
def EE:List CT->List DV->Prop
 | [],[]=>True
 |c::cs,d::ds=>Wa c d/\EE cs ds
 |_,_=>False
theorem Kd{w:World}:∀ {cs:List CT} {vs:List Value} {ds:List DV},cM (Gw w) cs vs ds->EE cs ds:=by
 intro cs;induction cs with
 |nil=>intro vs ds h;cases vs<;>cases ds<;>simp_all[cM,EE]
 | cons c cs ih=>
   intro vs ds h;cases vs with
   |nil=>simp[cM]at h
   | cons v vs=>cases ds with
     |nil=>simp[cM]at h
     |cons d ds=>exact⟨h.1.2,ih h.2⟩
theorem Ke{t:TypeId}{c:CT}(h:Br P t=some c):(∃k,P.underlying t=some (.int k))\/P.underlying t=some .bool\/∃e,P.underlying t=some (.slice e):=by
 unfold Br at h;split at h;rename_i k hu;exact .inl ⟨k,hu⟩;rename_i hu;exact .inr (.inl hu);rename_i e hu;exact .inr (.inr ⟨e,hu⟩);cases h
theorem Kf{t:TypeId}{c:CT}(h:yV P t=some c):(∃k,P.underlying t=some (.int k))\/P.underlying t=some .bool\/∃e,P.underlying t=some (.slice e):=by
 unfold yV at h;split at h;rename_i a ha;exact Ke ha;split at h;rename_i e hu;exact .inr (.inr ⟨e,hu⟩);cases h
theorem ML{b0:Nat}{B:DataW H->Nat}(hB:∀es sp,List.length es<=B (.slice es sp))(hB2:∀d parts,d∈parts->B d<=B (.agg parts)){W:World}{t:TypeId}{vt:VT}{v:Value}{d:DataW H}{p:List MemPlace}(hv:Kc P t vt=true)
   (iQ:Value.okWide P W .any b0 t v) (h:DataW.Trod enc P W 0 (fun _=>true) true t v d p) :
   ∃bL DI,cM (Gw W) vt.bt bL DI/\(∀ts rest,bQ (vt::ts) (bL++rest)=v::bQ ts rest)/\∀xs,DV.l xs∈DI->xs.length<=B d:=by
 obtain⟨fuel,hf⟩:=h;cases vt with
 |ptr e k=>simp[Kc]at hv
 |fn g cs=>simp[Kc]at hv
 | one c=>
   simp only[Kc,aD]at hv;obtain⟨v',b,ix,hr,hq⟩:=yX (B:=B) hB t c fuel _ _ hv hf;have hvv:v.cells.toList=[v]:=by
     rcases Kf hv with⟨k,hu⟩|hu|⟨e,hu⟩;obtain⟨n,rfl⟩:=okWide_int hu iQ;rfl;obtain⟨n,rfl⟩:=okWide_bool hu iQ;rfl;obtain⟨a,len,cap,rfl⟩:=okWide_slice hu iQ;rfl
   rw[hvv]at ix;simp only[List.cons.injEq,and_true]at ix;subst ix;refine⟨[v],[b],⟨hr,trivial⟩,fun ts rest=>rfl,fun xs hx=>?_⟩;simp only[lU]at hx;exact hq xs hx.symm
 | agg cs=>
   simp only[Kc,ah,aD]at hv;obtain⟨⟨⟨Rm,Ul⟩,hv3⟩,hv4⟩:=hv;obtain⟨c,rfl⟩:∃c,v = .agg c:=by
     unfold Value.okWide at iQ;split at Rm;rename_i hu;rw[hu]at iQ;obtain⟨c,h,_⟩:=iQ;exact⟨c,h⟩;rename_i hu;rw[hu]at iQ;obtain⟨c,h,_⟩:=iQ;exact⟨c,h⟩;cases Rm
   obtain⟨bs,h1,h2⟩:=tA (R:=Gw W) (Q:=fun b (d:DataW H)=>∀xs,b=DV.l xs->xs.length<=B d) (fun b d parts hm hq xs hx=>jS (hq xs hx) (hB2 d parts hm)) (yX hB) Ul (fun _=>hv3) hf;have hl:=(Gt h1).1;refine⟨_,bs,h1,fun ts rest=>?_,fun xs hx=>h2 _ hx xs rfl⟩;simp only[bQ,VT.bt]at hl ⊢;rw[DY (by omega),oV (by omega),FN (by omega),ue (by omega)];rfl
theorem Kg{b0:Nat}{B:DataW H->Nat}(hB:∀es sp,List.length es<=B (.slice es sp))(hB2:∀d parts,d∈parts->B d<=B (.agg parts)){W:World}:∀ {ts:List TypeId} {Ro:List VT} {vs:List Value} {ds:List (DataW H)} {ps:List MemPlace},Bt P ts Ro=true->
   (∀(j:Nat) (t:TypeId) (v:Value),ts[j]?=some t->vs[j]?=some v->Value.okWide P W .any b0 t v)->DataW.TrodAll enc P W 0 (fun _=>true) true ts vs ds ps->
   ∃bL DI,cM (Gw W) (bt Ro) bL DI/\vs=bQ Ro bL/\∀xs,DV.l xs∈DI->∃d∈ds,xs.length<=B d:=by
 intro ts;induction ts with
 | nil=>
   intro Ro vs ds ps hv iQ h;cases Ro with
   |nil=>obtain⟨rfl,rfl,rfl⟩:=trodAll_nil h;exact⟨[],[],trivial,rfl,fun xs hx=>by simp at hx⟩
   |cons _ _=>simp[Bt]at hv
 | cons t ts ih=>
   intro Ro vs ds ps hv iQ h;cases Ro with
   |nil=>simp[Bt]at hv
   | cons vt Ro=>
     simp only[Bt,ah]at hv;obtain⟨v,Lj,d,xr,p,q,rfl,rfl,rfl,h1,h2⟩:=trodAll_cons h;obtain⟨c1,d1,g1,g2,g3⟩:=ML hB hB2 hv.1 (iQ 0 t v rfl rfl) h1;obtain⟨c2,d2,k1,k2,k3⟩:=ih hv.2 (fun j t v a b=>iQ (j+1) t v (by simpa using a) (by simpa using b)) h2;have e:bt (vt::Ro)=vt.bt++bt Ro:=by simp[bt]
     refine⟨c1++c2,d1++d2,by rw[e];exact nK g1 k1,by rw[g2,k2],fun xs hx=>?_⟩;rcases oQ.1 hx with hx|hx;exact⟨d,aM ..,g3 xs hx⟩;obtain⟨d',hd',hl⟩:=k3 xs hx;exact⟨d',aZ _ hd',hl⟩
theorem Kh{W W':World}(hl:laidOutB P=true)(hb:Below W.heap.size W W'):∀ {ts:List TypeId} {vs:List Value} {ds:List (DataW H)} {ps:List MemPlace},(ts.all fun t=>P.readableRec t&&decide (t<P.types.size))=true->
   DataW.TrodAll enc P W 0 (fun _=>true) true ts vs ds ps->(∀x∈ps,x.block<W.heap.size)->DataW.TrodAll enc P W' 0 (fun b=>decide (b<W.heap.size)) true ts vs ds ps:=by
 intro ts;induction ts with
 |nil=>intro vs ds ps _ h _;obtain⟨rfl,rfl,rfl⟩:=trodAll_nil h;exact trodAll_mk0
 | cons t ts ih=>
   intro vs ds ps hr h cF;simp only[List.all_cons,ah,aD]at hr;obtain⟨v,Lj,d,xr,p,q,rfl,rfl,rfl,h1,h2⟩:=trodAll_cons h;exact⟨p,q,Below.trod hl hr.1.1 hr.1.2 h1 hb (fun x hx=>cF x (yb _ hx)),ih hr.2 h2 (fun x hx=>cF x (Ci _ hx)),rfl⟩
theorem MN{b0:Nat}{B:DataW H->Nat}(hB:∀es sp,List.length es<=B (.slice es sp))(hB2:∀d parts,d∈parts->B d<=B (.agg parts)){f:FuncId}{fn:Func}{s:ChangeSpec}{ct:cL}{Wd:World->Prop}{tb:TypeId}{W:World}{args:Array Value}{ds gs:List (DataW H)}{before:List MemPlace}
   (hOk:eD P Wd f ct) (hWd:Wd W) (aaM:∀ds rs,ct.rel ds rs->rs=[.b true]) (sL:ct.sig.res=[.one (.c .b)]) (hvt:Bt P fn.params.toList ct.sig.args=true) (hl:laidOutB P=true) (hr:(fn.params.toList.all fun t=>P.readableRec t&&decide (t<P.types.size))=true)
   (hrt:fn.resultTypes = #[tb]) (Sd:P.underlying tb=some .bool) (Um:s.vars=[])
   (hs:∀ds:List (DataW H),ds.length=fn.params.toList.length->s.fn H ds = {results:=[.lit (.bool true)],args:=ds})
   (fi:∀(j:Nat) t v,fn.params[j]?=some t->args[j]?=some v->Value.okWide P W .any b0 t v) (hW:DataW.Whole enc P fn.params.toList s.vars false W args.toList ds gs before)
   (Az:∀DI,EE (bt ct.sig.args) DI->(∀xs,DV.l xs∈DI->∃d∈ds,xs.length<=B d)->ct.pre DI) :
   Calls P f args W fun e W'=>∃v,e = .returned v/\s.post enc P fn false true false false W args v W':=by
 have hW':=hW;obtain⟨p,q,hA,hV,rfl,hfz,n9⟩:=hW;rw[Um]at hV;obtain⟨rfl,rfl⟩:=trodVars_none hV;obtain⟨bL,DI,h1,h2,h3⟩:=Kg hB hB2 hvt (fun j t v a b=>fi j t v (by simpa using a) (by simpa using b)) hA;have mV:=hOk.2 W args.toList DI hWd ⟨bL,h2,Gx h1⟩ (Az DI (Kd h1) h3);rw[Array.toArray_toList]at mV;refine Calls.mono mV fun e W' he=>?_;obtain⟨rv,fE,rfl,hb,hf,Rd,qk⟩:=he;have qk:fE=[.b true]:=aaM _ _ qk;subst qk;rw[sL]at hf;have cF:∀x∈p,x.block<W.heap.size:=fun x hx=>by simpa using hW'.lt x (by simpa using hx)
 have hrv:rv=[.bool true]:=by
   match rv,hf with
   | [v],hf=>
     have:v = .bool true:=hf.1;rw[this]
 subst hrv;refine⟨_,rfl,ds,[],p,[],p,[],by simpa using hW',?_,?_,?_,Below.frame hb _,fun h=>by cases h⟩;have hlen:(ds++[]).length=fn.params.toList.length:=by
   have:∀ {ts:List TypeId} {vs:List Value} {ds:List (DataW H)} {ps:List MemPlace},DataW.TrodAll enc P W 0 (fun _=>true) true ts vs ds ps->ds.length=ts.length:=by
     intro ts;induction ts with
     |nil=>intro vs ds ps h;obtain⟨_,rfl,_⟩:=trodAll_nil h;rfl
     |cons t ts ih=>intro vs ds ps h;obtain⟨_,_,_,_,_,_,_,rfl,_,_,h2⟩:=trodAll_cons h;simp[ih h2]
   simpa using this hA
 rw[hs _ hlen,hrt];rw[sL];show DataW.TrodAll enc P W' W.heap.size (fun _=>false) false [tb] [.bool true] [.lit (.bool true)] [];exact trodAll_mk1 ⟨1,by simp[DataW.trod,Value.cells,Sd]⟩;have hlen:(ds++[]).length=fn.params.toList.length:=by
   have:∀ {ts:List TypeId} {vs:List Value} {ds:List (DataW H)} {ps:List MemPlace},DataW.TrodAll enc P W 0 (fun _=>true) true ts vs ds ps->ds.length=ts.length:=by
     intro ts;induction ts with
     |nil=>intro vs ds ps h;obtain⟨_,rfl,_⟩:=trodAll_nil h;rfl
     |cons t ts ih=>intro vs ds ps h;obtain⟨_,_,_,_,_,_,_,rfl,_,_,h2⟩:=trodAll_cons h;simp[ih h2]
   simpa using this hA
 rw[hs _ hlen,xk];exact Kh hl hb hr hA cF;have hlen:(ds++[]).length=fn.params.toList.length:=by
   have:∀ {ts:List TypeId} {vs:List Value} {ds:List (DataW H)} {ps:List MemPlace},DataW.TrodAll enc P W 0 (fun _=>true) true ts vs ds ps->ds.length=ts.length:=by
     intro ts;induction ts with
     |nil=>intro vs ds ps h;obtain⟨_,rfl,_⟩:=trodAll_nil h;rfl
     |cons t ts ih=>intro vs ds ps h;obtain⟨_,_,_,_,_,_,_,rfl,_,_,h2⟩:=trodAll_cons h;simp[ih h2]
   simpa using this hA
 rw[hs _ hlen,Um];rfl
end
end Go.Sx

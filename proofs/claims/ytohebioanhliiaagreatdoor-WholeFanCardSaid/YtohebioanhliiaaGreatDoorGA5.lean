/- From a law's contract to a row's step. -/
import Derived.Test.YtohebioanhliiaaGreatDoorGA4
import Derived.Deep.Slices
import Derived.OpenShut
import Derived.ProofKit
set_option linter.unusedVariables false
set_option linter.unusedSimpArgs false
namespace Go.Sx
section
open Go.RowKit Go.WideShapes Go.ChangeShapes
variable {H:Type}{enc:TypeId×Value->H}{P:Program}{w:World}{base:Nat}{spare:Nat->Bool}{held:Bool}
variable{β α:Type}{R:α->Value->β->Prop}
def xN{α:Type}(P:Program)(g:TypeId->Option (List α)):Nat->List Field->Option (List α)
 |_,[]=>some []
 | off,f::fs=>if f.offset=off then(match g f.type with
   | some m=>if P.cellsOf f.type=m.length then(match xN P g (off+m.length) fs with
     |some r=>some (m++r)
     |none=>none)else none
   |none=>none)else none
def sL{α:Type}(P:Program)(leaf:TypeId->Option α):Nat->TypeId->Option (List α)
 |0,_=>none
 | n+1,t=>match leaf t with
   |some a=>some [a]
   | none=>match P.underlying t with
     |some (.struct fs)=>xN P (sL P leaf n) 0 fs.toList
     | some (.array len e)=>match sL P leaf n e with
       |some m=>if P.cellsOf e=m.length then some (List.replicate len m).flatten else none
       |none=>none
     |_=>none
def dt{α β:Type}(R:α->Value->β->Prop):List α->List Value->List β->Prop
 | [],[],[]=>True
 |c::cs,v::vs,d::ds=>R c v d/\dt R cs vs ds
 |_,_,_=>False
theorem qk:∀ {cs qL:List α} {vs Pj:List Value} {ds Fp:List β},dt R cs vs ds->dt R qL Pj Fp->dt R (cs++qL) (vs++Pj) (ds++Fp):=by
 intro cs;induction cs with
 |nil=>intro qL vs Pj ds Fp h h';cases vs<;>cases ds<;>simp_all[dt]
 | cons c cs ih=>
   intro qL vs Pj ds Fp h h';cases vs with
   |nil=>simp[dt]at h
   | cons v vs=>cases ds with
     |nil=>simp[dt]at h
     |cons d ds=>exact⟨h.1,ih h.2 h'⟩
theorem JU:∀ {cs:List α} {vs:List Value} {ds:List β},dt R cs vs ds->vs.length=cs.length/\ds.length=cs.length:=by
 intro cs;induction cs with
 |nil=>intro vs ds h;cases vs<;>cases ds<;>simp_all[dt]
 | cons c cs ih=>
   intro vs ds h;cases vs with
   |nil=>simp[dt]at h
   | cons v vs=>cases ds with
     |nil=>simp[dt]at h
     |cons d ds=>have:=ih h.2;simp[this.1,this.2]
theorem wP{Q:β->DataW H->Prop}{leaf:TypeId->Option α}(hQ:∀b d parts,d∈parts->Q b d->Q b (.agg parts))
   (xG:∀t a fuel cs x,leaf t=some a->DataW.trod enc P w base spare held fuel t cs=some x->∃v b,cs=[v]/\R a v b/\Q b x.1) :
   ∀ {n:Nat} {t:TypeId} {as:List α} {fuel:Nat} {cs:List Value} {x:DataW H×List MemPlace},sL P leaf n t=some as->(leaf t=none->P.cellsOf t=as.length)->DataW.trod enc P w base spare held fuel t cs=some x->
     ∃bs,dt R as cs bs/\∀b∈bs,Q b x.1:=by
 intro n;induction n with
 |zero=>intro t as fuel cs x h;simp[sL]at h
 | succ n ih=>
   intro t as fuel cs x h hC ht;simp only[sL]at h;split at h;rename_i a ha;simp only[ah]at h;subst h;obtain⟨v,b,rfl,hr,hq⟩:=xG t a fuel cs x ha ht;exact⟨[b],⟨hr,trivial⟩,fun b' nX=>by simp at nX;subst nX;exact hq⟩;rename_i hl;have hC:=hC hl;have Yq:∀ {t:TypeId} {as:List α} {fuel:Nat} {cs:List Value} {x:DataW H×List MemPlace},sL P leaf n t=some as->P.cellsOf t=as.length->DataW.trod enc P w base spare held fuel t cs=some x->∃bs,dt R as cs bs/\∀b∈bs,Q b x.1:=
     fun h1 h2 h3=>ih h1 (fun _=>h2) h3
   split at h;rename_i fs hu;obtain⟨xs,m,_,rfl,hlen,qz,hf⟩:=DataW.trod_struct hu ht;rw[hC]at hlen;have key:∀(l:List Field) (off:Nat) (r:List α),xN P (sL P leaf n) off l=some r->off+r.length=cs.length->(∀f∈l,∃y∈xs,DataW.trod enc P w base spare held m f.type ((cs.drop f.offset).take (P.cellsOf f.type))=some y)->
       ∃bs,dt R r (cs.drop off) bs/\∀b∈bs,Q b (.agg (xs.map (·.1))):=by
     intro l;induction l with
     | nil=>
       intro off r h hl _;simp only[xN,ah]at h;subst h;refine⟨[],?_,fun b hb=>by simp at hb⟩;rw[xt (by simp at hl;omega)];trivial
     | cons f l ihl=>
       intro off r h hl cK;simp only[xN]at h;split at h;rename_i ho;split at h;rename_i mm hm;split at h;rename_i oR;split at h;rename_i r' cY;simp only[ah]at h;subst h;obtain⟨y,hy,hty⟩:=cK f (aU ..);obtain⟨bs1,h1,h2⟩:=Yq hm oR hty;obtain⟨bs2,h3,h4⟩:=ihl (off+mm.length) r' cY (by simp at hl;omega) (fun f hf=>cK f (bn _ hf));refine⟨bs1++bs2,?_,fun b hb=>?_⟩;have e:cs.drop off=(cs.drop off).take mm.length++cs.drop (off+mm.length):=by
         rw[<- List.drop_drop,C2]
       rw[e];rw[ho,oR]at h1;exact qk h1 h3;rcases mi.1 hb with hb|hb;exact hQ b y.1 _ (List.mem_map_of_mem hy) (h2 b hb);exact h4 b hb;cases h;cases h;cases h;cases h
   have:=key fs.toList 0 as h (by omega) (fun f bq=>by
     obtain⟨i,hi⟩:=List.mem_iff_getElem?.1 bq;have PW:fs[i]?=some f:=by simpa using hi
     have h1:=hf i f PW;have cu:i<xs.length:=by rw[qz];exact(sQ.1 PW).1
     rw[eT cu]at h1;exact⟨_,List.getElem_mem cu,h1⟩)
   simpa using this;rename_i len e hu;split at h;rename_i mm hm;split at h;rename_i oR;simp only[ah]at h;subst h;obtain⟨xs,m,_,rfl,hlen,qz,hf⟩:=DataW.trod_array hu ht;rw[hC]at hlen;have hfl:∀k:Nat,(List.replicate k mm).flatten.length=k*mm.length:=fun k=>by simp
   rw[hfl]at hlen;have key:∀k i:Nat,i+k=len->∃bs,dt R (List.replicate k mm).flatten (cs.drop (i*mm.length)) bs/\∀b∈bs,Q b (.agg (xs.map (·.1))):=by
     intro k;induction k with
     | zero=>
       intro i hi;have:i=len:=by omega
       subst this;refine⟨[],?_,fun b hb=>by simp at hb⟩;rw[xt (by omega)];trivial
     | succ k ihk=>
       intro i hi;have h1:=hf i (by omega);rw[eT (by omega),oR]at h1;obtain⟨bs1,g1,g2⟩:=Yq hm oR h1;obtain⟨bs2,g3,g4⟩:=ihk (i+1) (by omega);refine⟨bs1++bs2,?_,fun b hb=>?_⟩;have e1:cs.drop (i*mm.length)=(cs.drop (i*mm.length)).take mm.length++cs.drop ((i+1)*mm.length):=by
         rw[lR,Nat.one_mul,<- List.drop_drop,C2]
       have e2:(List.replicate (k+1) mm).flatten=mm++(List.replicate k mm).flatten:=by simp[List.replicate_succ]
       rw[e1,e2];exact qk g1 g3;rcases mi.1 hb with hb|hb;exact hQ b _ _ (List.mem_map_of_mem (List.getElem_mem (by omega))) (g2 b hb);exact g4 b hb
   have:=key len 0 (by omega);simpa using this;cases h;cases h;cases h
def ot:CK->Int->Prop
 |.i k,n=>k.min<=n/\n<=k.max
 |.b,n=>n=0\/n=1
 |.f,_=>True
def Aa:List CK->List Int->Prop
 | [],[]=>True
 |k::ks,n::ns=>ot k n/\Aa ks ns
 |_,_=>False
def QI(P:Program)(t:TypeId):Option CK:=
 match P.underlying t with
 |some (.int k)=>some (.i k)
 |some .bool=>some .b
 |_=>none
def Ei(P:Program)(t:TypeId):Option CT:=
 match P.underlying t with
 |some (.int k)=>some (.c (.i k))
 |some .bool=>some (.c .b)
 | some (.slice e)=>match sL P (QI P) 16 e with
   |some ks=>if 0<ks.length/\P.cellsOf e=ks.length then some (.s e ks)else none
   |none=>none
 |_=>none
theorem QJ{k:IntKind}{n:Int}(h:(Lit.int k n).wf=true):k.min<=n/\n<=k.max:=by simpa[Lit.wf]using h
theorem JV:∀ {ks:List CK} {vs:List Value} {row:List Int} (pre:List Int),dt (fun k v n=>v=k.val n/\ot k n) ks vs row->vs=bS ks pre.length (pre++row)/\Aa ks row:=by
 intro ks;induction ks with
 |nil=>intro vs row pre h;cases vs<;>cases row<;>simp_all[dt,bS,Aa]
 | cons k ks ih=>
   intro vs row pre h;cases vs with
   |nil=>simp[dt]at h
   | cons v vs=>cases row with
     |nil=>simp[dt]at h
     | cons n row=>
       obtain⟨⟨h1,h2⟩,h3⟩:=h;obtain⟨e1,e2⟩:=ih (pre++[n]) h3;refine⟨?_,h2,e2⟩;simp only[bS];rw[h1,e1];congr 1;simp[List.getD];simp
theorem QK{t:TypeId}{ks:List CK}{fuel:Nat}{cs:List Value}{x:DataW H×List MemPlace}(hk:sL P (QI P) 16 t=some ks)(hC:P.cellsOf t=ks.length)(h:DataW.trod enc P w base spare held fuel t cs=some x) :
   ∃row,cs=bS ks 0 row/\Aa ks row:=by
 obtain⟨row,h1,_⟩:=wP (R:=fun k v n=>v=k.val n/\ot k n) (Q:=fun _ _=>True) (fun _ _ _ _ _=>trivial) (fun t a fuel cs x ha ht=>by
   unfold QI at ha;split at ha;rename_i k hu;simp only[ah]at ha;subst ha;obtain⟨n,rfl,_,hw⟩:=DataW.trod_int hu ht;exact⟨_,n,rfl,⟨rfl,QJ hw⟩,trivial⟩;rename_i hu;simp only[ah]at ha;subst ha;obtain⟨b,rfl,_⟩:=DataW.trod_bool hu ht;refine⟨_,if b then 1 else 0,rfl,⟨?_,?_⟩,trivial⟩;cases b<;>simp[CK.val];cases b<;>simp[ot];cases ha) hk (fun _=>hC) h
 obtain⟨e1,e2⟩:=JV [] h1;exact⟨row,by simpa using e1,e2⟩
def adH:NK->Int×List Int->Prop
 |.c k,d=>ot k d.1/\d.2=[]
 |.s _ k,d=>d.1=(d.2.length:Int)/\d.2.length<=maxLen/\∀x∈d.2,ot k x
def Ab:List NK->List (Int×List Int)->Prop
 | [],[]=>True
 |k::ks,d::ds=>adH k d/\Ab ks ds
 |_,_=>False
def wQ(ds:List (Int×List Int)):List Int:=ds.map (·.1)++ds.flatMap (·.2)
def aap:CT->DV->Prop
 |.c (.i k),.i n=>ot (.i k) n
 |.c .b,.b _=>True
 |.s _ ks,.l xs=>xs.length<=maxLen/\∀row∈xs,Aa ks row
 |.n _ aO,.l xs=>xs.length<=maxLen/\∀row∈xs,∃ds,row=wQ ds/\Ab aO ds
 |_,_=>False
def JW(w:World):CT->Value->DV->Prop:=fun c v d=>kX (mK w) c v d/\aap c d
theorem JX{w:World}:∀ {cs:List CT} {vs:List Value} {ds:List DV},dt (JW w) cs vs ds->fitAll (mK w) cs vs ds:=by
 intro cs;induction cs with
 |nil=>intro vs ds h;cases vs<;>cases ds<;>simp_all[dt,fitAll]
 | cons c cs ih=>
   intro vs ds h;cases vs with
   |nil=>simp[dt]at h
   | cons v vs=>cases ds with
     |nil=>simp[dt]at h
     |cons d ds=>exact⟨h.1.1,ih h.2⟩
theorem BP{B:DataW H->Nat}(hB:∀es sp,List.length es<=B (.slice es sp))(t:TypeId)(a:CT)(fuel:Nat)(cs:List Value)(x:DataW H×List MemPlace)(ha:Ei P t=some a)(ht:DataW.trod enc P w base spare held fuel t cs=some x) :
   ∃v b,cs=[v]/\JW w a v b/\(∀xs,b=DV.l xs->xs.length<=B x.1):=by
 unfold Ei at ha;split at ha;rename_i k hu;simp only[ah]at ha;subst ha;obtain⟨n,rfl,_,hw⟩:=DataW.trod_int hu ht;exact⟨_,.i n,rfl,⟨rfl,QJ hw⟩,fun xs h=>by cases h⟩;rename_i hu;simp only[ah]at ha;subst ha;obtain⟨b,rfl,_⟩:=DataW.trod_bool hu ht;exact⟨_,.b b,rfl,⟨rfl,trivial⟩,fun xs h=>by cases h⟩;rename_i e hu;split at ha;rename_i ks nL;split at ha;rename_i hc;simp only[ah]at ha;subst ha;rcases Go.Deep.open_slice hu ht with⟨rfl,rfl⟩|⟨a,len,cap,m,n,D,Pl,rfl,hb,hl,hm,hmm,rfl,hi⟩;refine⟨_,.l [],rfl,⟨⟨hc.1,none,0,rfl,⟨Nat.zero_le _,Nat.zero_le _⟩,fun _=>⟨rfl,rfl⟩,fun j u hj=>by simp[aF]at hj⟩,Nat.zero_le _,fun row hr=>by simp at hr⟩,fun xs h=>by cases h;exact Nat.zero_le _⟩;have hle:len<=m:=by rw[hmm];split<;>omega
 have bl:∀i,i<len->∃row,(∃qL,w.cells? base (a.add (i*ks.length)) ks.length=some qL/\qL=bS ks 0 row)/\Aa ks row:=fun i hil=>by
   obtain⟨qL,h1,h2⟩:=hi i (by omega);obtain⟨row,h3,h4⟩:=QK nL hc.2 h2;rw[hc.2]at h1;exact⟨row,⟨qL,h1,h3⟩,h4⟩
 have cK:∀k,k<=len->∃xs:List (List Int),xs.length=k/\(∀i,i<k->∃row,xs[i]?=some row/\Aa ks row/\w.cells? base (a.add (i*ks.length)) ks.length=some (bS ks 0 row)):=by
   intro k;induction k with
   |zero=>intro _;exact⟨[],rfl,fun i h=>by omega⟩
   | succ k ih=>
     intro hk;obtain⟨xs,qz,hx⟩:=ih (by omega);obtain⟨row,⟨qL,h1,rfl⟩,h2⟩:=bl k (by omega);refine⟨xs++[row],by simp[qz],fun i hik=>?_⟩;rcases qK i k with h|h;obtain⟨r,e1,e2⟩:=hx i h;exact⟨r,by rw[qw (by omega)];exact e1,e2⟩;have:i=k:=by omega
     subst this;exact⟨row,by rw[s8 (by omega)];simp[qz],h2,h1⟩
 obtain⟨xs,qz,hx⟩:=cK len (fz _);have gR:∀row∈xs,Aa ks row:=fun row bl=>by
   obtain⟨i,hi⟩:=List.mem_iff_getElem?.1 bl;obtain⟨r,e1,e2,_⟩:=hx i (by have:=(dh.1 hi).1;omega);rw[hi,ah]at e1;subst e1;exact e2
 refine⟨_,.l xs,rfl,⟨⟨hc.1,some a,cap,by rw[qz],⟨by omega,by omega⟩,fun h=>(by cases h),fun j u hj=>⟨a,rfl,?_⟩⟩,by omega,gR⟩,fun ys h=>(by cases h;exact kI (by simp[qz]) (hB _ _))⟩;have I0:j<xs.length*ks.length:=by rw[<- bT];exact(dh.1 hj).1
 have hq:j/ks.length<xs.length:=Nat.div_lt_of_lt_mul (by rw[Nat.mul_comm];exact I0);have hr:j%ks.length<ks.length:=Nat.mod_lt _ hc.1;have hjj:j=(j/ks.length)*ks.length+j%ks.length:=by rw[Nat.mul_comm];exact(Nat.div_add_mod j ks.length).symm
 obtain⟨row,e1,e2,e3⟩:=hx (j/ks.length) (by omega);obtain⟨_,_,MX⟩:=World.cells?_some e3;have h1:=MX (j%ks.length) hr;rw[hjj,mX ks xs _ _ hq hr]at hj;rw[jk]at h1;simp only[cT,e1,Option.getD_some]at hj;simp only[gK,cT]at h1;rw[hj]at h1;rw[hjj,<- h1];congr 1;rw[iz];cases ha;cases ha;cases ha
end
section
open Go.RowKit Go.WideShapes Go.ChangeShapes
variable {H:Type}{enc:TypeId×Value->H}{P:Program}{w:World}{base:Nat}{spare:Nat->Bool}{held:Bool}
variable{aO:List NK}{d:Int×List Int}{ds:List (Int×List Int)}{j:Nat}
theorem N2:∀ {aO:List NK} {ds:List (Int×List Int)},Ab aO ds->ds.length=aO.length:=by
 intro aO;induction aO with
 | nil=>intro ds h;cases ds with
   |nil=>rfl
   |cons _ _=>exact h.elim
 | cons k aO ih=>intro ds h;cases ds with
   |nil=>exact h.elim
   |cons d ds=>simp[ih h.2]
theorem Wp:∀ {aO:List NK} {ds:List (Int×List Int)} (rest:List Int) {j:Nat} {d:Int×List Int},Ab aO ds->ds[j]?=some d->oV aO (ds.map (·.1)) (ds.flatMap (·.2)++rest) j=d.2:=by
 intro aO;induction aO with
 | nil=>intro ds rest j d h hd;cases ds with
   |nil=>simp at hd
   |cons _ _=>exact h.elim
 | cons k aO ih=>intro ds rest j d h hd;cases ds with
   |nil=>exact h.elim
   | cons d0 ds=>
     cases k with
     | c k=>
       have h2:d0.2=[]:=h.1.2;cases j with
       |zero=>simp only[kB,ah]at hd;subst hd;rw[h2];rfl
       | succ j=>
         simp only[A1]at hd;have:=ih rest h.2 hd;simpa[oV,h2]using this
     | s e k=>
       have h1:d0.1=(d0.2.length:Int):=h.1.1;cases j with
       | zero=>
         simp only[kB,ah]at hd;subst hd;simp[oV,h1]
       | succ j=>
         simp only[A1]at hd;have:=ih rest h.2 hd;simpa[oV,h1]using this
theorem N3(h:Ab aO ds)(hd:ds[j]?=some d):ij aO (wQ ds) j=d.2:=by
 have hl:=N2 h;unfold ij wQ;rw[Hg (by simp[hl]),oS (by simp[hl]),Jj (by simp[hl]),xt (by simp[hl])];have:=Wp [] h hd;simpa using this
theorem JY(h:Ab aO ds)(hd:ds[j]?=some d):(wQ ds).getD j 0=d.1:=by
 have hj:=(dh.1 hd).1;unfold wQ;rw[cT,qw (by simpa using hj),gL,hd];rfl
def LG(P:Program)(t:TypeId):Option NK:=match Ei P t with
 |some (.c k)=>some (.c k)
 |some (.s e [k])=>some (.s e k)
 |_=>none
def BQ(P:Program)(t:TypeId):Option CT:=match Ei P t with
 |some a=>some a
 | none=>match P.underlying t with
   | some (.slice e)=>match sL P (LG P) 16 e with
     |some aO=>if 0<aO.length/\P.cellsOf e=aO.length then some (.n e aO)else none
     |none=>none
   |_=>none
def nR(w:World)(nk:NK)(v:Value)(d:Int×List Int):Prop:=sF (fun k=>k<w.heap.size) w nk d.1 d.2 v/\adH nk d
theorem JZ(t:TypeId)(a:NK)(fuel:Nat)(cs:List Value)(x:DataW H×List MemPlace)(ha:LG P t=some a)(ht:DataW.trod enc P w base spare held fuel t cs=some x):∃v d,cs=[v]/\nR w a v d:=by
 unfold LG at ha;have key:=fun c hc=>BP (B:=fun d=>match d with| .slice es _=>es.length|_=>0) (fun es sp=>fz _) t c fuel cs x hc ht;split at ha;rename_i k hk;simp only[ah]at ha;subst ha;obtain⟨v,b,rfl,⟨h1,h2⟩,_⟩:=key _ hk;cases k with
 | i k=>cases b with
   |i n=>exact⟨v,(n,[]),rfl,h1,h2,rfl⟩
   |b _=>exact h2.elim
   |l _=>exact h2.elim
 | b=>cases b with
   |b n=>exact⟨v,(if n then 1 else 0,[]),rfl,by have h1:v = .bool n:=h1;rw[h1];cases n<;>rfl,by cases n<;>simp[ot],rfl⟩
   |i _=>exact h2.elim
   |l _=>exact h2.elim
 |f=>exact h2.elim
 rename_i e k hk;simp only[ah]at ha;subst ha;obtain⟨v,b,rfl,⟨h1,h2⟩,_⟩:=key _ hk;cases b with
 |i _=>exact h2.elim
 |b _=>exact h2.elim
 | l xs=>
   obtain⟨hl,gR⟩:=h2;have hr:∀row∈xs,∃n,row=[n]/\ot k n:=fun row bl=>by
     have:=gR row bl
     match row,this with
     | [n],h=>exact⟨n,rfl,h.1⟩
   have hx:∀xs:List (List Int),(∀row∈xs,∃n,row=[n]/\ot k n)->∃ns:List Int,xs=ns.map (fun n=>[n])/\∀n∈ns,ot k n:=by
     intro xs;induction xs with
     |nil=>intro _;exact⟨[],rfl,fun n h=>by simp at h⟩
     | cons r xs ih=>
       intro h;obtain⟨n,rfl,hn⟩:=h r (aU ..);obtain⟨ns,rfl,FC⟩:=ih fun row bl=>h row (bn _ bl);exact⟨n::ns,rfl,fun m hm=>(bF.1 hm).elim (fun e=>e▸hn) (FC m)⟩
   obtain⟨ns,rfl,FC⟩:=hx xs hr;have h1:0 < [k].length/\Reads w v (ns.map fun n=>[n]).length (aF [k] (ns.map fun n=>[n])):=h1;obtain⟨_,h1⟩:=h1;rw[lS]at h1 hl;refine⟨v,(ns.length,ns),rfl,⟨rfl,h1,fun cV b hb=>?_⟩,rfl,hl,FC⟩;obtain⟨a,cap,rfl,_,_,iW⟩:=h1
   match ns,cV with
   | n::ns,_=>
     obtain⟨a,rfl,ha⟩:=iW 0 (k.val n) rfl;simp only[Value.ownBlock,ah]at hb;have:=World.block_lt_of_cell? w (a.add 0) ha;rw[Addr.add_zero']at this;omega
 cases ha
theorem Ej{α β:Type}{R:α->Value->β->Prop}:∀ {cs:List α} {vs:List Value} {ds:List β},dt R cs vs ds->∀ {j:Nat} {c:α},cs[j]?=some c->∃v d,vs[j]?=some v/\ds[j]?=some d/\R c v d:=by
 intro cs;induction cs with
 |nil=>intro vs ds h j c hc;simp at hc
 | cons c cs ih=>
   intro vs ds h j c' hc;cases vs with
   |nil=>exact h.elim
   | cons v vs=>cases ds with
     |nil=>exact h.elim
     | cons d ds=>cases j with
       |zero=>simp only[kB,ah]at hc;subst hc;exact⟨v,d,rfl,rfl,h.1⟩
       |succ j=>exact ih h.2 (by simpa using hc)
theorem BR{w:World}:∀ {aO:List NK} {vs:List Value} {ds:List (Int×List Int)},dt (nR w) aO vs ds->Ab aO ds:=by
 intro aO;induction aO with
 |nil=>intro vs ds h;cases vs<;>cases ds<;>simp_all[dt,Ab]
 | cons k aO ih=>
   intro vs ds h;cases vs with
   |nil=>exact h.elim
   | cons v vs=>cases ds with
     |nil=>exact h.elim
     |cons d ds=>exact⟨h.1.2,ih h.2⟩
theorem N4{t:TypeId}{fuel:Nat}{cs:List Value}{x:DataW H×List MemPlace}(hk:sL P (LG P) 16 t=some aO)(hC:P.cellsOf t=aO.length)(h:DataW.trod enc P w base spare held fuel t cs=some x) :
   ∃ds,dt (nR w) aO cs ds:=by
 obtain⟨ds,h1,_⟩:=wP (R:=nR w) (Q:=fun _ _=>True) (fun _ _ _ _ _=>trivial) (fun t a fuel cs x ha ht=>by
   obtain⟨v,d,h1,h2⟩:=JZ t a fuel cs x ha ht;exact⟨v,d,h1,h2,trivial⟩) hk (fun _=>hC) h
 exact⟨ds,h1⟩
theorem BS{B:DataW H->Nat}(hB:∀es sp,List.length es<=B (.slice es sp))(t:TypeId)(a:CT)(fuel:Nat)(cs:List Value)(x:DataW H×List MemPlace)(ha:BQ P t=some a)(ht:DataW.trod enc P w base spare held fuel t cs=some x) :
   ∃v b,cs=[v]/\JW w a v b/\(∀xs,b=DV.l xs->xs.length<=B x.1):=by
 unfold BQ at ha;split at ha;rename_i c hc;simp only[ah]at ha;subst ha;exact BP hB t _ fuel cs x hc ht;split at ha;rename_i e hu;split at ha;rename_i aO nL;split at ha;rename_i hc;simp only[ah]at ha;subst ha;rcases Go.Deep.open_slice hu ht with⟨rfl,rfl⟩|⟨a,len,cap,m,n,D,Pl,rfl,hb,hl,hm,hmm,rfl,hi⟩;refine⟨_,.l [],rfl,⟨⟨hc.1,none,0,rfl,Nat.zero_le _,fun _=>⟨rfl,rfl⟩,fun i r hi=>by simp at hi⟩,Nat.zero_le _,fun row hr=>by simp at hr⟩,fun xs h=>by cases h;exact Nat.zero_le _⟩;have hle:len<=m:=by rw[hmm];split<;>omega
 have bl:∀i,i<len->∃ds,∃qL,w.cells? base (a.add (i*aO.length)) aO.length=some qL/\dt (nR w) aO qL ds:=fun i hil=>by
   obtain⟨qL,h1,h2⟩:=hi i (by omega);obtain⟨ds,h3⟩:=N4 nL hc.2 h2;rw[hc.2]at h1;exact⟨ds,qL,h1,h3⟩
 have cK:∀k,k<=len->∃xs:List (List Int),xs.length=k/\(∀i,i<k->∃ds,xs[i]?=some (wQ ds)/\∃qL,w.cells? base (a.add (i*aO.length)) aO.length=some qL/\dt (nR w) aO qL ds):=by
   intro k;induction k with
   |zero=>intro _;exact⟨[],rfl,fun i h=>by omega⟩
   | succ k ih=>
     intro hk;obtain⟨xs,qz,hx⟩:=ih (by omega);obtain⟨ds,xe⟩:=bl k (by omega);refine⟨xs++[wQ ds],by simp[qz],fun i hik=>?_⟩;rcases qK i k with h|h;obtain⟨r,e1,e2⟩:=hx i h;exact⟨r,by rw[qw (by omega)];exact e1,e2⟩;have:i=k:=by omega
     subst this;exact⟨ds,by rw[s8 (by omega)];simp[qz],xe⟩
 obtain⟨xs,qz,hx⟩:=cK len (fz _);refine⟨_,.l xs,rfl,⟨⟨hc.1,some a,cap,by rw[qz],by omega,fun h=>(by cases h),fun i r hir=>⟨a,rfl,?_,fun j nk hj=>?_⟩⟩,by omega,fun row bl=>?_⟩,fun ys h=>(by cases h;exact kI (by simp[qz]) (hB _ _))⟩;obtain⟨ds,_,qL,h1,h2⟩:=hx i (by have:=(dh.1 hir).1;omega);obtain⟨_,_,MX⟩:=World.cells?_some h1;obtain⟨v,d,hv,_⟩:=Ej h2 (eT hc.1);have:=MX 0 hc.1;rw[hv]at this;have:=World.block_lt_of_cell? w _ this;rw[kK,kK]at this;exact this;obtain⟨ds,e1,qL,h1,h2⟩:=hx i (by have:=(dh.1 hir).1;omega);rw[hir,ah]at e1;subst e1;obtain⟨_,_,MX⟩:=World.cells?_some h1;obtain⟨v,d,hv,hd,hn⟩:=Ej h2 hj;have h3:=MX j (dh.1 hj).1;rw[hv,iz]at h3;have nL:=BR h2;refine⟨v,h3,?_⟩;rw[JY nL hd,N3 nL hd];exact hn.1;obtain⟨i,hir⟩:=List.mem_iff_getElem?.1 bl;obtain⟨ds,e1,qL,h1,h2⟩:=hx i (by have:=(dh.1 hir).1;omega);rw[hir,ah]at e1;exact⟨ds,e1,BR h2⟩;cases ha;cases ha;cases ha
end
section
open Go.RowKit Go.WideShapes Go.ChangeShapes
variable {H:Type}{enc:TypeId×Value->H}{P:Program}
variable{W:World}{B:DataW H->Nat}{b0:Nat}{t:TypeId}{c:CT}
def N5(P:Program)(t:TypeId):VT->Bool
 |.one c=>decide (BQ P t=some c)
 | .agg cs=>(match P.underlying t with
   |some (.struct _)=>true
   |some (.array _ _)=>true
   |_=>false)&&decide (sL P (BQ P) 16 t=some cs)&&decide (P.cellsOf t=cs.length)&&decide (BQ P t=none)
 |.ptr _ _=>false
 |.fn _ _=>false
def Ek(P:Program):List TypeId->List VT->Bool
 | [],[]=>true
 |t::ts,v::vs=>N5 P t v&&Ek P ts vs
 |_,_=>false
def HQ:List CT->List DV->Prop
 | [],[]=>True
 |c::cs,d::ds=>aap c d/\HQ cs ds
 |_,_=>False
theorem N6{w:World}:∀ {cs:List CT} {vs:List Value} {ds:List DV},dt (JW w) cs vs ds->HQ cs ds:=by
 intro cs;induction cs with
 |nil=>intro vs ds h;cases vs<;>cases ds<;>simp_all[dt,HQ]
 | cons c cs ih=>
   intro vs ds h;cases vs with
   |nil=>simp[dt]at h
   | cons v vs=>cases ds with
     |nil=>simp[dt]at h
     |cons d ds=>exact⟨h.1.2,ih h.2⟩
theorem N7(h:Ei P t=some c):(∃k,P.underlying t=some (.int k))\/P.underlying t=some .bool\/∃e,P.underlying t=some (.slice e):=by
 unfold Ei at h;split at h;rename_i k hu;exact .inl ⟨k,hu⟩;rename_i hu;exact .inr (.inl hu);rename_i e hu;exact .inr (.inr ⟨e,hu⟩);cases h
theorem N8(h:BQ P t=some c):(∃k,P.underlying t=some (.int k))\/P.underlying t=some .bool\/∃e,P.underlying t=some (.slice e):=by
 unfold BQ at h;split at h;rename_i a ha;exact N7 ha;split at h;rename_i e hu;exact .inr (.inr ⟨e,hu⟩);cases h
theorem QL(hB:∀es sp,List.length es<=B (.slice es sp))(hB2:∀d parts,d∈parts->B d<=B (.agg parts)){vt:VT}{v:Value}{d:DataW H}{p:List MemPlace}(hv:N5 P t vt=true)
   (jU:Value.okWide P W .any b0 t v) (h:DataW.Trod enc P W 0 (fun _=>true) true t v d p) :
   ∃b8 GV,dt (JW W) vt.bL b8 GV/\(∀ts rest,cj (vt::ts) (b8++rest)=v::cj ts rest)/\∀xs,DV.l xs∈GV->xs.length<=B d:=by
 obtain⟨fuel,hf⟩:=h;cases vt with
 |ptr e k=>simp[N5]at hv
 |fn g cs=>simp[N5]at hv
 | one c=>
   simp only[N5,aM]at hv;obtain⟨v',b,iW,hr,hq⟩:=BS (B:=B) hB t c fuel _ _ hv hf;have hvv:v.cells.toList=[v]:=by
     rcases N8 hv with⟨k,hu⟩|hu|⟨e,hu⟩;obtain⟨n,rfl⟩:=okWide_int hu jU;rfl;obtain⟨n,rfl⟩:=okWide_bool hu jU;rfl;obtain⟨a,len,cap,rfl⟩:=okWide_slice hu jU;rfl
   rw[hvv]at iW;simp only[List.cons.injEq,and_true]at iW;subst iW;refine⟨[v],[b],⟨hr,trivial⟩,fun ts rest=>rfl,fun xs hx=>?_⟩;simp only[kL]at hx;exact hq xs hx.symm
 | agg cs=>
   simp only[N5,ao,aM]at hv;obtain⟨⟨⟨VC,YJ⟩,hv3⟩,hv4⟩:=hv;obtain⟨c,rfl⟩:∃c,v = .agg c:=by
     unfold Value.okWide at jU;split at VC;rename_i hu;rw[hu]at jU;obtain⟨c,h,_⟩:=jU;exact⟨c,h⟩;rename_i hu;rw[hu]at jU;obtain⟨c,h,_⟩:=jU;exact⟨c,h⟩;cases VC
   obtain⟨bs,h1,h2⟩:=wP (R:=JW W) (Q:=fun b (d:DataW H)=>∀xs,b=DV.l xs->xs.length<=B d) (fun b d parts hm hq xs hx=>kI (hq xs hx) (hB2 d parts hm)) (BS hB) YJ (fun _=>hv3) hf;have hl:=(JU h1).1;refine⟨_,bs,h1,fun ts rest=>?_,fun xs hx=>h2 _ hx xs rfl⟩;simp only[cj,VT.bL]at hl ⊢;rw[Hg (by omega),oS (by omega),Jj (by omega),xt (by omega)];rfl
theorem N9(hB:∀es sp,List.length es<=B (.slice es sp))(hB2:∀d parts,d∈parts->B d<=B (.agg parts)):∀ {ts:List TypeId} {VD:List VT} {vs:List Value} {ds:List (DataW H)} {ps:List MemPlace},Ek P ts VD=true->
   (∀(j:Nat) (t:TypeId) (v:Value),ts[j]?=some t->vs[j]?=some v->Value.okWide P W .any b0 t v)->DataW.TrodAll enc P W 0 (fun _=>true) true ts vs ds ps->
   ∃b8 GV,dt (JW W) (bL VD) b8 GV/\vs=cj VD b8/\∀xs,DV.l xs∈GV->∃d∈ds,xs.length<=B d:=by
 intro ts;induction ts with
 | nil=>
   intro VD vs ds ps hv jU h;cases VD with
   |nil=>obtain⟨rfl,rfl,rfl⟩:=trodAll_nil h;exact⟨[],[],trivial,rfl,fun xs hx=>by simp at hx⟩
   |cons _ _=>simp[Ek]at hv
 | cons t ts ih=>
   intro VD vs ds ps hv jU h;cases VD with
   |nil=>simp[Ek]at hv
   | cons vt VD=>
     simp only[Ek,ao]at hv;obtain⟨v,Pj,d,Fp,p,q,rfl,rfl,rfl,h1,h2⟩:=trodAll_cons h;obtain⟨c1,d1,g1,g2,g3⟩:=QL hB hB2 hv.1 (jU 0 t v rfl rfl) h1;obtain⟨c2,d2,k1,k2,k3⟩:=ih hv.2 (fun j t v a b=>jU (j+1) t v (by simpa using a) (by simpa using b)) h2;have e:bL (vt::VD)=vt.bL++bL VD:=by simp[bL]
     refine⟨c1++c2,d1++d2,by rw[e];exact qk g1 k1,by rw[g2,k2],fun xs hx=>?_⟩;rcases mi.1 hx with hx|hx;exact⟨d,aU ..,g3 xs hx⟩;obtain⟨d',hd',hl⟩:=k3 xs hx;exact⟨d',bn _ hd',hl⟩
theorem Oa{W':World}(hl:laidOutB P=true)(hb:Below W.heap.size W W'):∀ {ts:List TypeId} {vs:List Value} {ds:List (DataW H)} {ps:List MemPlace},(ts.all fun t=>P.readableRec t&&decide (t<P.types.size))=true->
   DataW.TrodAll enc P W 0 (fun _=>true) true ts vs ds ps->(∀x∈ps,x.block<W.heap.size)->DataW.TrodAll enc P W' 0 (fun b=>decide (b<W.heap.size)) true ts vs ds ps:=by
 intro ts;induction ts with
 |nil=>intro vs ds ps _ h _;obtain⟨rfl,rfl,rfl⟩:=trodAll_nil h;exact trodAll_mk0
 | cons t ts ih=>
   intro vs ds ps hr h cu;simp only[List.all_cons,ao,aM]at hr;obtain⟨v,Pj,d,Fp,p,q,rfl,rfl,rfl,h1,h2⟩:=trodAll_cons h;exact⟨p,q,Below.trod hl hr.1.1 hr.1.2 h1 hb (fun x hx=>cu x (Bh _ hx)),ih hr.2 h2 (fun x hx=>cu x (Fb _ hx)),rfl⟩
theorem QM(hB:∀es sp,List.length es<=B (.slice es sp))(hB2:∀d parts,d∈parts->B d<=B (.agg parts)){f:FuncId}{fn:Func}{s:ChangeSpec}{ct:dJ}{Wd:World->Prop}{tb:TypeId}{args:Array Value}{ds gs:List (DataW H)}{before:List MemPlace}
   (hOk:fw P Wd f ct) (hWd:Wd W) (adI:∀ds rs,ct.rel ds rs->rs=[.b true]) (vx:ct.sig.res=[.one (.c .b)]) (hvt:Ek P fn.params.toList ct.sig.args=true) (hl:laidOutB P=true) (hr:(fn.params.toList.all fun t=>P.readableRec t&&decide (t<P.types.size))=true)
   (hrt:fn.resultTypes = #[tb]) (QN:P.underlying tb=some .bool) (YK:s.vars=[])
   (hs:∀ds:List (DataW H),ds.length=fn.params.toList.length->s.fn H ds = {results:=[.lit (.bool true)],args:=ds})
   (gm:∀(j:Nat) t v,fn.params[j]?=some t->args[j]?=some v->Value.okWide P W .any b0 t v) (hW:DataW.Whole enc P fn.params.toList s.vars false W args.toList ds gs before)
   (Dm:∀GV,HQ (bL ct.sig.args) GV->(∀xs,DV.l xs∈GV->∃d∈ds,xs.length<=B d)->ct.pre GV) :
   Calls P f args W fun e W'=>∃v,e = .returned v/\s.post enc P fn false true false false W args v W':=by
 have hW':=hW;obtain⟨p,q,hA,hV,rfl,hfz,qJ⟩:=hW;rw[YK]at hV;obtain⟨rfl,rfl⟩:=trodVars_none hV;obtain⟨b8,GV,h1,h2,h3⟩:=N9 hB hB2 hvt (fun j t v a b=>gm j t v (by simpa using a) (by simpa using b)) hA;have pz:=hOk.2 W args.toList GV hWd ⟨b8,h2,JX h1⟩ (Dm GV (N6 h1) h3);rw[Array.toArray_toList]at pz;refine Calls.mono pz fun e W' he=>?_;obtain⟨rv,gX,rfl,hb,hf,Vv,sX⟩:=he;have sX:gX=[.b true]:=adI _ _ sX;subst sX;rw[vx]at hf;have cu:∀x∈p,x.block<W.heap.size:=fun x hx=>by simpa using hW'.lt x (by simpa using hx)
 have hrv:rv=[.bool true]:=by
   match rv,hf with
   | [v],hf=>
     have:v = .bool true:=hf.1;rw[this]
 subst hrv;refine⟨_,rfl,ds,[],p,[],p,[],by simpa using hW',?_,?_,?_,Below.frame hb _,fun h=>by cases h⟩;have hlen:(ds++[]).length=fn.params.toList.length:=by
   have:∀ {ts:List TypeId} {vs:List Value} {ds:List (DataW H)} {ps:List MemPlace},DataW.TrodAll enc P W 0 (fun _=>true) true ts vs ds ps->ds.length=ts.length:=by
     intro ts;induction ts with
     |nil=>intro vs ds ps h;obtain⟨_,rfl,_⟩:=trodAll_nil h;rfl
     |cons t ts ih=>intro vs ds ps h;obtain⟨_,_,_,_,_,_,_,rfl,_,_,h2⟩:=trodAll_cons h;simp[ih h2]
   simpa using this hA
 rw[hs _ hlen,hrt];rw[vx];show DataW.TrodAll enc P W' W.heap.size (fun _=>false) false [tb] [.bool true] [.lit (.bool true)] [];exact trodAll_mk1 ⟨1,by simp[DataW.trod,Value.cells,QN]⟩;have hlen:(ds++[]).length=fn.params.toList.length:=by
   have:∀ {ts:List TypeId} {vs:List Value} {ds:List (DataW H)} {ps:List MemPlace},DataW.TrodAll enc P W 0 (fun _=>true) true ts vs ds ps->ds.length=ts.length:=by
     intro ts;induction ts with
     |nil=>intro vs ds ps h;obtain⟨_,rfl,_⟩:=trodAll_nil h;rfl
     |cons t ts ih=>intro vs ds ps h;obtain⟨_,_,_,_,_,_,_,rfl,_,_,h2⟩:=trodAll_cons h;simp[ih h2]
   simpa using this hA
 rw[hs _ hlen,qH];exact Oa hl hb hr hA cu;have hlen:(ds++[]).length=fn.params.toList.length:=by
   have:∀ {ts:List TypeId} {vs:List Value} {ds:List (DataW H)} {ps:List MemPlace},DataW.TrodAll enc P W 0 (fun _=>true) true ts vs ds ps->ds.length=ts.length:=by
     intro ts;induction ts with
     |nil=>intro vs ds ps h;obtain⟨_,rfl,_⟩:=trodAll_nil h;rfl
     |cons t ts ih=>intro vs ds ps h;obtain⟨_,_,_,_,_,_,_,rfl,_,_,h2⟩:=trodAll_cons h;simp[ih h2]
   simpa using this hA
 rw[hs _ hlen,YK];rfl
end
end Go.Sx

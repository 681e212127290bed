/- From a law's contract to a row's step. -/
import Derived.Test.YtohebioanhliiaaGreatDoorKA4
import Derived.Deep.Slices
import Derived.OpenShut
import Derived.WideShapes
import Derived.Carry
import Derived.ProofKit
set_option linter.unusedVariables false
set_option linter.unusedSimpArgs false
namespace Go.Sx
open Go.RowKit Go.WideShapes Go.ChangeShapes
variable {H:Type}{enc:TypeId×Value->H}{P:Program}{w:World}{base:Nat}{spare:Nat->Bool}{held:Bool}
def tY{α:Type}(P:Program)(g:TypeId->Option (List α)):Nat->List Field->Option (List α)
 |_,[]=>some []
 | off,f::fs=>if f.offset=off then(match g f.type with
   | some m=>if P.cellsOf f.type=m.length then(match tY P g (off+m.length) fs with
     |some r=>some (m++r)
     |none=>none)else none
   |none=>none)else none
def pG{α:Type}(P:Program)(leaf:TypeId->Option α):Nat->TypeId->Option (List α)
 |0,_=>none
 | n+1,t=>match leaf t with
   |some a=>some [a]
   | none=>match P.underlying t with
     |some (.struct fs)=>tY P (pG P leaf n) 0 fs.toList
     | some (.array len e)=>match pG P leaf n e with
       |some m=>if P.cellsOf e=m.length then some (List.replicate len m).flatten else none
       |none=>none
     |_=>none
def cW{α β:Type}(R:α->Value->β->Prop):List α->List Value->List β->Prop
 | [],[],[]=>True
 |c::cs,v::vs,d::ds=>R c v d/\cW R cs vs ds
 |_,_,_=>False
theorem nH{α β:Type}{R:α->Value->β->Prop}:∀ {cs nW:List α} {vs Ko:List Value} {ds mr:List β},cW R cs vs ds->cW R nW Ko mr->cW R (cs++nW) (vs++Ko) (ds++mr):=by
 intro cs;induction cs with
 |nil=>intro nW vs Ko ds mr h h';cases vs<;>cases ds<;>simp_all[cW]
 | cons c cs ih=>
   intro nW vs Ko ds mr h h';cases vs with
   |nil=>simp[cW]at h
   | cons v vs=>cases ds with
     |nil=>simp[cW]at h
     |cons d ds=>exact⟨h.1,ih h.2 h'⟩
theorem FB{α β:Type}{R:α->Value->β->Prop}:∀ {cs:List α} {vs:List Value} {ds:List β},cW R cs vs ds->vs.length=cs.length/\ds.length=cs.length:=by
 intro cs;induction cs with
 |nil=>intro vs ds h;cases vs<;>cases ds<;>simp_all[cW]
 | cons c cs ih=>
   intro vs ds h;cases vs with
   |nil=>simp[cW]at h
   | cons v vs=>cases ds with
     |nil=>simp[cW]at h
     |cons d ds=>have:=ih h.2;simp[this.1,this.2]
theorem tc{α β:Type}{R:α->Value->β->Prop}{Q:β->DataW H->Prop}{leaf:TypeId->Option α}(hQ:∀b d parts,d∈parts->Q b d->Q b (.agg parts))
   (qD:∀t a fuel cs x,leaf t=some a->DataW.trod enc P w base spare held fuel t cs=some x->∃v b,cs=[v]/\R a v b/\Q b x.1) :
   ∀ {n:Nat} {t:TypeId} {as:List α} {fuel:Nat} {cs:List Value} {x:DataW H×List MemPlace},pG P leaf n t=some as->(leaf t=none->P.cellsOf t=as.length)->DataW.trod enc P w base spare held fuel t cs=some x->
     ∃bs,cW R as cs bs/\∀b∈bs,Q b x.1:=by
 intro n;induction n with
 |zero=>intro t as fuel cs x h;simp[pG]at h
 | succ n ih=>
   intro t as fuel cs x h hC ht;simp only[pG]at h;split at h
   . rename_i a ha;simp only[af]at h;subst h;obtain⟨v,b,rfl,hr,hq⟩:=qD t a fuel cs x ha ht;exact⟨[b],⟨hr,trivial⟩,fun b' la=>by simp at la;subst la;exact hq⟩
   . rename_i hl;have hC:=hC hl;have Tg:∀ {t:TypeId} {as:List α} {fuel:Nat} {cs:List Value} {x:DataW H×List MemPlace},pG P leaf n t=some as->P.cellsOf t=as.length->DataW.trod enc P w base spare held fuel t cs=some x->∃bs,cW R as cs bs/\∀b∈bs,Q b x.1:=
       fun h1 h2 h3=>ih h1 (fun _=>h2) h3
     split at h
     . rename_i fs hu;obtain⟨xs,m,_,rfl,hlen,nL,hf⟩:=DataW.trod_struct hu ht;rw[hC]at hlen;have key:∀(l:List Field) (off:Nat) (r:List α),tY P (pG P leaf n) off l=some r->off+r.length=cs.length->(∀f∈l,∃y∈xs,DataW.trod enc P w base spare held m f.type ((cs.drop f.offset).take (P.cellsOf f.type))=some y)->
           ∃bs,cW R r (cs.drop off) bs/\∀b∈bs,Q b (.agg (xs.map (·.1))):=by
         intro l;induction l with
         | nil=>
           intro off r h hl _;simp only[tY,af]at h;subst h;refine⟨[],?_,fun b hb=>by simp at hb⟩
           rw[List.drop_of_length_le (by simp at hl;omega)]
           trivial
         | cons f l ihl=>
           intro off r h hl b8;simp only[tY]at h;split at h
           . rename_i ho;split at h
             . rename_i mm hm;split at h
               . rename_i mJ;split at h
                 . rename_i r' cF;simp only[af]at h;subst h;obtain⟨y,hy,hty⟩:=b8 f (aO ..);obtain⟨ZI,h1,h2⟩:=Tg hm mJ hty;obtain⟨bs2,h3,h4⟩:=ihl (off+mm.length) r' cF (by simp at hl;omega) (fun f hf=>b8 f (bp _ hf))
                   refine⟨ZI++bs2,?_,fun b hb=>?_⟩
                   . have e:cs.drop off=(cs.drop off).take mm.length++cs.drop (off+mm.length):=by
                       rw[<- List.drop_drop,List.take_append_drop]
                     rw[e];rw[ho,mJ]at h1;exact nH h1 h3
                   . rcases List.mem_append.1 hb with hb|hb
                     . exact hQ b y.1 _ (List.mem_map_of_mem hy) (h2 b hb)
                     . exact h4 b hb
                 . cases h
               . cases h
             . cases h
           . cases h
       have:=key fs.toList 0 as h (by omega) (fun f bd=>by
         obtain⟨i,hi⟩:=List.mem_iff_getElem?.1 bd;have Qg:fs[i]?=some f:=by simpa using hi
         have h1:=hf i f Qg;have cQ:i<xs.length:=by rw[nL];exact(Array.getElem?_eq_some_iff.1 Qg).1
         rw[dJ cQ]at h1;exact⟨_,List.getElem_mem cQ,h1⟩)
       simpa using this
     . rename_i len e hu;split at h
       . rename_i mm hm;split at h
         . rename_i mJ;simp only[af]at h;subst h;obtain⟨xs,m,_,rfl,hlen,nL,hf⟩:=DataW.trod_array hu ht;rw[hC]at hlen;have Qa:∀k:Nat,(List.replicate k mm).flatten.length=k*mm.length:=fun k=>by simp
           rw[Qa]at hlen;have key:∀k i:Nat,i+k=len->∃bs,cW R (List.replicate k mm).flatten (cs.drop (i*mm.length)) bs/\∀b∈bs,Q b (.agg (xs.map (·.1))):=by
             intro k;induction k with
             | zero=>
               intro i hi;have:i=len:=by omega
               subst this;refine⟨[],?_,fun b hb=>by simp at hb⟩
               rw[List.drop_of_length_le (by omega)]
               trivial
             | succ k ihk=>
               intro i hi;have h1:=hf i (by omega)
               rw[dJ (by omega),mJ]at h1
               obtain⟨ZI,g1,g2⟩:=Tg hm mJ h1;obtain⟨bs2,g3,g4⟩:=ihk (i+1) (by omega)
               refine⟨ZI++bs2,?_,fun b hb=>?_⟩
               . have e1:cs.drop (i*mm.length)=(cs.drop (i*mm.length)).take mm.length++cs.drop ((i+1)*mm.length):=by
                   rw[Nat.add_mul,Nat.one_mul,<- List.drop_drop,List.take_append_drop]
                 have e2:(List.replicate (k+1) mm).flatten=mm++(List.replicate k mm).flatten:=by simp[List.replicate_succ]
                 rw[e1,e2];exact nH g1 g3
               . rcases List.mem_append.1 hb with hb|hb
                 . exact hQ b _ _ (List.mem_map_of_mem (List.getElem_mem (by omega))) (g2 b hb)
                 . exact g4 b hb
           have:=key len 0 (by omega)
           simpa using this
         . cases h
       . cases h
     . cases h
def kR:CK->Int->Prop
 |.i k,n=>k.min<=n/\n<=k.max
 |.b,n=>n=0\/n=1
 |.f,_=>True
def wb:List CK->List Int->Prop
 | [],[]=>True
 |k::ks,n::ns=>kR k n/\wb ks ns
 |_,_=>False
def LN(P:Program)(t:TypeId):Option CK:=
 match P.underlying t with
 |some (.int k)=>some (.i k)
 |some .bool=>some .b
 |_=>none
def AN(P:Program)(t:TypeId):Option CT:=
 match P.underlying t with
 |some (.int k)=>some (.c (.i k))
 |some .bool=>some (.c .b)
 | some (.slice e)=>match pG P (LN P) 16 e with
   |some ks=>if 0<ks.length/\P.cellsOf e=ks.length then some (.s e ks)else none
   |none=>none
 |_=>none
theorem LO{k:IntKind}{n:Int}(h:(Lit.int k n).wf=true):k.min<=n/\n<=k.max:=by simpa[Lit.wf]using h
theorem FC:∀ {ks:List CK} {vs:List Value} {row:List Int} (pre:List Int),cW (fun k v n=>v=k.val n/\kR k n) ks vs row->vs=bL ks pre.length (pre++row)/\wb ks row:=by
 intro ks;induction ks with
 |nil=>intro vs row pre h;cases vs<;>cases row<;>simp_all[cW,bL,wb]
 | cons k ks ih=>
   intro vs row pre h;cases vs with
   |nil=>simp[cW]at h
   | cons v vs=>cases row with
     |nil=>simp[cW]at h
     | cons n row=>
       obtain⟨⟨h1,h2⟩,h3⟩:=h;obtain⟨e1,e2⟩:=ih (pre++[n]) h3;refine⟨?_,h2,e2⟩;simp only[bL];rw[h1,e1];congr 1
       . simp[List.getD]
       . simp
theorem LP{t:TypeId}{ks:List CK}{fuel:Nat}{cs:List Value}{x:DataW H×List MemPlace}(hk:pG P (LN P) 16 t=some ks)(hC:P.cellsOf t=ks.length)(h:DataW.trod enc P w base spare held fuel t cs=some x) :
   ∃row,cs=bL ks 0 row/\wb ks row:=by
 obtain⟨row,h1,_⟩:=tc (R:=fun k v n=>v=k.val n/\kR k n) (Q:=fun _ _=>True) (fun _ _ _ _ _=>trivial) (fun t a fuel cs x ha ht=>by
   unfold LN at ha;split at ha
   . rename_i k hu;simp only[af]at ha;subst ha;obtain⟨n,rfl,_,hw⟩:=DataW.trod_int hu ht;exact⟨_,n,rfl,⟨rfl,LO hw⟩,trivial⟩
   . rename_i hu;simp only[af]at ha;subst ha;obtain⟨b,rfl,_⟩:=DataW.trod_bool hu ht;refine⟨_,if b then 1 else 0,rfl,⟨?_,?_⟩,trivial⟩
     . cases b<;>simp[CK.val]
     . cases b<;>simp[kR]
   . cases ha) hk (fun _=>hC) h
 obtain⟨e1,e2⟩:=FC [] h1;exact⟨row,by simpa using e1,e2⟩
def ZW:NK->Int×List Int->Prop
 |.c k,d=>kR k d.1/\d.2=[]
 |.s _ k,d=>d.1=(d.2.length:Int)/\d.2.length<=maxLen/\∀x∈d.2,kR k x
def wg:List NK->List (Int×List Int)->Prop
 | [],[]=>True
 |k::ks,d::ds=>ZW k d/\wg ks ds
 |_,_=>False
def td(ds:List (Int×List Int)):List Int:=ds.map (·.1)++ds.flatMap (·.2)
def Vj:CT->DV->Prop
 |.c (.i k),.i n=>kR (.i k) n
 |.c .b,.b _=>True
 |.s _ ks,.l xs=>xs.length<=maxLen/\∀row∈xs,wb ks row
 |.n _ aK,.l xs=>xs.length<=maxLen/\∀row∈xs,∃ds,row=td ds/\wg aK ds
 |_,_=>False
def FD(w:World):CT->Value->DV->Prop:=fun c v d=>ju (kO w) c v d/\Vj c d
theorem FE{w:World}:∀ {cs:List CT} {vs:List Value} {ds:List DV},cW (FD w) cs vs ds->fitAll (kO w) cs vs ds:=by
 intro cs;induction cs with
 |nil=>intro vs ds h;cases vs<;>cases ds<;>simp_all[cW,fitAll]
 | cons c cs ih=>
   intro vs ds h;cases vs with
   |nil=>simp[cW]at h
   | cons v vs=>cases ds with
     |nil=>simp[cW]at h
     |cons d ds=>exact⟨h.1.1,ih h.2⟩
theorem x8{B:DataW H->Nat}(hB:∀es sp,List.length es<=B (.slice es sp))(t:TypeId)(a:CT)(fuel:Nat)(cs:List Value)(x:DataW H×List MemPlace)(ha:AN P t=some a)(ht:DataW.trod enc P w base spare held fuel t cs=some x) :
   ∃v b,cs=[v]/\FD w a v b/\(∀xs,b=DV.l xs->xs.length<=B x.1):=by
 unfold AN at ha;split at ha
 . rename_i k hu;simp only[af]at ha;subst ha;obtain⟨n,rfl,_,hw⟩:=DataW.trod_int hu ht;exact⟨_,.i n,rfl,⟨rfl,LO hw⟩,fun xs h=>by cases h⟩
 . rename_i hu;simp only[af]at ha;subst ha;obtain⟨b,rfl,_⟩:=DataW.trod_bool hu ht;exact⟨_,.b b,rfl,⟨rfl,trivial⟩,fun xs h=>by cases h⟩
 . rename_i e hu;split at ha
   . rename_i ks lS;split at ha
     . rename_i hc;simp only[af]at ha;subst ha;rcases Go.Deep.open_slice hu ht with⟨rfl,rfl⟩|⟨a,len,cap,m,n,D,Pl,rfl,hb,hl,hm,ZX,rfl,hi⟩
       . refine⟨_,.l [],rfl,⟨⟨hc.1,none,0,rfl,⟨Nat.zero_le _,Nat.zero_le _⟩,fun _=>⟨rfl,rfl⟩,fun j u hj=>by simp[aA]at hj⟩,Nat.zero_le _,fun row hr=>by simp at hr⟩,fun xs h=>by cases h;exact Nat.zero_le _⟩
       . have hle:len<=m:=by rw[ZX];split<;>omega
         have bc:∀i,i<len->∃row,(∃nW,w.cells? base (a.add (i*ks.length)) ks.length=some nW/\nW=bL ks 0 row)/\wb ks row:=fun i hil=>by
           obtain⟨nW,h1,h2⟩:=hi i (by omega)
           obtain⟨row,h3,h4⟩:=LP lS hc.2 h2;rw[hc.2]at h1;exact⟨row,⟨nW,h1,h3⟩,h4⟩
         have b8:∀k,k<=len->∃xs:List (List Int),xs.length=k/\(∀i,i<k->∃row,xs[i]?=some row/\wb ks row/\w.cells? base (a.add (i*ks.length)) ks.length=some (bL ks 0 row)):=by
           intro k;induction k with
           |zero=>intro _;exact⟨[],rfl,fun i h=>by omega⟩
           | succ k ih=>
             intro hk;obtain⟨xs,nL,hx⟩:=ih (by omega)
             obtain⟨row,⟨nW,h1,rfl⟩,h2⟩:=bc k (by omega)
             refine⟨xs++[row],by simp[nL],fun i hik=>?_⟩
             rcases Nat.lt_or_ge i k with h|h
             . obtain⟨r,e1,e2⟩:=hx i h;exact⟨r,by rw[List.getElem?_append_left (by omega)];exact e1,e2⟩
             . have:i=k:=by omega
               subst this;exact⟨row,by rw[List.getElem?_append_right (by omega)];simp[nL],h2,h1⟩
         obtain⟨xs,nL,hx⟩:=b8 len (Nat.le_refl _);have gF:∀row∈xs,wb ks row:=fun row bc=>by
           obtain⟨i,hi⟩:=List.mem_iff_getElem?.1 bc;obtain⟨r,e1,e2,_⟩:=hx i (by have:=(cT.1 hi).1;omega)
           rw[hi,af]at e1;subst e1;exact e2
         refine⟨_,.l xs,rfl,⟨⟨hc.1,some a,cap,by rw[nL],⟨by omega,by omega⟩,fun h=>(by cases h),fun j u hj=>⟨a,rfl,?_⟩⟩,by omega,gF⟩,fun ys h=>(by cases h;exact Nat.le_trans (by simp[nL]) (hB _ _))⟩
         have EG:j<xs.length*ks.length:=by rw[<- bM];exact(cT.1 hj).1
         have hq:j/ks.length<xs.length:=Nat.div_lt_of_lt_mul (by rw[Nat.mul_comm];exact EG)
         have hr:j%ks.length<ks.length:=Nat.mod_lt _ hc.1;have hjj:j=(j/ks.length)*ks.length+j%ks.length:=by rw[Nat.mul_comm];exact(Nat.div_add_mod j ks.length).symm
         obtain⟨row,e1,e2,e3⟩:=hx (j/ks.length) (by omega)
         obtain⟨_,_,Ig⟩:=World.cells?_some e3;have h1:=Ig (j%ks.length) hr;rw[hjj,lg ks xs _ _ hq hr]at hj;rw[gZ]at h1;simp only[cH,e1,Option.getD_some]at hj;simp only[Nat.zero_add,cH]at h1;rw[hj]at h1;rw[hjj,<- h1];congr 1;rw[gg]
     . cases ha
   . cases ha
 . cases ha
end Go.Sx
namespace Go.Sx
open Go.RowKit Go.WideShapes Go.ChangeShapes
variable {H:Type}{enc:TypeId×Value->H}{P:Program}{w:World}{base:Nat}{spare:Nat->Bool}{held:Bool}
theorem Jl:∀ {aK:List NK} {ds:List (Int×List Int)},wg aK ds->ds.length=aK.length:=by
 intro aK;induction aK with
 | nil=>intro ds h;cases ds with
   |nil=>rfl
   |cons _ _=>exact h.elim
 | cons k aK ih=>intro ds h;cases ds with
   |nil=>exact h.elim
   |cons d ds=>simp[ih h.2]
theorem Rb:∀ {aK:List NK} {ds:List (Int×List Int)} (rest:List Int) {j:Nat} {d:Int×List Int},wg aK ds->ds[j]?=some d->nD aK (ds.map (·.1)) (ds.flatMap (·.2)++rest) j=d.2:=by
 intro aK;induction aK with
 | nil=>intro ds rest j d h hd;cases ds with
   |nil=>simp at hd
   |cons _ _=>exact h.elim
 | cons k aK ih=>intro ds rest j d h hd;cases ds with
   |nil=>exact h.elim
   | cons d0 ds=>
     cases k with
     | c k=>
       have h2:d0.2=[]:=h.1.2;cases j with
       |zero=>simp only[List.getElem?_cons_zero,af]at hd;subst hd;rw[h2];rfl
       | succ j=>
         simp only[List.getElem?_cons_succ]at hd;have:=ih rest h.2 hd;simpa[nD,h2]using this
     | s e k=>
       have h1:d0.1=(d0.2.length:Int):=h.1.1;cases j with
       | zero=>
         simp only[List.getElem?_cons_zero,af]at hd;subst hd;simp[nD,h1]
       | succ j=>
         simp only[List.getElem?_cons_succ]at hd;have:=ih rest h.2 hd;simpa[nD,h1]using this
theorem AO{aK:List NK}{ds:List (Int×List Int)}(h:wg aK ds){j:Nat}{d:Int×List Int}(hd:ds[j]?=some d):dK aK (td ds) j=d.2:=by
 have hl:=Jl h;unfold dK td;rw[List.take_append_of_le_length (by simp[hl]),List.take_of_length_le (by simp[hl]),List.drop_append_of_le_length (by simp[hl]),List.drop_of_length_le (by simp[hl])]
 have:=Rb [] h hd;simpa using this
theorem x9{aK:List NK}{ds:List (Int×List Int)}(h:wg aK ds){j:Nat}{d:Int×List Int}(hd:ds[j]?=some d):(td ds).getD j 0=d.1:=by
 have hj:=(cT.1 hd).1;unfold td;rw[cH,List.getElem?_append_left (by simpa using hj),List.getElem?_map,hd]
 rfl
def Hb(P:Program)(t:TypeId):Option NK:=match AN P t with
 |some (.c k)=>some (.c k)
 |some (.s e [k])=>some (.s e k)
 |_=>none
def ya(P:Program)(t:TypeId):Option CT:=match AN P t with
 |some a=>some a
 | none=>match P.underlying t with
   | some (.slice e)=>match pG P (Hb P) 16 e with
     |some aK=>if 0<aK.length/\P.cellsOf e=aK.length then some (.n e aK)else none
     |none=>none
   |_=>none
def nR(w:World)(nk:NK)(v:Value)(d:Int×List Int):Prop:=po (fun k=>k<w.heap.size) w nk d.1 d.2 v/\ZW nk d
theorem FF(t:TypeId)(a:NK)(fuel:Nat)(cs:List Value)(x:DataW H×List MemPlace)(ha:Hb P t=some a)(ht:DataW.trod enc P w base spare held fuel t cs=some x):∃v d,cs=[v]/\nR w a v d:=by
 unfold Hb at ha;have key:=fun c hc=>x8 (B:=fun d=>match d with| .slice es _=>es.length|_=>0) (fun es sp=>Nat.le_refl _) t c fuel cs x hc ht
 split at ha
 . rename_i k hk;simp only[af]at ha;subst ha;obtain⟨v,b,rfl,⟨h1,h2⟩,_⟩:=key _ hk;cases k with
   | i k=>cases b with
     |i n=>exact⟨v,(n,[]),rfl,h1,h2,rfl⟩
     |b _=>exact h2.elim
     |l _=>exact h2.elim
   | b=>cases b with
     |b n=>exact⟨v,(if n then 1 else 0,[]),rfl,by have h1:v = .bool n:=h1;rw[h1];cases n<;>rfl,by cases n<;>simp[kR],rfl⟩
     |i _=>exact h2.elim
     |l _=>exact h2.elim
   |f=>exact h2.elim
 . rename_i e k hk;simp only[af]at ha;subst ha;obtain⟨v,b,rfl,⟨h1,h2⟩,_⟩:=key _ hk;cases b with
   |i _=>exact h2.elim
   |b _=>exact h2.elim
   | l xs=>
     obtain⟨hl,gF⟩:=h2;have hr:∀row∈xs,∃n,row=[n]/\kR k n:=fun row bc=>by
       have:=gF row bc
       match row,this with
       | [n],h=>exact⟨n,rfl,h.1⟩
     have hx:∀xs:List (List Int),(∀row∈xs,∃n,row=[n]/\kR k n)->∃ns:List Int,xs=ns.map (fun n=>[n])/\∀n∈ns,kR k n:=by
       intro xs;induction xs with
       |nil=>intro _;exact⟨[],rfl,fun n h=>by simp at h⟩
       | cons r xs ih=>
         intro h;obtain⟨n,rfl,hn⟩:=h r (aO ..);obtain⟨ns,rfl,BQ⟩:=ih fun row bc=>h row (bp _ bc)
         exact⟨n::ns,rfl,fun m hm=>(bq.1 hm).elim (fun e=>e▸hn) (BQ m)⟩
     obtain⟨ns,rfl,BQ⟩:=hx xs hr;have h1:0 < [k].length/\Reads w v (ns.map fun n=>[n]).length (aA [k] (ns.map fun n=>[n])):=h1
     obtain⟨_,h1⟩:=h1;rw[List.length_map]at h1 hl;refine⟨v,(ns.length,ns),rfl,⟨rfl,h1,fun cx b hb=>?_⟩,rfl,hl,BQ⟩
     obtain⟨a,cap,rfl,_,_,iu⟩:=h1
     match ns,cx with
     | n::ns,_=>
       obtain⟨a,rfl,ha⟩:=iu 0 (k.val n) rfl;simp only[Value.ownBlock,af]at hb;have:=World.block_lt_of_cell? w (a.add 0) ha;rw[Addr.add_zero']at this;omega
 . cases ha
theorem AP{α β:Type}{R:α->Value->β->Prop}:∀ {cs:List α} {vs:List Value} {ds:List β},cW R cs vs ds->∀ {j:Nat} {c:α},cs[j]?=some c->∃v d,vs[j]?=some v/\ds[j]?=some d/\R c v d:=by
 intro cs;induction cs with
 |nil=>intro vs ds h j c hc;simp at hc
 | cons c cs ih=>
   intro vs ds h j c' hc;cases vs with
   |nil=>exact h.elim
   | cons v vs=>cases ds with
     |nil=>exact h.elim
     | cons d ds=>cases j with
       |zero=>simp only[List.getElem?_cons_zero,af]at hc;subst hc;exact⟨v,d,rfl,rfl,h.1⟩
       |succ j=>exact ih h.2 (by simpa using hc)
theorem yb{w:World}:∀ {aK:List NK} {vs:List Value} {ds:List (Int×List Int)},cW (nR w) aK vs ds->wg aK ds:=by
 intro aK;induction aK with
 |nil=>intro vs ds h;cases vs<;>cases ds<;>simp_all[cW,wg]
 | cons k aK ih=>
   intro vs ds h;cases vs with
   |nil=>exact h.elim
   | cons v vs=>cases ds with
     |nil=>exact h.elim
     |cons d ds=>exact⟨h.1.2,ih h.2⟩
theorem Jm{t:TypeId}{aK:List NK}{fuel:Nat}{cs:List Value}{x:DataW H×List MemPlace}(hk:pG P (Hb P) 16 t=some aK)(hC:P.cellsOf t=aK.length)(h:DataW.trod enc P w base spare held fuel t cs=some x) :
   ∃ds,cW (nR w) aK cs ds:=by
 obtain⟨ds,h1,_⟩:=tc (R:=nR w) (Q:=fun _ _=>True) (fun _ _ _ _ _=>trivial) (fun t a fuel cs x ha ht=>by
   obtain⟨v,d,h1,h2⟩:=FF t a fuel cs x ha ht;exact⟨v,d,h1,h2,trivial⟩) hk (fun _=>hC) h
 exact⟨ds,h1⟩
theorem yc{B:DataW H->Nat}(hB:∀es sp,List.length es<=B (.slice es sp))(t:TypeId)(a:CT)(fuel:Nat)(cs:List Value)(x:DataW H×List MemPlace)(ha:ya P t=some a)(ht:DataW.trod enc P w base spare held fuel t cs=some x) :
   ∃v b,cs=[v]/\FD w a v b/\(∀xs,b=DV.l xs->xs.length<=B x.1):=by
 unfold ya at ha;split at ha
 . rename_i c hc;simp only[af]at ha;subst ha;exact x8 hB t _ fuel cs x hc ht
 split at ha
 . rename_i e hu;split at ha
   . rename_i aK lS;split at ha
     . rename_i hc;simp only[af]at ha;subst ha;rcases Go.Deep.open_slice hu ht with⟨rfl,rfl⟩|⟨a,len,cap,m,n,D,Pl,rfl,hb,hl,hm,ZX,rfl,hi⟩
       . refine⟨_,.l [],rfl,⟨⟨hc.1,none,0,rfl,Nat.zero_le _,fun _=>⟨rfl,rfl⟩,fun i r hi=>by simp at hi⟩,Nat.zero_le _,fun row hr=>by simp at hr⟩,fun xs h=>by cases h;exact Nat.zero_le _⟩
       . have hle:len<=m:=by rw[ZX];split<;>omega
         have bc:∀i,i<len->∃ds,∃nW,w.cells? base (a.add (i*aK.length)) aK.length=some nW/\cW (nR w) aK nW ds:=fun i hil=>by
           obtain⟨nW,h1,h2⟩:=hi i (by omega)
           obtain⟨ds,h3⟩:=Jm lS hc.2 h2;rw[hc.2]at h1;exact⟨ds,nW,h1,h3⟩
         have b8:∀k,k<=len->∃xs:List (List Int),xs.length=k/\(∀i,i<k->∃ds,xs[i]?=some (td ds)/\∃nW,w.cells? base (a.add (i*aK.length)) aK.length=some nW/\cW (nR w) aK nW ds):=by
           intro k;induction k with
           |zero=>intro _;exact⟨[],rfl,fun i h=>by omega⟩
           | succ k ih=>
             intro hk;obtain⟨xs,nL,hx⟩:=ih (by omega)
             obtain⟨ds,pF⟩:=bc k (by omega)
             refine⟨xs++[td ds],by simp[nL],fun i hik=>?_⟩
             rcases Nat.lt_or_ge i k with h|h
             . obtain⟨r,e1,e2⟩:=hx i h;exact⟨r,by rw[List.getElem?_append_left (by omega)];exact e1,e2⟩
             . have:i=k:=by omega
               subst this;exact⟨ds,by rw[List.getElem?_append_right (by omega)];simp[nL],pF⟩
         obtain⟨xs,nL,hx⟩:=b8 len (Nat.le_refl _);refine⟨_,.l xs,rfl,⟨⟨hc.1,some a,cap,by rw[nL],by omega,fun h=>(by cases h),fun i r Yy=>⟨a,rfl,?_,fun j nk hj=>?_⟩⟩,by omega,fun row bc=>?_⟩,fun ys h=>(by cases h;exact Nat.le_trans (by simp[nL]) (hB _ _))⟩
         . obtain⟨ds,_,nW,h1,h2⟩:=hx i (by have:=(cT.1 Yy).1;omega)
           obtain⟨_,_,Ig⟩:=World.cells?_some h1;obtain⟨v,d,hv,_⟩:=AP h2 (dJ hc.1);have:=Ig 0 hc.1;rw[hv]at this;have:=World.block_lt_of_cell? w _ this;rw[ji,ji]at this;exact this
         . obtain⟨ds,e1,nW,h1,h2⟩:=hx i (by have:=(cT.1 Yy).1;omega)
           rw[Yy,af]at e1;subst e1;obtain⟨_,_,Ig⟩:=World.cells?_some h1;obtain⟨v,d,hv,hd,hn⟩:=AP h2 hj;have h3:=Ig j (cT.1 hj).1;rw[hv,gg]at h3;have lS:=yb h2;refine⟨v,h3,?_⟩;rw[x9 lS hd,AO lS hd];exact hn.1
         . obtain⟨i,Yy⟩:=List.mem_iff_getElem?.1 bc;obtain⟨ds,e1,nW,h1,h2⟩:=hx i (by have:=(cT.1 Yy).1;omega)
           rw[Yy,af]at e1;exact⟨ds,e1,yb h2⟩
     . cases ha
   . cases ha
 . cases ha
end Go.Sx
namespace Go.Sx
open Go.RowKit Go.WideShapes Go.ChangeShapes
variable {H:Type}{enc:TypeId×Value->H}{P:Program}
def Jn(P:Program)(t:TypeId):VT->Bool
 |.one c=>decide (ya P t=some c)
 | .agg cs=>(match P.underlying t with
   |some (.struct _)=>true
   |some (.array _ _)=>true
   |_=>false)&&decide (pG P (ya P) 16 t=some cs)&&decide (P.cellsOf t=cs.length)&&decide (ya P t=none)
 |.ptr _ _=>false
 |.fn _ _=>false
def AQ(P:Program):List TypeId->List VT->Bool
 | [],[]=>true
 |t::ts,v::vs=>Jn P t v&&AQ P ts vs
 |_,_=>false
def DP:List CT->List DV->Prop
 | [],[]=>True
 |c::cs,d::ds=>Vj c d/\DP cs ds
 |_,_=>False
theorem Jo{w:World}:∀ {cs:List CT} {vs:List Value} {ds:List DV},cW (FD w) cs vs ds->DP cs ds:=by
 intro cs;induction cs with
 |nil=>intro vs ds h;cases vs<;>cases ds<;>simp_all[cW,DP]
 | cons c cs ih=>
   intro vs ds h;cases vs with
   |nil=>simp[cW]at h
   | cons v vs=>cases ds with
     |nil=>simp[cW]at h
     |cons d ds=>exact⟨h.1.2,ih h.2⟩
theorem Jp{t:TypeId}{c:CT}(h:AN P t=some c):(∃k,P.underlying t=some (.int k))\/P.underlying t=some .bool\/∃e,P.underlying t=some (.slice e):=by
 unfold AN at h;split at h
 . rename_i k hu;exact .inl ⟨k,hu⟩
 . rename_i hu;exact .inr (.inl hu)
 . rename_i e hu;exact .inr (.inr ⟨e,hu⟩)
 . cases h
theorem Jq{t:TypeId}{c:CT}(h:ya P t=some c):(∃k,P.underlying t=some (.int k))\/P.underlying t=some .bool\/∃e,P.underlying t=some (.slice e):=by
 unfold ya at h;split at h
 . rename_i a ha;exact Jp ha
 . split at h
   . rename_i e hu;exact .inr (.inr ⟨e,hu⟩)
   . cases h
theorem LQ{b0:Nat}{B:DataW H->Nat}(hB:∀es sp,List.length es<=B (.slice es sp))(ZY:∀d parts,d∈parts->B d<=B (.agg parts)){W:World}{t:TypeId}{vt:VT}{v:Value}{d:DataW H}{p:List MemPlace}(hv:Jn P t vt=true)
   (gD:Value.okWide P W .any b0 t v) (h:DataW.Trod enc P W 0 (fun _=>true) true t v d p) :
   ∃bP DQ,cW (FD W) vt.bD bP DQ/\(∀ts rest,bT (vt::ts) (bP++rest)=v::bT ts rest)/\∀xs,DV.l xs∈DQ->xs.length<=B d:=by
 obtain⟨fuel,hf⟩:=h;cases vt with
 |ptr e k=>simp[Jn]at hv
 |fn g cs=>simp[Jn]at hv
 | one c=>
   simp only[Jn,aC]at hv;obtain⟨v',b,iu,hr,hq⟩:=yc (B:=B) hB t c fuel _ _ hv hf;have hvv:v.cells.toList=[v]:=by
     rcases Jq hv with⟨k,hu⟩|hu|⟨e,hu⟩
     . obtain⟨n,rfl⟩:=okWide_int hu gD;rfl
     . obtain⟨n,rfl⟩:=okWide_bool hu gD;rfl
     . obtain⟨a,len,cap,rfl⟩:=okWide_slice hu gD;rfl
   rw[hvv]at iu;simp only[List.cons.injEq,and_true]at iu;subst iu;refine⟨[v],[b],⟨hr,trivial⟩,fun ts rest=>rfl,fun xs hx=>?_⟩
   simp only[List.mem_singleton]at hx;exact hq xs hx.symm
 | agg cs=>
   simp only[Jn,ao,aC]at hv;obtain⟨⟨⟨Qt,Tz⟩,hv3⟩,hv4⟩:=hv;obtain⟨c,rfl⟩:∃c,v = .agg c:=by
     unfold Value.okWide at gD;split at Qt
     . rename_i hu;rw[hu]at gD;obtain⟨c,h,_⟩:=gD;exact⟨c,h⟩
     . rename_i hu;rw[hu]at gD;obtain⟨c,h,_⟩:=gD;exact⟨c,h⟩
     . cases Qt
   obtain⟨bs,h1,h2⟩:=tc (R:=FD W) (Q:=fun b (d:DataW H)=>∀xs,b=DV.l xs->xs.length<=B d) (fun b d parts hm hq xs hx=>Nat.le_trans (hq xs hx) (ZY d parts hm)) (yc hB) Tz (fun _=>hv3) hf
   have hl:=(FB h1).1;refine⟨_,bs,h1,fun ts rest=>?_,fun xs hx=>h2 _ hx xs rfl⟩
   simp only[bT,VT.bD]at hl ⊢;rw[List.take_append_of_le_length (by omega),List.take_of_length_le (by omega),List.drop_append_of_le_length (by omega),List.drop_of_length_le (by omega)]
   rfl
theorem Jr{b0:Nat}{B:DataW H->Nat}(hB:∀es sp,List.length es<=B (.slice es sp))(ZY:∀d parts,d∈parts->B d<=B (.agg parts)){W:World}:∀ {ts:List TypeId} {Qu:List VT} {vs:List Value} {ds:List (DataW H)} {ps:List MemPlace},AQ P ts Qu=true->
   (∀(j:Nat) (t:TypeId) (v:Value),ts[j]?=some t->vs[j]?=some v->Value.okWide P W .any b0 t v)->DataW.TrodAll enc P W 0 (fun _=>true) true ts vs ds ps->
   ∃bP DQ,cW (FD W) (bD Qu) bP DQ/\vs=bT Qu bP/\∀xs,DV.l xs∈DQ->∃d∈ds,xs.length<=B d:=by
 intro ts;induction ts with
 | nil=>
   intro Qu vs ds ps hv gD h;cases Qu with
   |nil=>obtain⟨rfl,rfl,rfl⟩:=trodAll_nil h;exact⟨[],[],trivial,rfl,fun xs hx=>by simp at hx⟩
   |cons _ _=>simp[AQ]at hv
 | cons t ts ih=>
   intro Qu vs ds ps hv gD h;cases Qu with
   |nil=>simp[AQ]at hv
   | cons vt Qu=>
     simp only[AQ,ao]at hv;obtain⟨v,Ko,d,mr,p,q,rfl,rfl,rfl,h1,h2⟩:=trodAll_cons h;obtain⟨c1,d1,g1,g2,g3⟩:=LQ hB ZY hv.1 (gD 0 t v rfl rfl) h1;obtain⟨c2,d2,k1,k2,k3⟩:=ih hv.2 (fun j t v a b=>gD (j+1) t v (by simpa using a) (by simpa using b)) h2
     have e:bD (vt::Qu)=vt.bD++bD Qu:=by simp[bD]
     refine⟨c1++c2,d1++d2,by rw[e];exact nH g1 k1,by rw[g2,k2],fun xs hx=>?_⟩
     rcases List.mem_append.1 hx with hx|hx
     . exact⟨d,aO ..,g3 xs hx⟩
     . obtain⟨d',ZR,hl⟩:=k3 xs hx;exact⟨d',bp _ ZR,hl⟩
theorem Js{W W':World}(hl:laidOutB P=true)(hb:Below W.heap.size W W'):∀ {ts:List TypeId} {vs:List Value} {ds:List (DataW H)} {ps:List MemPlace},(ts.all fun t=>P.readableRec t&&decide (t<P.types.size))=true->
   DataW.TrodAll enc P W 0 (fun _=>true) true ts vs ds ps->(∀x∈ps,x.block<W.heap.size)->DataW.TrodAll enc P W' 0 (fun b=>decide (b<W.heap.size)) true ts vs ds ps:=by
 intro ts;induction ts with
 |nil=>intro vs ds ps _ h _;obtain⟨rfl,rfl,rfl⟩:=trodAll_nil h;exact trodAll_mk0
 | cons t ts ih=>
   intro vs ds ps hr h cQ;simp only[List.all_cons,ao,aC]at hr;obtain⟨v,Ko,d,mr,p,q,rfl,rfl,rfl,h1,h2⟩:=trodAll_cons h;exact⟨p,q,Below.trod hl hr.1.1 hr.1.2 h1 hb (fun x hx=>cQ x (List.mem_append_left _ hx)),ih hr.2 h2 (fun x hx=>cQ x (List.mem_append_right _ hx)),rfl⟩
theorem LR{b0:Nat}{B:DataW H->Nat}(hB:∀es sp,List.length es<=B (.slice es sp))(ZY:∀d parts,d∈parts->B d<=B (.agg parts)){f:FuncId}{fn:Func}{s:ChangeSpec}{ct:cV}{Wd:World->Prop}{tb:TypeId}{W:World}{args:Array Value}{ds gs:List (DataW H)}{before:List MemPlace}
   (hOk:eN P Wd f ct) (Zi:Wd W) (ZZ:∀ds rs,ct.rel ds rs->rs=[.b true]) (rZ:ct.sig.res=[.one (.c .b)]) (hvt:AQ P fn.params.toList ct.sig.args=true) (hl:laidOutB P=true) (hr:(fn.params.toList.all fun t=>P.readableRec t&&decide (t<P.types.size))=true)
   (hrt:fn.resultTypes = #[tb]) (htb:P.underlying tb=some .bool) (TA:s.vars=[])
   (hs:∀ds:List (DataW H),ds.length=fn.params.toList.length->s.fn H ds = {results:=[.lit (.bool true)],args:=ds})
   (fq:∀(j:Nat) t v,fn.params[j]?=some t->args[j]?=some v->Value.okWide P W .any b0 t v) (hW:DataW.Whole enc P fn.params.toList s.vars false W args.toList ds gs before)
   (zI:∀DQ,DP (bD ct.sig.args) DQ->(∀xs,DV.l xs∈DQ->∃d∈ds,xs.length<=B d)->ct.pre DQ) :
   Calls P f args W fun e W'=>∃v,e = .returned v/\s.post enc P fn false true false false W args v W':=by
 have hW':=hW;obtain⟨p,q,hA,hV,rfl,hfz,nV⟩:=hW;rw[TA]at hV;obtain⟨rfl,rfl⟩:=trodVars_none hV;obtain⟨bP,DQ,h1,h2,h3⟩:=Jr hB ZY hvt (fun j t v a b=>fq j t v (by simpa using a) (by simpa using b)) hA
 have mT:=hOk.2 W args.toList DQ Zi ⟨bP,h2,FE h1⟩ (zI DQ (Jo h1) h3);rw[Array.toArray_toList]at mT;refine Calls.mono mT fun e W' he=>?_
 obtain⟨rv,fH,rfl,hb,hf,Qk,pL⟩:=he;have pL:fH=[.b true]:=ZZ _ _ pL;subst pL;rw[rZ]at hf;have cQ:∀x∈p,x.block<W.heap.size:=fun x hx=>by simpa using hW'.lt x (by simpa using hx)
 have hrv:rv=[.bool true]:=by
   match rv,hf with
   | [v],hf=>
     have:v = .bool true:=hf.1;rw[this]
 subst hrv;refine⟨_,rfl,ds,[],p,[],p,[],by simpa using hW',?_,?_,?_,Below.frame hb _,fun h=>by cases h⟩
 . have hlen:(ds++[]).length=fn.params.toList.length:=by
     have:∀ {ts:List TypeId} {vs:List Value} {ds:List (DataW H)} {ps:List MemPlace},DataW.TrodAll enc P W 0 (fun _=>true) true ts vs ds ps->ds.length=ts.length:=by
       intro ts;induction ts with
       |nil=>intro vs ds ps h;obtain⟨_,rfl,_⟩:=trodAll_nil h;rfl
       |cons t ts ih=>intro vs ds ps h;obtain⟨_,_,_,_,_,_,_,rfl,_,_,h2⟩:=trodAll_cons h;simp[ih h2]
     simpa using this hA
   rw[hs _ hlen,hrt];rw[rZ];show DataW.TrodAll enc P W' W.heap.size (fun _=>false) false [tb] [.bool true] [.lit (.bool true)] []
   exact trodAll_mk1 ⟨1,by simp[DataW.trod,Value.cells,htb]⟩
 . have hlen:(ds++[]).length=fn.params.toList.length:=by
     have:∀ {ts:List TypeId} {vs:List Value} {ds:List (DataW H)} {ps:List MemPlace},DataW.TrodAll enc P W 0 (fun _=>true) true ts vs ds ps->ds.length=ts.length:=by
       intro ts;induction ts with
       |nil=>intro vs ds ps h;obtain⟨_,rfl,_⟩:=trodAll_nil h;rfl
       |cons t ts ih=>intro vs ds ps h;obtain⟨_,_,_,_,_,_,_,rfl,_,_,h2⟩:=trodAll_cons h;simp[ih h2]
     simpa using this hA
   rw[hs _ hlen,List.append_nil];exact Js hl hb hr hA cQ
 . have hlen:(ds++[]).length=fn.params.toList.length:=by
     have:∀ {ts:List TypeId} {vs:List Value} {ds:List (DataW H)} {ps:List MemPlace},DataW.TrodAll enc P W 0 (fun _=>true) true ts vs ds ps->ds.length=ts.length:=by
       intro ts;induction ts with
       |nil=>intro vs ds ps h;obtain⟨_,rfl,_⟩:=trodAll_nil h;rfl
       |cons t ts ih=>intro vs ds ps h;obtain⟨_,_,_,_,_,_,_,rfl,_,_,h2⟩:=trodAll_cons h;simp[ih h2]
     simpa using this hA
   rw[hs _ hlen,TA];rfl
end Go.Sx

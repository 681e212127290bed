/- walk.Within: small functions, its iterator. -/
import Derived.Test.YtohebioanhliiaaGreatDoorJB2
import Derived.Test.YtohebioanhliiaaGreatDoorJC1
import Derived.Test.YtohebioanhliiaaGreatDoorJG1
import Derived.Test.YtohebioanhliiaaGreatDoorChecked
import Derived.KernelRfl
import Derived.RangeFuncNested
import Derived.RangeFuncBox
import Derived.RangeFuncBound
import Derived.RangeFuncCalls
import Derived.RangeFuncLeaves
import Derived.Shelf.Abstract
import Derived.Shelf.RegionOpen
import Derived.WalkKit
import Derived.OwnWalkIn
import Derived.TacticsInMore
import Derived.LoopNIn
import Derived.LoopIn
import Derived.Maps.AppendAt
import Derived.Sort.CutIn
set_option maxRecDepth 100000
set_option linter.unusedVariables false
set_option maxRecDepth 20000
set_option linter.unusedSimpArgs false
namespace Go.Proofs.YtohebioanhliiaaGreatDoor.aF
section
open Go.Sx Go
def kh(k:Nat):Cn:=if Nat.beq k 168 then {kc 168 with post:=[.or (.not (.v R0)) (.and (.and (.le (.v 0) (.v 4)) (.lt (.v 4) (.v 2))) (.and (.le (.v 1) (.v 5)) (.lt (.v 5) (.v 3))))] }else kc k
abbrev small:List Nat:=[65,168,210,211,247,250,251,284,268,207]
noncomputable abbrev Ce(i k:Nat):Bool:=Pg (lZ Tryz.prog kH) kh an (small.take i) k
theorem y65:Ce 0 65=true:=by kernel_rfl
theorem amw:Ce 1 168=true:=by kernel_rfl
theorem amx:Ce 2 210=true:=by kernel_rfl
theorem amy:Ce 3 211=true:=by kernel_rfl
theorem amz:Ce 4 247=true:=by kernel_rfl
theorem amA:Ce 5 250=true:=by kernel_rfl
theorem amB:Ce 6 251=true:=by kernel_rfl
theorem amC:Ce 7 284=true:=by kernel_rfl
theorem amD:Ce 8 268=true:=by kernel_rfl
theorem amE:Ce 9 207=true:=by kernel_rfl
theorem MK(X:bH):oc (TT Tryz.prog) X kh small:=by
 have h0:oc (TT Tryz.prog) X kh (small.take 0):=fun j hj=>by simp at hj
 have h1:=h0.next (k:=65) rfl (ax aw h0 y65)
 have h2:=h1.next (k:=168) rfl (ax aw h1 amw)
 have h3:=h2.next (k:=210) rfl (ax aw h2 amx)
 have h4:=h3.next (k:=211) rfl (ax aw h3 amy)
 have h5:=h4.next (k:=247) rfl (ax aw h4 amz)
 have h6:=h5.next (k:=250) rfl (ax aw h5 amA)
 have h7:=h6.next (k:=251) rfl (ax aw h6 amB)
 have h8:=h7.next (k:=284) rfl (ax aw h7 amC)
 have h9:=h8.next (k:=268) rfl (ax aw h8 amD)
 have Xv:=h9.next (k:=207) rfl (ax aw h9 amE)
 exact Xv
end
section
open Go.Sx Go.RowKit Go
abbrev X0:bH:=XX fun _=>none
open Classical in
noncomputable def gv(k:Nat)(ds:List DV):List DV:=if h:∃rs,cK (TT Tryz.prog) X0 k ds rs then Classical.choose h else []
theorem te{k:Nat}{ds rs:List DV}(h:cK (TT Tryz.prog) X0 k ds rs):gv k ds=rs:=by
 have hx:∃rs,cK (TT Tryz.prog) X0 k ds rs:=⟨rs,h⟩;unfold gv;rw[dif_pos hx];exact(Classical.choose_spec hx).uf h
theorem oT{k:Nat}(hk:k∈small){ds:List DV}(hp:(kh k).gN ds):cK (TT Tryz.prog) X0 k ds (gv k ds)/\(kh k).ij ds (gv k ds):=by
 obtain⟨rs,h1,h2⟩:=MK X0 k hk ds hp;rw[te h1];exact⟨h1,h2⟩
theorem jR(hr:gp){k:Nat}{s:bR}(hk:k∈small){r:nj}(hl:kW k kH=some r)(hf:r.f=k)(hs:kI k=some s)(hc:s.cons=0){w:World}{vs:List Value}{ds:List DV}(hw:Wd w)(ha:Ae w s.args vs ds)(hp:(kh k).gN ds) :
   Calls Tryz.prog k vs.toArray w fun e w'=>∃bT,e = .returned (packed (bZ s.res bT))/\Below w.heap.size w w'/\fitAll (kV w' w.heap.size) (bI s.res) bT (gv k ds):=by
 have hT:TT Tryz.prog k=some ⟨r.f,gO Tryz.prog r,r.sub⟩:=by
   show lZ Tryz.prog kH k=_;simp only[lZ,hl]
 have h0:=amF hr;have h:=wh h0 (ct:=⟨s,(kh k).gN,fun ds rs=>rs=gv k ds,fun ds hd=>⟨gv k ds,by
   obtain⟨⟨n,hn⟩,_⟩:=oT hk hd;exact sX h0 hs hn,rfl⟩⟩) hT hs hc (fun ds _ hd=>⟨gv k ds,(oT hk hd).1,rfl⟩)
 have Bs:k=r.f:=hf.symm;have:=h.2 w vs ds hw ha hp;rw[show(⟨r.f,gO Tryz.prog r,r.sub⟩:iG).f=k from hf]at this;refine this.mono ?_;rintro e w' ⟨bT,gG,e1,e2,e3,_,e5⟩;have e5:gG=gv k ds:=e5;subst e5;exact⟨bT,e1,e2,e3⟩
abbrev wk:List CK:=[i6,i6,i6,i6,.b,i6,i6,i6,.b,.b,i6,i6]
def jD(w:World)(g cap:Nat)(r:List Int):Prop:=g<w.heap.size/\Reads w (.slice (some ⟨g,0,none⟩) 1 cap) 1 (aB wk [r])/\∃cs z,w.heap[g]?=some (.cells cs 323 z)
theorem jD.gF{w w':World}{g cap:Nat}{r:List Int}(h:jD w g cap r)(hs:w.heap.size<=w'.heap.size)(hb:w'.heap[g]?=w.heap[g]?):jD w' g cap r:=
 ⟨DB h.1 hs,h.2.1.mL fun _ b e=>by simp[Value.ownBlock]at e;subst e;exact hb,by rw[hb];exact h.2.2⟩
theorem jD.below{w w':World}{g cap:Nat}{r:List Int}(h:jD w g cap r)(hb:Below w.heap.size w w'):jD w' g cap r:=h.gF hb.size (hb.block g h.1)
theorem jD.cell{w:World}{g cap:Nat}{r:List Int}(h:jD w g cap r){j:Nat}{u:Value}(hu:(bP wk 0 r)[j]?=some u):w.cell? ⟨g,j,none⟩=some u:=by
 obtain⟨_,⟨base,pF,e,_,_,hc⟩,_⟩:=h;cases e;obtain⟨a,ea,hh⟩:=hc j u (by simpa[aB]using hu);cases ea;have e2:(⟨g,0,none⟩:Addr).add j=⟨g,j,none⟩:=by
   by_cases hj:j=0;subst hj;rfl;simp[Addr.add,hj]
 rw[<- e2];exact hh
structure kE(r:List Int):Prop where
 in_:cA [(-268500000,268500000),(-268500000,268500000),(-268500000,268500000),(-268500000,268500000),(0,1),(0,1),(-1200000,1200000),(-1200000,1200000),(0,1),(0,1),(-1200000,1200000),(-1200000,1200000)] 0 r
 ne:r.getD 2 0≠r.getD 0 0
theorem VM:kh 207=⟨[Pc,Pc,Pc,Pc],[.not (.and (.eq (.v 0) (.v 2)) (.eq (.v 1) (.v 3)))],[vo],[.not (.eq (.get R0 (.c 0) 2) (.get R0 (.c 0) 0))]⟩:=by kernel_rfl
theorem VN:kh 210=⟨[vo],[],[.i 0 2500000],[]⟩:=by kernel_rfl
theorem VO:kh 211=⟨[vo],[],[.i (-1) 1],[]⟩:=by kernel_rfl
theorem ae6:kh 250=⟨[vo,.i (-8388608) 8388608],[.not (.eq (.get 0 (.c 0) 2) (.get 0 (.c 0) 0))],[.i (-4611686018427387904) 4611686018427387904,.i 1 549755813888],[]⟩:=by kernel_rfl
theorem VP:kh 251=⟨[vo,.i (-8388608) 8388608],[.not (.eq (.get 0 (.c 0) 2) (.get 0 (.c 0) 0))],[.i (-4611686018427387905) 4611686018427387904],[]⟩:=by kernel_rfl
theorem VQ:kh 168=⟨[.i mn mx,.i mn mx,.i mn mx,.i mn mx,.i mn mx,.i mn mx],[],[.b],[.or (.not (.v R0)) (.and (.and (.le (.v 0) (.v 4)) (.lt (.v 4) (.v 2))) (.and (.le (.v 1) (.v 5)) (.lt (.v 5) (.v 3))))]⟩:=by kernel_rfl
theorem k65:(kh 65).args=[.i mn mx,.i mn mx,.i mn mx,.i mn mx]/\(kh 65).pre=[]/\(kh 65).res=[.b]:=⟨by kernel_rfl,by kernel_rfl,by kernel_rfl⟩
theorem ae7:kW 207 kH=some (rowOf 207):=by kernel_rfl
theorem ae8:kW 210 kH=some (rowOf 210):=by kernel_rfl
theorem ae9:kW 211 kH=some (rowOf 211):=by kernel_rfl
theorem ae':kW 250 kH=some (rowOf 250):=by kernel_rfl
theorem afa:kW 251 kH=some (rowOf 251):=by kernel_rfl
theorem afb:kW 168 kH=some (rowOf 168):=by kernel_rfl
theorem amG:kW 65 kH=some (rowOf 65):=by kernel_rfl
theorem amH:kI 207=some Ku:=by kernel_rfl
theorem amI:kI 210=some Kv:=by kernel_rfl
theorem amJ:kI 211=some Kx:=by kernel_rfl
theorem amK:kI 250=some Ky:=by kernel_rfl
theorem amL:kI 251=some Kz:=by kernel_rfl
theorem amM:kI 168=some KA:=by kernel_rfl
theorem s65:kI 65=some VR:=by kernel_rfl
def afc:List DV->List Int
 | [.l [r]]=>r
 |_=>[]
def QG:List DV->Int
 | [.i n]=>n
 |_=>0
def amN:List DV->Int×Int
 | [.i n,.i m]=>(n,m)
 |_=>(0,0)
def QH:List DV->Bool
 | [.b x]=>x
 |_=>false
noncomputable def wy(a0 a1 b0 b1:Int):List Int:=afc (gv 207 [.i a0,.i a1,.i b0,.i b1])
noncomputable def kX(r:List Int):Int:=QG (gv 210 [.l [r]])
noncomputable def fq(r:List Int):Int:=QG (gv 211 [.l [r]])
noncomputable def dT(r:List Int)(u:Int):Int×Int:=amN (gv 250 [.l [r],.i u])
noncomputable def jJ(r:List Int)(u:Int):Int:=QG (gv 251 [.l [r],.i u])
noncomputable def np(x0 y0 x1 y1 x y:Int):Bool:=QH (gv 168 [.i x0,.i y0,.i x1,.i y1,.i x,.i y])
noncomputable def my(x0 y0 x1 y1:Int):Bool:=QH (gv 65 [.i x0,.i y0,.i x1,.i y1])
theorem KB{d:DV}(h:vo.has d):∃r,d = .l [r]/\cA [(-268500000,268500000),(-268500000,268500000),(-268500000,268500000),(-268500000,268500000),(0,1),(0,1),(-1200000,1200000),(-1200000,1200000),(0,1),(0,1),(-1200000,1200000),(-1200000,1200000)] 0 r:=by
 cases d with
 | l xs=>
   obtain⟨h1,h2,h3⟩:=h;have h2:=h2 1 rfl
   match xs,h1,h2,h3 with
   | [],h1,_,_=>simp at h1
   | [r],_,_,h3=>exact⟨r,rfl,h3 r (aK ..)⟩
   |_::_::_,_,h2,_=>simp at h2;omega
 |i n=>exact h.elim
 |b x=>exact h.elim
theorem oh{r:List Int}(h:kE r):vo.has (.l [r]):=⟨by simp,fun y e=>by cases e;simp,fun r' hr=>by simp at hr;subst hr;exact h.in_⟩
section
variable (hr:gp){w:World}(hw:Wd w)
theorem QI(hr:gp){w:World}(hw:Wd w){a0 a1 b0 b1:Int}(h0: -268500000<=a0/\a0<=268500000)(h1: -268500000<=a1/\a1<=268500000)(h2: -268500000<=b0/\b0<=268500000)(h3: -268500000<=b1/\b1<=268500000)(cQ:¬(a0=b0/\a1=b1)) :
   kE (wy a0 a1 b0 b1)/\Calls Tryz.prog 207 #[.agg #[.int .i64 a0,.int .i64 a1],.agg #[.int .i64 b0,.int .i64 b1]] w fun e w'=>∃g cap,e = .returned (.pointer (some ⟨g,0,none⟩))/\Below w.heap.size w w'/\w.heap.size<=g/\jD w' g cap (wy a0 a1 b0 b1):=by
 have hp:(kh 207).gN [.i a0,.i a1,.i b0,.i b1]:=by
   rw[VM];refine⟨⟨h0,h1,h2,h3,trivial⟩,fun p hp=>?_⟩;obtain rfl:p=_:=lg.1 hp;have:(decide (a0=b0)&&decide (a1=b1))=false:=by
     rw[NY,tZ,tZ];exact Classical.not_and_iff_not_or_not.1 cQ
   show(!(decide (a0=b0)&&decide (a1=b1)))=true;rw[this];rfl
 obtain⟨_,hq,xo⟩:=oT (k:=207) (by decide) hp;rw[VM]at hq xo;obtain⟨r,hg,bj⟩:∃r,gv 207 [.i a0,.i a1,.i b0,.i b1]=[.l [r]]/\cA [(-268500000,268500000),(-268500000,268500000),(-268500000,268500000),(-268500000,268500000),(0,1),(0,1),(-1200000,1200000),(-1200000,1200000),(0,1),(0,1),(-1200000,1200000),(-1200000,1200000)] 0 r:=by
   generalize gv 207 [.i a0,.i a1,.i b0,.i b1]=rs at hq
   match rs,hq with
   | [d],hq=>
     obtain⟨r,rfl,h⟩:=KB hq.1;exact⟨r,rfl,h⟩
 have IU:wy a0 a1 b0 b1=r:=by unfold wy;rw[hg];rfl
 have NH:=xo _ (lg.2 rfl);rw[hg]at NH;rw[IU];refine⟨⟨bj,fun e=>?_⟩,?_⟩;have e':(decide (r.getD 2 0=r.getD 0 0))=true:=gQ e;have:(!(decide (r.getD 2 0=r.getD 0 0)))=true:=NH;rw[e']at this;cases this;refine(jR hr (k:=207) (ds:=[.i a0,.i a1,.i b0,.i b1]) (by decide) ae7 (by kernel_rfl) amH rfl hw (vs:=[.agg #[.int .i64 a0,.int .i64 a1],.agg #[.int .i64 b0,.int .i64 b1]]) ⟨[.int .i64 a0,.int .i64 a1,.int .i64 b0,.int .i64 b1],rfl,rfl,rfl,rfl,rfl,trivial⟩ hp).mono ?_;rintro e w' ⟨bT,rfl,hb,dJ⟩;rw[hg]at dJ
 match bT,dJ with
 | [v],dJ=>
   have bM:w'.ownsRow w.heap.size 323 12 v 1 (aB wk [r]):=dJ.1.2;rcases id bM with⟨_,⟨_,h⟩|⟨g,cap,cur,rfl,DM,hh,_⟩⟩
   omega;exact⟨g,cap,rfl,hb,DM,(rJ.1 hh).1,oW bM,_,_,hh⟩
variable {g cap:Nat}{r:List Int}(G5:jD w g cap r)(hZ:kE r)
theorem Di(hr:gp){w:World}(hw:Wd w){g:Nat}{cap:Nat}{r:List Int}(G5:jD w g cap r)(hZ:kE r):(0<=kX r/\kX r<=2500000)/\Calls Tryz.prog 210 #[.pointer (some ⟨g,0,none⟩)] w fun e w'=>e = .returned (.int .i64 (kX r))/\Below w.heap.size w w':=by
 have hp:(kh 210).gN [.l [r]]:=by rw[VN];exact⟨⟨oh hZ,trivial⟩,fun p hp=>by cases hp⟩
 obtain⟨_,hq,_⟩:=oT (k:=210) (by decide) hp;rw[VN]at hq;obtain⟨n,hg,hn⟩:∃n:Int,gv 210 [.l [r]]=[.i n]/\0<=n/\n<=2500000:=by
   generalize gv 210 [.l [r]]=rs at hq
   match rs,hq with
   | [.i n],hq=>exact⟨n,rfl,hq.1⟩
 have IU:kX r=n:=by unfold kX;rw[hg];rfl
 rw[IU];refine⟨hn,(jR hr (k:=210) (ds:=[.l [r]]) (by decide) ae8 (by kernel_rfl) amI rfl hw (vs:=[.pointer (some ⟨g,0,none⟩)]) ⟨[.slice (some ⟨g,0,none⟩) 1 cap],rfl,⟨by decide,G5.2.1⟩,trivial⟩ hp).mono ?_⟩;rintro e w' ⟨bT,rfl,hb,dJ⟩;rw[hg]at dJ
 match bT,dJ with
 | [v],dJ=>
   have:v = .int .i64 n:=dJ.1;subst this;exact⟨rfl,hb⟩
theorem tV(hr:gp){w:World}(hw:Wd w){g:Nat}{cap:Nat}{r:List Int}(G5:jD w g cap r)(hZ:kE r):(-1<=fq r/\fq r<=1)/\Calls Tryz.prog 211 #[.pointer (some ⟨g,0,none⟩)] w fun e w'=>e = .returned (.int .i64 (fq r))/\Below w.heap.size w w':=by
 have hp:(kh 211).gN [.l [r]]:=by rw[VO];exact⟨⟨oh hZ,trivial⟩,fun p hp=>by cases hp⟩
 obtain⟨_,hq,_⟩:=oT (k:=211) (by decide) hp;rw[VO]at hq;obtain⟨n,hg,hn⟩:∃n:Int,gv 211 [.l [r]]=[.i n]/\-1<=n/\n<=1:=by
   generalize gv 211 [.l [r]]=rs at hq
   match rs,hq with
   | [.i n],hq=>exact⟨n,rfl,hq.1⟩
 have IU:fq r=n:=by unfold fq;rw[hg];rfl
 rw[IU];refine⟨hn,(jR hr (k:=211) (ds:=[.l [r]]) (by decide) ae9 (by kernel_rfl) amJ rfl hw (vs:=[.pointer (some ⟨g,0,none⟩)]) ⟨[.slice (some ⟨g,0,none⟩) 1 cap],rfl,⟨by decide,G5.2.1⟩,trivial⟩ hp).mono ?_⟩;rintro e w' ⟨bT,rfl,hb,dJ⟩;rw[hg]at dJ
 match bT,dJ with
 | [v],dJ=>
   have:v = .int .i64 n:=dJ.1;subst this;exact⟨rfl,hb⟩
theorem E4(cQ:r.getD 2 0≠r.getD 0 0){u:Int}:BE.af (aR.av 0 [.l [r],.i u]) (.not (.eq (.get 0 (.c 0) 2) (.get 0 (.c 0) 0)))=true:=by
 show(!(decide (r.getD 2 0=r.getD 0 0)))=true;rw[decide_eq_false cQ];rfl
theorem Bf(hr:gp){w:World}(hw:Wd w){g:Nat}{cap:Nat}{r:List Int}(G5:jD w g cap r)(hZ:kE r){u:Int}(hu: -8388608<=u/\u<=8388608):(1<=(dT r u).2/\(dT r u).2<=549755813888)/\Calls Tryz.prog 250 #[.pointer (some ⟨g,0,none⟩),.int .i64 u] w fun e w'=>e = .returned (.tuple #[.int .i64 (dT r u).1,.int .i64 (dT r u).2])/\Below w.heap.size w w':=by
 have hp:(kh 250).gN [.l [r],.i u]:=by
   rw[ae6];refine⟨⟨oh hZ,hu,trivial⟩,fun p hp=>?_⟩;obtain rfl:p=_:=lg.1 hp;exact E4 hZ.ne
 obtain⟨_,hq,_⟩:=oT (k:=250) (by decide) hp;rw[ae6]at hq;obtain⟨n,d,hg,hn⟩:∃n d:Int,gv 250 [.l [r],.i u]=[.i n,.i d]/\1<=d/\d<=549755813888:=by
   generalize gv 250 [.l [r],.i u]=rs at hq
   match rs,hq with
   | [.i n,.i d],hq=>exact⟨n,d,rfl,hq.2.1⟩
 have IU:dT r u=(n,d):=by unfold dT;rw[hg];rfl
 rw[IU];refine⟨hn,(jR hr (k:=250) (ds:=[.l [r],.i u]) (by decide) ae' (by kernel_rfl) amK rfl hw (vs:=[.pointer (some ⟨g,0,none⟩),.int .i64 u]) ⟨[.slice (some ⟨g,0,none⟩) 1 cap,.int .i64 u],rfl,⟨by decide,G5.2.1⟩,rfl,trivial⟩ hp).mono ?_⟩;rintro e w' ⟨bT,rfl,hb,dJ⟩;rw[hg]at dJ
 match bT,dJ with
 | [v,v'],dJ=>
   have:v = .int .i64 n:=dJ.1;subst this;have:v' = .int .i64 d:=dJ.2.1;subst this;exact⟨rfl,hb⟩
theorem yJ(hr:gp){w:World}(hw:Wd w){g:Nat}{cap:Nat}{r:List Int}(G5:jD w g cap r)(hZ:kE r){u:Int}(hu: -8388608<=u/\u<=8388608):(-4611686018427387905<=jJ r u/\jJ r u<=4611686018427387904)/\Calls Tryz.prog 251 #[.pointer (some ⟨g,0,none⟩),.int .i64 u] w fun e w'=>e = .returned (.int .i64 (jJ r u))/\Below w.heap.size w w':=by
 have hp:(kh 251).gN [.l [r],.i u]:=by
   rw[VP];refine⟨⟨oh hZ,hu,trivial⟩,fun p hp=>?_⟩;obtain rfl:p=_:=lg.1 hp;exact E4 hZ.ne
 obtain⟨_,hq,_⟩:=oT (k:=251) (by decide) hp;rw[VP]at hq;obtain⟨n,hg,hn⟩:∃n:Int,gv 251 [.l [r],.i u]=[.i n]/\-4611686018427387905<=n/\n<=4611686018427387904:=by
   generalize gv 251 [.l [r],.i u]=rs at hq
   match rs,hq with
   | [.i n],hq=>exact⟨n,rfl,hq.1⟩
 have IU:jJ r u=n:=by unfold jJ;rw[hg];rfl
 rw[IU];refine⟨hn,?_⟩;refine(jR hr (k:=251) (ds:=[.l [r],.i u]) (by decide) afa (by kernel_rfl) amL rfl hw (vs:=[.pointer (some ⟨g,0,none⟩),.int .i64 u]) ⟨[.slice (some ⟨g,0,none⟩) 1 cap,.int .i64 u],rfl,⟨by decide,G5.2.1⟩,rfl,trivial⟩ hp).mono ?_;rintro e w' ⟨bT,rfl,hb,dJ⟩;rw[hg]at dJ
 match bT,dJ with
 | [v],dJ=>
   have:v = .int .i64 n:=dJ.1;subst this;exact⟨rfl,hb⟩
end
def gh(n:Int):Prop:=-9223372036854775808<=n/\n<=9223372036854775807
section
variable (hr:gp){w:World}(hw:Wd w){x0 y0 x1 y1 x y:Int}(h0:gh x0)(h1:gh y0)(h2:gh x1)(h3:gh y1)
theorem Bg(hr:gp){w:World}(hw:Wd w){x0:Int}{y0:Int}{x1:Int}{y1:Int}(h0:gh x0)(h1:gh y0)(h2:gh x1)(h3:gh y1):Calls Tryz.prog 65 #[.agg #[.int .i64 x0,.int .i64 y0,.int .i64 x1,.int .i64 y1]] w fun e w'=>e = .returned (.bool (my x0 y0 x1 y1))/\Below w.heap.size w w':=by
 have hp:(kh 65).gN [.i x0,.i y0,.i x1,.i y1]:=by
   refine⟨?_,fun p hp=>?_⟩;rw[k65.1];exact⟨h0,h1,h2,h3,trivial⟩;rw[k65.2.1]at hp;cases hp
 obtain⟨_,hq,_⟩:=oT (k:=65) (by decide) hp;rw[k65.2.2]at hq;obtain⟨n,hg⟩:∃n:Bool,gv 65 [.i x0,.i y0,.i x1,.i y1]=[.b n]:=by
   generalize gv 65 [.i x0,.i y0,.i x1,.i y1]=rs at hq
   match rs,hq with
   | [.b n],hq=>exact⟨n,rfl⟩
 have IU:my x0 y0 x1 y1=n:=by unfold my;rw[hg];rfl
 rw[IU];refine(jR hr (k:=65) (ds:=[.i x0,.i y0,.i x1,.i y1]) (by decide) amG (by kernel_rfl) s65 rfl hw (vs:=[.agg #[.int .i64 x0,.int .i64 y0,.int .i64 x1,.int .i64 y1]]) ⟨[.int .i64 x0,.int .i64 y0,.int .i64 x1,.int .i64 y1],rfl,rfl,rfl,rfl,rfl,trivial⟩ hp).mono ?_;rintro e w' ⟨bT,rfl,hb,dJ⟩;rw[hg]at dJ
 match bT,dJ with
 | [v],dJ=>
   have:v = .bool n:=dJ.1;subst this;exact⟨rfl,hb⟩
theorem G6(hr:gp){w:World}(hw:Wd w){x0:Int}{y0:Int}{x1:Int}{y1:Int}{x:Int}{y:Int}(h0:gh x0)(h1:gh y0)(h2:gh x1)(h3:gh y1)(h4:gh x)(h5:gh y):(np x0 y0 x1 y1 x y=true->(x0<=x/\x<x1)/\y0<=y/\y<y1)/\Calls Tryz.prog 168 #[.agg #[.int .i64 x0,.int .i64 y0,.int .i64 x1,.int .i64 y1],.int .i64 x,.int .i64 y] w fun e w'=>e = .returned (.bool (np x0 y0 x1 y1 x y))/\Below w.heap.size w w':=by
 have hp:(kh 168).gN [.i x0,.i y0,.i x1,.i y1,.i x,.i y]:=by
   rw[VQ];exact⟨⟨h0,h1,h2,h3,h4,h5,trivial⟩,fun p hp=>by cases hp⟩
 obtain⟨_,hq,xo⟩:=oT (k:=168) (by decide) hp;rw[VQ]at hq xo;obtain⟨n,hg⟩:∃n:Bool,gv 168 [.i x0,.i y0,.i x1,.i y1,.i x,.i y]=[.b n]:=by
   generalize gv 168 [.i x0,.i y0,.i x1,.i y1,.i x,.i y]=rs at hq
   match rs,hq with
   | [.b n],hq=>exact⟨n,rfl⟩
 have IU:np x0 y0 x1 y1 x y=n:=by unfold np;rw[hg];rfl
 have hq3:=xo _ (lg.2 rfl);rw[hg]at hq3;rw[IU];refine⟨fun e=>?_,(jR hr (k:=168) (ds:=[.i x0,.i y0,.i x1,.i y1,.i x,.i y]) (by decide) afb (by kernel_rfl) amM rfl hw (vs:=[.agg #[.int .i64 x0,.int .i64 y0,.int .i64 x1,.int .i64 y1],.int .i64 x,.int .i64 y]) ⟨[.int .i64 x0,.int .i64 y0,.int .i64 x1,.int .i64 y1,.int .i64 x,.int .i64 y],rfl,rfl,rfl,rfl,rfl,rfl,rfl,trivial⟩ hp).mono ?_⟩;subst e;have:(!true||((decide (x0<=x)&&decide (x<x1))&&(decide (y0<=y)&&decide (y<y1))))=true:=hq3;simpa using this;rintro e w' ⟨bT,rfl,hb,dJ⟩;rw[hg]at dJ
 match bT,dJ with
 | [v],dJ=>
   have:v = .bool n:=dJ.1;subst this;exact⟨rfl,hb⟩
end
end
end Go.Proofs.YtohebioanhliiaaGreatDoor.aF
namespace Go.Proofs.YtohebioanhliiaaGreatDoor.VY
open Go Go.RowKit
variable {n:Nat}{P:Program}
def KD(B:Nat)(W W':World):Prop:=∀(k:Nat) (o:Obj),B<=k->W.heap[k]?=some o->o.isCells=false->W'.heap[k]?=some o
theorem MQ{α:Type}{g:Operand}{ps:Array Tmp}{assign body:Code}{Q:Exit->Act->World->Prop}{a:Act}{w:World}
   {gf:Nat} {lb:Array Value} (hg:a.eval g = .func (.func gf) #[] lb) (eg:∀args w,(callFunc gf args).run P w = .ok (.enter gf args) w)
   {QN:α->Array Value} (Fa:∀x,(QN x).size=ps.size) {xs:List α} (I:List α->World->Prop) (St Kp:World->World->Prop)
   (hIp:∀pre W l o o',I pre W->w.heap.size<=l->W.heap[l]?=some o->o.isCells=false->I pre (W.putObj l o'))
   (hIa:∀pre W o,I pre W->I pre (W.alloc o))
   (hIs:∀pre A B,I pre A->St A B->I pre B) (VW:∀A B,St A B->KD w.heap.size A B)
   (hKt:∀ {A B C:World},Kp A B->Kp B C->Kp A C) (hKp:∀(W:World) (l:Nat) (o:Obj),w.heap.size<=l->Kp W (W.putObj l o))
   (h0:I [] w) (afn:α->Act)
   (afo:∀(l:Nat) (J:List α->World->Prop) (W:World),(∀k,k<w.heap.size->W.heap[k]?=w.heap[k]?)->J [] W->(∀pre A,J pre A->I pre A)->(∀pre A B,J pre A->St A B->J pre B)->
     (∀pre x W1,J pre W1->xs[pre.length]?=some x->YieldAt Fence.wide (n-1-1) P l (QN x) W1 fun e W'=>e = .returned (.bool true)/\J (pre++[x]) W'/\Kp W1 W')->
     CallsIn Fence.wide (n-1) P gf (#[.func (.yield l) #[] #[]]++lb) W fun e W'=>(∃v,e = .returned v)/\J xs W')
   (V9:∀(l:Nat) (x:α) (W:World) (K:Act->World->Prop),K (afn x) W->
     assign.wpIn (Fence.wide.inRound l) (n-1-1) P (Exit.then K (fun _ _ _=>False)) {tmps:=(ps.zip (QN x)).foldl (fun t (p,v)=>t.setIfInBounds p v) a.tmps,defers:=[] } W)
   (CM:∀(l:Nat) (pre:List α) (x:α) (W:World),I pre W->xs[pre.length]?=some x->body.wpIn (Fence.wide.inRound l) (n-1-1) P (fun e _ W'=>e = .normal/\KD w.heap.size W W'/\Kp W W'/\I (pre++[x]) W') (afn x) W)
   (afp:∀(D:Nat) (W:World),w.heap.size<=D->I xs W->W.heap[D]?=some (.deferred (some []))->Q .normal {a with defers:={target:=.collected D,args:=#[] }::a.defers} W)
   (hn:1<=n) :
   (Code.rangeFunc g ps assign body).wpIn Fence.wide n P Q a w:=by
 refine wpIn_rangeFunc ?_;intro fn lL;let vu:LoopState->Loop:=fun st=>{state:=st,pending:=none,fn,tmps:=a.tmps,params:=ps,assign,body,defers:=w.heap.size}
 have hL1:((w.alloc (.deferred (some []))).alloc (.loop (vu .ready))).heap[w.heap.size+1]?=some (.loop (vu .ready)):=by
   have:=World.alloc_heap_new (w.alloc (.deferred (some []))) (.loop (vu .ready));rwa[World.size_alloc]at this
 have hK1:((w.alloc (.deferred (some []))).alloc (.loop (vu .ready))).heap[w.heap.size]?=some (.deferred (some [])):=
   (Below.heap_alloc _ _ _ (by simp)).trans (World.alloc_heap_new w _)
 have hI1:I [] ((w.alloc (.deferred (some []))).alloc (.loop (vu .ready))):=hIa _ _ _ (hIa _ _ _ h0);refine⟨w.heap.size+1,[{target:=.collected w.heap.size,args:=#[] }],(w.alloc (.deferred (some []))).alloc (.loop (vu .ready)),{target:=.fn (.func gf) lb,args:=#[.func (.yield (w.heap.size+1)) #[] #[]] },(w.alloc (.deferred (some []))).alloc (.loop (vu .ready)),gf,
   #[.func (.yield (w.heap.size+1)) #[] #[]]++lb,(w.alloc (.deferred (some []))).alloc (.loop (vu .ready)),?_,?_,fun _ _=>trivial,?_,fun _=>hn,?_⟩
 exact run_enterLoop_outer _ _ _ _ _
 . simp only[resolve,hg];simp[go_sem]
 . simp[invoke,go_sem,eg]
 have KF:∀k,k<w.heap.size->((w.alloc (.deferred (some []))).alloc (.loop (vu .ready))).heap[k]?=w.heap[k]? :=fun k hk=>(Below.heap_alloc _ _ k (by simp;omega)).trans (Below.heap_alloc _ _ k hk);generalize(w.alloc (.deferred (some []))).alloc (.loop (vu .ready))=W1 at hL1 hK1 hI1 KF;refine(afo (w.heap.size+1) (fun pre W=>I pre W/\W.heap[w.heap.size+1]?=some (.loop (vu .ready))/\W.heap[w.heap.size]?=some (.deferred (some []))) W1 KF ⟨hI1,hL1,hK1⟩ (fun _ _ h=>h.1) (fun pre A B h s=>⟨hIs _ _ _ h.1 s,VW _ _ s _ _ (by omega) h.2.1 rfl,VW _ _ s _ _ (Nat.le_refl _) h.2.2 rfl⟩) ?_).mono ?_;rintro pre x W ⟨hi,hl,hk⟩ hlen;have hy:=run_yield (P:=P) (args:=QN x) hl (Fa x);refine⟨fn,_,assign,body,hy,roundIn_of_wpIn lL (V9 _ x W _ ⟨_,run_beginRound hl rfl,?_⟩)⟩;have cJ:w.heap.size+1<W.heap.size:=(Array.getElem?_eq_some_iff.1 hl).1;have zH:(W.putObj (w.heap.size+1) (.loop (vu .busy))).heap[w.heap.size+1]?=some (.loop (vu .busy)):=World.putObj_heap_same cJ;have rC:(W.putObj (w.heap.size+1) (.loop (vu .busy))).heap[w.heap.size]?=some (.deferred (some [])):=(World.putObj_heap_other (by omega)).trans hk;refine wpIn_mono (CM _ pre x _ (hIp _ _ _ _ _ hi (by omega) hl rfl) hlen) ?_;rintro e a3 W3 ⟨rfl,hs,hkp,V0⟩;have hl3:=hs _ _ (by omega) zH rfl;have QV:=hs _ _ (Nat.le_refl _) rC rfl;have hr:=run_endRound (P:=P) none hl3;exact⟨_,_,hr,rfl,⟨hIp _ _ _ _ _ V0 (by omega) hl3 rfl,World.putObj_heap_same (Array.getElem?_eq_some_iff.1 hl3).1,(World.putObj_heap_other (by omega)).trans QV⟩,hKt (hKt (hKp _ _ _ (by omega)) hkp) (hKp _ _ _ (by omega))⟩;rintro e W2 ⟨⟨v,rfl⟩,hi,hl,hk⟩;exact⟨none,_,run_endLoop (P:=P) hl (by simp[vu]),afp _ _ (Nat.le_refl _) (hIp _ _ _ _ _ hi (by omega) hl rfl) ((World.putObj_heap_other (by omega)).trans hk)⟩
end Go.Proofs.YtohebioanhliiaaGreatDoor.VY
namespace Go.Proofs.YtohebioanhliiaaGreatDoor.aF
section
open Go.Sx Go.RowKit Go.Shelf Go
attribute [local go_sem] Oper.semAt_some
def px(t:Bool)(u v:Int):Int:=if t then v else u
def py(t:Bool)(u v:Int):Int:=if t then u else v
theorem Bh{w:World}{g:Nat}{t:Bool}(h4:w.cell? ⟨g,4,none⟩=some (.bool t))(u v:Int):Calls Tryz.prog 209 #[.pointer (some ⟨g,0,none⟩),.int .i64 u,.int .i64 v] w fun e w'=>e = .returned (.tuple #[.int .i64 (px t u v),.int .i64 (py t u v)])/\w'=w:=by
 unfold px py;go_enter Tryz.func209,Tryz.ntmps209
 go_wp2
 all_goals first|(go_ret2;exact⟨rfl,rfl⟩)|skip
 all_goals simp_all
theorem ML{w:World}(g:Nat)(u m:Int):Calls Tryz.prog 212 #[.pointer (some ⟨g,0,none⟩),.int .i64 u,.int .i64 m] w fun e w'=>e = .returned (.func (.func 249) #[] #[.pointer (some ⟨w.heap.size,0,none⟩),.pointer (some ⟨w.heap.size+1,0,none⟩),.pointer (some ⟨w.heap.size+1+1,0,none⟩)])/\w'=((w.alloc (.cells #[.pointer (some ⟨g,0,none⟩)] 319)).alloc (.cells #[.int .i64 u] 3)).alloc (.cells #[.int .i64 m] 3):=by
 go_enter Tryz.func212,Tryz.ntmps212
 go_wp2
 all_goals first|(go_ret;exact⟨rfl,rfl⟩)|skip
def qq(r:List Int)(i:Nat):Int:=r.getD i 0
def qb(r:List Int)(i:Nat):Bool:=decide (r.getD i 0≠0)
theorem jD.int{w:World}{g cap:Nat}{r:List Int}(h:jD w g cap r)(j:Nat)(hj:wk[j]?=some i6):w.cell? ⟨g,j,none⟩=some (.int .i64 (qq r j)):=by
 refine h.cell ?_;rw[iX wk 0 r j,hj,fC];rfl
theorem jD.bool{w:World}{g cap:Nat}{r:List Int}(h:jD w g cap r)(j:Nat)(hj:wk[j]?=some .b):w.cell? ⟨g,j,none⟩=some (.bool (qb r j)):=by
 refine h.cell ?_;rw[iX wk 0 r j,hj,fC];rfl
def up1(d whole add:Int)(x:Int×Int):Int×Int:=
 (wrap64 (x.1+whole+wrap64 (x.2+add)/d),wrap64 (x.2+add)%d)
noncomputable def jw(r:List Int)(u0:Int):Nat->Int×Int×Int
 |0=>(u0,jJ r u0,wrap64 ((dT r u0).1-wrap64 (jJ r u0*(dT r u0).2)))
 | i+1=>
   let d:=(dT r u0).2
   let a:=wrap64 (256*wrap64 (qq r 3-qq r 1))
   (wrap64 ((jw r u0 i).1+fq r),up1 d (wrap64 (a.tdiv d)) (a.tmod d) (jw r u0 i).2)
noncomputable def ik(r:List Int)(u0:Int)(m:Nat):List (Int×Int):=(List.range m).map fun i=>((jw r u0 i).1,(jw r u0 i).2.1)
def afd(bu:Nat)(A B:World):Prop:=Below A.heap.size A B\/∃v,B=A.setCell ⟨bu,0,none⟩ v
structure amO(A:World)(bw bm g cap:Nat)(r:List Int)(m:Int):Prop where
 wd:Wd A
 hw:A.cell? ⟨bw,0,none⟩=some (.pointer (some ⟨g,0,none⟩))
 hm:A.cell? ⟨bm,0,none⟩=some (.int .i64 m)
 uF:jD A g cap r
theorem IV(r:List Int)(u0:Int)(k:Nat):ik r u0 (k+1)=ik r u0 k++[((jw r u0 k).1,(jw r u0 k).2.1)]:=by
 unfold ik;rw[List.range_succ,ml];rfl
theorem VS{R D j q:Int}(hD:1<=D)(hq:j*D=q)(h0:0<=R-q)(h1:R-q<D):R/D=j/\R%D=R-q:=by
 have h2:R=(R-q)+D*j:=by rw[<- hq,ko j D];omega
 have h3:(R-q)/D=0:=Int.ediv_eq_zero_of_lt h0 h1;have h4:(R-q)%D=R-q:=Int.emod_eq_of_lt h0 h1;constructor;rw[h2,Int.add_mul_ediv_left _ _ (by omega),h3];omega;rw[h2,Int.add_mul_emod_self_left,<- h2,h4]
theorem up_mul(j D:Int):(j+1)*D=j*D+D:=by rw[Int.add_mul,Int.one_mul]
theorem QJ(j D:Int):(j-1)*D=j*D-D:=by rw[Int.sub_mul,Int.one_mul]
theorem wrap_wrap(a b:Int):wrap64 (wrap64 a+b)=wrap64 (a+b):=by unfold wrap64;omega
theorem MN(a:Int):wrap64 (wrap64 a-1)=wrap64 (a-1):=by unfold wrap64;omega
theorem fw{a:Int}(h0: -9223372036854775808<=a)(h1:a<=9223372036854775807):wrap64 a=a:=by unfold wrap64;omega
theorem E5(a:Int): -9223372036854775808<=wrap64 a/\wrap64 a<=9223372036854775807:=by unfold wrap64;omega
theorem int_eq{a b:Int}(h:a=b):Value.int .i64 a=Value.int .i64 b:=congrArg _ h
theorem MO{a D:Int}(h:a<0)(hD:1<=D):(-intOf (Value.int .i64 (a+D))).toNat<(-intOf (Value.int .i64 a)).toNat:=by
 show(-(a+D)).toNat<(-a).toNat;omega
theorem VU{a D:Int}(h:D<=a)(hD:1<=D):(intOf (Value.int .i64 (a-D))).toNat<(intOf (Value.int .i64 a)).toNat:=by
 show(a-D).toNat<a.toNat;omega
theorem aau{m k:Nat}(h:k<m):m-(intOf (Value.int .i64 ((k:Int)+1))).toNat<m-(intOf (Value.int .i64 (k:Int))).toNat:=by
 show m-((k:Int)+1).toNat<m-(k:Int).toNat;omega
theorem QK{r:List Int}{u0:Int}(Nq: -8388608<=u0/\u0<=8388608)(ha:gh (jJ r u0)){n k:Nat}{p:Int×Int}(h:(ik r u0 n)[k]?=some p):gh p.1/\gh p.2:=by
 have:p=((jw r u0 k).1,(jw r u0 k).2.1):=by
   unfold ik at h;rw[jt]at h;obtain⟨j,hj,rfl⟩:=bJ.1 h;have:=dc.1 hj;obtain⟨cJ,e⟩:=this;rw[List.getElem_range]at e;rw[e]
 subst this;cases k with
 |zero=>exact⟨⟨by show -9223372036854775808<=u0;omega,by show u0<=9223372036854775807;omega⟩,ha⟩
 |succ k=>exact⟨E5 _,E5 _⟩
theorem KC{t:Bool}{u v:Int}(hu:gh u)(hv:gh v):gh (px t u v)/\gh (py t u v):=by
 cases t;exact⟨hu,hv⟩;exact⟨hv,hu⟩
theorem fB{w w':World}{B:Nat}{t:TypeId}{v:Value}(h:Boxed w B t v)(hb:Below w.heap.size w w'):Boxed w' B t v:=(hb.block B h.lt).trans h
theorem VV(hr:gp){n l bw bu bm g cap:Nat}{r:List Int}{u0 m:Int}(hZ:kE r)(Nq: -8388608<=u0/\u0<=8388608)(hm:0<=m/\m<=1000)(J:List (Int×Int)->World->Prop)(W:World)(h0:J [] W)
   (hJ:∀pre A,J pre A->amO A bw bm g cap r m/\∃v,Boxed A bu 3 v) (VW:∀pre A B,J pre A->afd bu A B->J pre B) (lI:Boxed W bu 3 (.int .i64 u0))
   (hY:∀pre x W1,J pre W1->(ik r u0 m.toNat)[pre.length]?=some x->YieldAt Fence.wide (n-1) Tryz.prog l #[.int .i64 x.1,.int .i64 x.2] W1 fun e W'=>e = .returned (.bool true)/\J (pre++[x]) W'/\W'.heap[bu]?=W1.heap[bu]?) :
   CallsIn Fence.wide n Tryz.prog 249 #[.func (.yield l) #[] #[],.pointer (some ⟨bw,0,none⟩),.pointer (some ⟨bu,0,none⟩),.pointer (some ⟨bm,0,none⟩)] W fun e W'=>(∃v,e = .returned v)/\J (ik r u0 m.toNat) W':=by
 refine callsIn_of_wp Tryz.func249 rfl trivial ?_;simp only[Tryz.ntmps249,List.size_toArray,yN,List.length_nil,Nat.reduceAdd,Nat.reduceSub,Array.replicate_succ,Array.replicate_zero,List.push_toArray,List.append_toArray,mP,qt];obtain⟨⟨IW,hw0,tB,aav⟩,_⟩:=hJ _ _ h0;have hu1:=lI.cell;have hd:=(Bf hr IW aav hZ Nq).1;have Bv:(dT r u0).2≠0:=by omega
 gi_wp2_with (first
   |(refine⟨trivial,fun hh=>(by cases hh),?_⟩;gi_at_call 250;refine(callsIn_wide.2 (Bf hr IW aav hZ Nq).2).mono ?_;rintro e w1 ⟨rfl,xh⟩;have hJ1:=VW _ _ _ h0 (Or.inl xh);have XV:=fB lI xh;clear hw0 tB hu1;obtain⟨⟨wd1,hw1,vB,VX⟩,_⟩:=hJ _ _ hJ1;have hu1:=XV.cell)
   |(refine⟨trivial,fun hh=>(by cases hh),?_⟩;gi_at_call 251;refine(callsIn_wide.2 (yJ hr wd1 VX hZ Nq).2).mono ?_;rintro e w2 ⟨rfl,uS⟩;have hJ2:=VW _ _ _ hJ1 (Or.inl uS);have Nx:=fB XV uS;clear hw1 vB hu1;obtain⟨⟨wd2,hw2,Hd,QL⟩,_⟩:=hJ _ _ hJ2;have hu2:=Nx.cell;have Tm:=QL.int 3 rfl;have tC:=QL.int 1 rfl))
 have Tn:Tryz.prog.follows .mixedOrders=true:=by kernel_rfl
 gi_region
 all_goals gi_wp2
 gi_loopw [7,8,42] (fun v t i wr=>∃k:Nat,k<=m.toNat/\v = .int .i64 (jw r u0 k).2.1/\t = .int .i64 (jw r u0 k).2.2/\i = .int .i64 (k:Int)/\J (ik r u0 k) wr/\Boxed wr bu 3 (.int .i64 (jw r u0 k).1)) (fun _ _ i _=>m.toNat-(intOf i).toNat)
 case atStart=>exact⟨0,Nat.zero_le _,rfl,rfl,rfl,VW _ _ _ hJ2 (Or.inl ((Below.refl _ _).drew)),Nx⟩
 case round=>
   obtain⟨k,hk,rfl,rfl,rfl,hJr,hxr⟩:=hrel;clear hJ1 hJ2 XV Nx xh uS hw2 Hd VX QL wd1 wd2 tC Tm hu2 lI h0 IW aav;obtain⟨⟨wdr,IU,hmr,amP⟩,_⟩:=hJ _ _ hJr;have hur:=hxr.cell;rcases mS k m.toNat with cJ|mF
   . have Lr:(k:Int)<m:=by omega
     obtain⟨fn,tmps,assign,body,hy,hR⟩:=hY (ik r u0 k) ((jw r u0 k).1,(jw r u0 k).2.1) wr hJr (by simp[ik,cJ]);dsimp only at hy
     gi_wp2
     refine⟨fun hh=>(by cases hh),?_⟩;refine hR.mono ?_;clear hR hy hur IU hmr amP wdr;rintro e W3 ⟨rfl,hJ3,hbu⟩;have hx3:Boxed W3 bu 3 (.int .i64 (jw r u0 k).1):=hbu.trans hxr;clear hbu hxr hJr;have aaw:=VW _ _ _ hJ3 (Or.inl ((Below.refl _ _).drew));obtain⟨⟨wd3,hw3,_,afe⟩,_⟩:=hJ _ _ aaw;have hu3:=hx3.cell;have hf3:=hx3.frozen;have amQ:W3.cell? ⟨bw,0,none⟩=some (.pointer (some ⟨g,0,none⟩)):=hw3
     gi_wp2
     gi_region_with_o (refine⟨trivial,fun hh=>(by cases hh),?_⟩;gi_at_call 211;refine(callsIn_wide.2 (tV hr wd3 afe hZ).2).mono ?_;rintro e w4 ⟨rfl,hb4⟩;have hJ4:=VW _ _ _ aaw (Or.inl hb4);have hx4:=fB (w:=W3.drew) hx3 hb4;have hu4:=hx4.cell;have hf4:=hx4.frozen)
     all_goals gi_wp2
     all_goals (
       generalize hW5:w4.setCell ⟨bu,0,none⟩ (.int .i64 (wrap64 ((jw r u0 k).1+fq r)))=W5;have hJ5:J (ik r u0 (k+1)) W5:=by rw[IV,<- hW5];exact VW _ _ _ hJ4 (Or.inr ⟨_,rfl⟩)
       have hx5:Boxed W5 bu 3 (.int .i64 (wrap64 ((jw r u0 k).1+fq r))):=by rw[<- hW5];exact hx4.set _
       have Fi:(jw r u0 (k+1)).1=wrap64 ((jw r u0 k).1+fq r):=rfl;have LL:(jw r u0 (k+1)).2.1=wrap64 ((jw r u0 k).2.1+wrap64 ((wrap64 (256*wrap64 (qq r 3-qq r 1))).tdiv (dT r u0).2)+wrap64 ((jw r u0 k).2.2+(wrap64 (256*wrap64 (qq r 3-qq r 1))).tmod (dT r u0).2)/(dT r u0).2):=rfl;have hs3:(jw r u0 (k+1)).2.2=wrap64 ((jw r u0 k).2.2+(wrap64 (256*wrap64 (qq r 3-qq r 1))).tmod (dT r u0).2)%(dT r u0).2:=rfl;clear hW5 hJ4 hx4 hu4 hf4 hb4 aaw hJ3 hx3 hu3 hf3 hw3 amQ wd3 afe;have hR0:=E5 ((jw r u0 k).2.2+(wrap64 (256*wrap64 (qq r 3-qq r 1))).tmod (dT r u0).2);generalize wrap64 ((jw r u0 k).2.2+(wrap64 (256*wrap64 (qq r 3-qq r 1))).tmod (dT r u0).2)=R1 at *;generalize(jw r u0 k).2.1+wrap64 ((wrap64 (256*wrap64 (qq r 3-qq r 1))).tdiv (dT r u0).2)=V1 at *
       gi_loopw [7,8] (fun v t wr=>wr=W5/\∃j q:Int,j*(dT r u0).2=q/\v = .int .i64 (wrap64 (V1+j))/\t = .int .i64 (R1-q)/\(q=0\/0<=R1-q)/\R1-q<=R1) (fun _ t _=>(intOf t).toNat)
       case atStart=>exact⟨rfl,0,0,by rw[Int.zero_mul],by rw[Int.add_zero],by rw[Int.sub_zero],Or.inl rfl,by omega⟩
       case round=>
         obtain⟨rfl,j,q,hq,rfl,rfl,hj,hle⟩:=hrel;rcases Int.lt_or_le (R1-q) (dT r u0).2 with YN|amR
         . have hn2:¬ (dT r u0).2<=R1-q:=by omega
           gi_wp2
           gi_loopw [7,8] (fun v t wr'=>wr'=wr/\∃j q:Int,j*(dT r u0).2=q/\v = .int .i64 (wrap64 (V1+j))/\t = .int .i64 (R1-q)/\R1-q<(dT r u0).2/\-9223372036854775808<=R1-q) (fun _ t _=>(-(intOf t)).toNat)
           case atStart=>exact⟨rfl,j,q,hq,rfl,rfl,YN,by omega⟩
           case round=>
             obtain⟨rfl,j2,q2,xo,rfl,rfl,zH,uS⟩:=hrel;rcases Int.lt_or_le (R1-q2) 0 with amS|mK
             . have e:wrap64 (R1-q2+(dT r u0).2)=R1-q2+(dT r u0).2:=fw (by omega) (by omega)
               gi_wp2
               go_roundw
               case rel=>exact⟨trivial,j2-1,q2-(dT r u0).2,by rw[QJ,xo],int_eq (by rw[MN];congr 1;omega),int_eq (by omega),by omega,by omega⟩
               case measure=>exact MO amS (by omega)
             . have hp3:¬ R1-q2<0:=by omega
               obtain⟨e1,e2⟩:=VS (by omega) xo mK zH
               gi_wp2
               go_roundw
               case rel=>exact⟨k+1,by omega,int_eq (by rw[LL,e1]),int_eq (by rw[hs3,e2]),int_eq (by omega),hJ5,by rw[Fi];exact hx5⟩
               case measure=>exact aau cJ
         . have TJ:0<=R1-q:=by omega
           have e:wrap64 (R1-q-(dT r u0).2)=R1-q-(dT r u0).2:=fw (by omega) (by omega)
           gi_wp2
           go_roundw
           case rel=>exact⟨trivial,j+1,q+(dT r u0).2,by rw[up_mul,hq],int_eq (by rw[wrap_wrap];congr 1;omega),int_eq (by omega),by omega,by omega⟩
           case measure=>exact VU amR (by omega))
   . have anF:¬ (k:Int)<m:=by omega
     gi_wp2
     go_end0
     have:k=m.toNat:=by omega
     subst this;exact⟨⟨_,rfl⟩,hJr⟩
end
section
open Go.Sx Go.RowKit Go.Shelf Go VY
attribute [local go_sem] Oper.semAt_some
def kF(n:Nat):Code->Bool
 |.region k _ _=>Nat.beq k n
 |.seq a _=>kF n a
 |_=>false
def behind(n:Nat):Nat->Code->Code
 |0,c=>c
 | f+1,c=>if kF n c then c else match c with
   |.seq _ b=>behind n f b
   |c=>c
noncomputable def oU:Code:=behind 23 40 (Tryz.f169.body.getD .skip)
structure LoopIn(W w0:World)(br kJ bo g cap:Nat)(r:List Int)(x0 y0 x1 y1:Int)(v:Value)(rows:List (List Int)):Prop where
 IW:Wd w0
 below:Below w0.heap.size w0 W
 Tz:w0.heap.size<=bo
 Bz:Boxed W bo 272 v
 own:W.ownsRow w0.heap.size 276 3 v rows.length (aB [i6,i6,i6] rows)
 E6:Boxed W kJ 319 (.pointer (some ⟨g,0,none⟩))
 uF:jD W g cap r
 dZ:W.heap[br]?=some (.cells #[.int .i64 x0,.int .i64 y0,.int .i64 x1,.int .i64 y1] 54 (0,0))
def aax(K:Act->World->Prop):Exit->Act->World->Prop
 |.normal,a,w=>K a w
 |_,_,_=>False
theorem oV{F:Fence}{n:Nat}{P:Program}{c:Code}{K:Act->World->Prop}{Q:Exit->Act->World->Prop}{a:Act}{w:World}(h:c.wpIn F n P (aax K) a w):c.wpIn F n P (Exit.then K Q) a w:=
 wpIn_mono h fun e a w hq=>by
   cases e with
   |normal=>exact hq
   |_=>exact hq.elim
theorem MP{w w':World}{B:Nat}{e:TypeId}{sz n:Nat}{v:Value}{xs:List Value}(h:w.ownsRow B e sz v n xs)(hb:Below w.heap.size w w'):w'.ownsRow B e sz v n xs:=by
 obtain⟨hl,h|⟨g,cap,cur,e1,hg,hh,rest⟩⟩:=h;exact⟨hl,.inl h⟩;exact⟨hl,.inr ⟨g,cap,cur,e1,hg,(hb.block g (rJ.1 hh).1).trans hh,rest⟩⟩
section
variable {W W' w0:World}{br kJ bo g cap:Nat}{r:List Int}{x0 y0 x1 y1:Int}{v:Value}{rows:List (List Int)}
theorem LoopIn.wd(h:LoopIn W w0 br kJ bo g cap r x0 y0 x1 y1 v rows):Wd W:=Bi _ _ h.IW h.below
theorem LoopIn.on(h:LoopIn W w0 br kJ bo g cap r x0 y0 x1 y1 v rows)(hb:Below W.heap.size W W'):LoopIn W' w0 br kJ bo g cap r x0 y0 x1 y1 v rows:=
 ⟨h.IW,h.below.trans (hb.mono h.below.size),h.Tz,fB h.Bz hb,MP h.own hb,fB h.E6 hb,h.uF.below hb,(hb.block br (rJ.1 h.dZ).1).trans h.dZ⟩
theorem LoopIn.grown(h:LoopIn W w0 br kJ bo g cap r x0 y0 x1 y1 v rows){row:Option Nat}(hg:W.grownBy W' row)(hn:∀k,row=some k->w0.heap.size<=k/\k≠bo/\k≠kJ/\k≠g/\k≠br/\v.ownBlock≠some k):LoopIn W' w0 br kJ bo g cap r x0 y0 x1 y1 v rows:=by
 refine⟨h.IW,h.below.grown hg h.below.size fun k e=>(hn k e).1,h.Tz,h.Bz.kept hg fun e=>(hn bo e.symm).2.1 rfl,h.own.kept hg ?_,h.E6.kept hg fun e=>(hn kJ e.symm).2.2.1 rfl,h.uF.gF hg.size (hg.block g h.uF.1 fun e=>(hn g e.symm).2.2.2.1 rfl),(hg.block br (rJ.1 h.dZ).1 fun e=>(hn br e.symm).2.2.2.2.1 rfl).trans h.dZ⟩;rcases h.own.2 with⟨rfl,_⟩|⟨g',_,_,rfl,_⟩;exact .inl rfl;refine .inr fun e=>?_;exact(hn g' (by rw[<- e];rfl)).2.2.2.2.2 rfl
end
noncomputable def gg(t:Bool)(x0 y0 x1 y1 k0:Int)(i:Nat)(p:Int×Int):List (List Int):=
 if np x0 y0 x1 y1 (px t p.1 p.2) (py t p.1 p.2)then [[wrap64 (k0+i),px t p.1 p.2,py t p.1 p.2]]else []
noncomputable def dM(t:Bool)(x0 y0 x1 y1 k0:Int):List (Int×Int)->List (List Int):=fun ps=>(List.range ps.length).flatMap fun i=>gg t x0 y0 x1 y1 k0 i (ps.getD i (0,0))
theorem uG(t:Bool)(x0 y0 x1 y1 k0:Int)(ps:List (Int×Int))(p:Int×Int):dM t x0 y0 x1 y1 k0 (ps++[p])=dM t x0 y0 x1 y1 k0 ps++gg t x0 y0 x1 y1 k0 ps.length p:=by
 unfold dM;rw[eY,List.length_singleton,List.range_succ,List.flatMap_append];congr 1;simp only[List.flatMap];congr 1;refine rm fun i hi=>?_;have hi:=lx.1 hi;simp only[cq,mJ hi];simp
theorem QM{α β:Type}{f:α->List β}(hf:∀x,(f x).length<=1):∀l:List α,(l.flatMap f).length<=l.length:=by
 intro l;induction l with
 |nil=>simp
 | cons x l ih=>
   have:=hf x;simp only[List.flatMap_cons,eY,yN];omega
theorem G7(t:Bool)(x0 y0 x1 y1 k0:Int)(i:Nat)(p:Int×Int):(gg t x0 y0 x1 y1 k0 i p).length<=1:=by
 unfold gg;generalize np x0 y0 x1 y1 (px t p.1 p.2) (py t p.1 p.2)=b;cases b;exact Nat.zero_le _;exact fu _
theorem wK(t:Bool)(x0 y0 x1 y1 k0:Int)(ps:List (Int×Int)):(dM t x0 y0 x1 y1 k0 ps).length<=ps.length:=by
 have:=QM (f:=fun i=>gg t x0 y0 x1 y1 k0 i (ps.getD i (0,0))) (fun i=>G7 ..) (List.range ps.length);rwa[List.length_range]at this
structure LI(w0:World)(br kJ bo bk n1 g cap:Nat)(r:List Int)(x0 y0 x1 y1 k0 m:Int)(rows:List (List Int))(pre:List (Int×Int))(W:World):Prop where
 lo:∃v,LoopIn W w0 br kJ bo g cap r x0 y0 x1 y1 v (rows++dM (qb r 4) x0 y0 x1 y1 k0 pre)
 hk:Boxed W bk 3 (.int .i64 (wrap64 (k0+pre.length)))
 hw:Boxed W n1 319 (.pointer (some ⟨g,0,none⟩))
 hm:Boxed W (n1+1+1) 3 (.int .i64 m)
 hu:∃u,Boxed W (n1+1) 3 u
section
variable {w0 W W':World}{br kJ bo bk n1 g cap:Nat}{r:List Int}{x0 y0 x1 y1 k0 m:Int}{rows:List (List Int)}{pre:List (Int×Int)}
theorem LI.on(h:LI w0 br kJ bo bk n1 g cap r x0 y0 x1 y1 k0 m rows pre W)(hb:Below W.heap.size W W'):LI w0 br kJ bo bk n1 g cap r x0 y0 x1 y1 k0 m rows pre W':=by
 obtain⟨⟨v,lo⟩,hk,hw,hm,⟨u,hu⟩⟩:=h;exact⟨⟨v,lo.on hb⟩,fB hk hb,fB hw hb,fB hm hb,⟨u,fB hu hb⟩⟩
theorem LI.put(h:LI w0 br kJ bo bk n1 g cap r x0 y0 x1 y1 k0 m rows pre W){l:Nat}{o o':Obj}(hl:W.heap[l]?=some o)(ho:o.isCells=false)(h0:w0.heap.size<=l)(hg:g<l):LI w0 br kJ bo bk n1 g cap r x0 y0 x1 y1 k0 m rows pre (W.putObj l o'):=by
 obtain⟨⟨v,lo⟩,hk,hw,hm,⟨u,hu⟩⟩:=h;have il:=grownBy_putObj' W l o';have ne:∀ {B:Nat} {t:TypeId} {x:Value},Boxed W B t x->B≠l:=fun hb e=>by
   subst e;rw[show W.heap[_]?=_ from hb]at hl;cases hl;cases ho
 have ne':∀ {B:Nat} {t:TypeId} {x:Value},Boxed W B t x->some B≠some l:=fun hb e=>ne hb (by cases e;rfl);refine⟨⟨v,lo.grown il fun k e=>?_⟩,hk.kept il (ne' hk),hw.kept il (ne' hw),hm.kept il (ne' hm),⟨u,hu.kept il (ne' hu)⟩⟩;cases e;refine⟨h0,fun e=>ne lo.Bz e.symm,fun e=>ne lo.E6 e.symm,by omega,fun e=>?_,fun e=>?_⟩;subst e;rw[lo.dZ]at hl;cases hl;cases ho;rcases lo.own.2 with⟨rfl,_⟩|⟨g',_,cur,rfl,_,hh,_⟩;cases e;cases e;rw[hh]at hl;cases hl;cases ho
theorem LI.amT(h:LI w0 br kJ bo bk n1 g cap r x0 y0 x1 y1 k0 m rows pre W)(u':Value)(h0:w0.heap.size<=n1)(hn:n1+1≠bo/\n1+1≠kJ/\n1+1≠g/\n1+1≠br/\n1+1≠bk):LI w0 br kJ bo bk n1 g cap r x0 y0 x1 y1 k0 m rows pre (W.setCell ⟨n1+1,0,none⟩ u'):=by
 obtain⟨⟨v,lo⟩,hk,hw,hm,⟨u,hu⟩⟩:=h;have il:=grownBy_setCell' W (n1+1) u';refine⟨⟨v,lo.grown il fun k e=>?_⟩,hk.other (Ne.symm hn.2.2.2.2) _,hw.other (by omega) _,hm.other (by omega) _,⟨u',hu.set _⟩⟩;cases e;exact⟨by omega,hn.1,hn.2.1,hn.2.2.1,hn.2.2.2.1,fun e=>hu.not_row (by decide) lo.own e.symm⟩
end
theorem lP{W:World}{g:Nat}{cs:Array Value}{t e:TypeId}{z:Nat×Nat}{B sz n:Nat}{v:Value}{xs:List Value}(h:W.heap[g]?=some (.cells cs t z))(hte:t≠e)(hr:W.ownsRow B e sz v n xs):some g≠v.ownBlock:=by
 rcases hr.2 with⟨rfl,_⟩|⟨g',cap,cur,rfl,_,DM,_⟩;simp[Value.ownBlock];intro e';obtain rfl:g=g':=by simpa[Value.ownBlock]using e'
 rw[h]at DM;cases DM;exact hte rfl
theorem ma{W:World}{B B':Nat}{t t':TypeId}{v v':Value}(h:Boxed W B t v)(h':Boxed W B' t' v')(ht:t≠t'):B≠B':=fun e=>by
 subst e;have:=(show W.heap[B]?=_ from h).symm.trans h';simp at this;exact ht this.2
theorem eF{W:World}{B g:Nat}{t t':TypeId}{v:Value}{cs:Array Value}{z:Nat×Nat}(h:Boxed W B t v)(h':W.heap[g]?=some (.cells cs t' z))(ht:t≠t'):B≠g:=fun e=>by
 subst e;have:=(show W.heap[B]?=_ from h).symm.trans h';simp at this;exact ht this.2.1
theorem G8(ks:List CK):∀(a b:List (List Int)),aB ks (a++b)=aB ks a++aB ks b:=by
 intro a;induction a with
 |nil=>intro b;rfl
 |cons x a ih=>intro b;simp[aB,ih]
theorem yK(W:World)(a b c:Value)(t:TypeId)(j:Nat)(u:Value)(h: [a,b,c][j]?=some u):(W.alloc (.cells #[a,b,c] t)).cell? ((⟨W.heap.size,0,none⟩:Addr).add j)=some u:=by
 have hn:=World.alloc_heap_new W (.cells #[a,b,c] t)
 match j,h with
 | 0,h=>
   cases h;rw[show(⟨W.heap.size,0,none⟩:Addr).add 0=⟨W.heap.size,0,none⟩from rfl];unfold World.cell?;dsimp only;rw[hn];rfl
 | 1,h=>
   cases h;rw[show(⟨W.heap.size,0,none⟩:Addr).add 1=⟨W.heap.size,1,none⟩from rfl];unfold World.cell?;dsimp only;rw[hn];rfl
 | 2,h=>
   cases h;rw[show(⟨W.heap.size,0,none⟩:Addr).add 2=⟨W.heap.size,2,none⟩from rfl];unfold World.cell?;dsimp only;rw[hn];rfl
 |j+3,h=>simp at h
section
variable {w0 w2 w3:World}{br kJ bo bk n1 g cap:Nat}{r:List Int}{x0 y0 x1 y1 k0 m:Int}{rows:List (List Int)}{pre:List (Int×Int)}{v2 v3 kv ub:Value}{Dj:List (List Int)}{tmp:Obj}{news:List Value}
theorem zu(iH:LoopIn w2 w0 br kJ bo g cap r x0 y0 x1 y1 v2 Dj)(hk:Boxed w2 bk 3 kv)(qj:(w2.alloc tmp).grownBy w3 v2.ownBlock):Boxed (w3.setCell ⟨bo,0,none⟩ v3) bk 3 kv:=
 ((hk.alloc tmp).kept qj (hk.not_row (by decide) iH.own)).other (ma hk iH.Bz (by decide)) _
theorem LI.hit(p:Int×Int)(iH:LoopIn w2 w0 br kJ bo g cap r x0 y0 x1 y1 v2 (rows++dM (qb r 4) x0 y0 x1 y1 k0 pre))(hk:Boxed w2 bk 3 (.int .i64 (wrap64 (k0+pre.length))))(hw:Boxed w2 n1 319 (.pointer (some ⟨g,0,none⟩)))(hm:Boxed w2 (n1+1+1) 3 (.int .i64 m))(hu:Boxed w2 (n1+1) 3 ub)
   (hB:w0.heap.size<=bk) (hbn:bk<n1) (hp:np x0 y0 x1 y1 (px (qb r 4) p.1 p.2) (py (qb r 4) p.1 p.2)=true)
   (qj:(w2.alloc tmp).grownBy w3 v2.ownBlock) (bM:w3.ownsRow w0.heap.size 276 3 v3 ((rows++dM (qb r 4) x0 y0 x1 y1 k0 pre).length+1) (aB [i6,i6,i6] (rows++dM (qb r 4) x0 y0 x1 y1 k0 pre)++[.int .i64 (wrap64 (k0+pre.length)),.int .i64 (px (qb r 4) p.1 p.2),.int .i64 (py (qb r 4) p.1 p.2)])) (B:Nat) :
   VY.KD B w2 ((w3.setCell ⟨bo,0,none⟩ v3).setCell ⟨bk,0,none⟩ (.int .i64 (wrap64 (wrap64 (k0+pre.length)+1))))/\((w3.setCell ⟨bo,0,none⟩ v3).setCell ⟨bk,0,none⟩ (.int .i64 (wrap64 (wrap64 (k0+pre.length)+1)))).heap[n1+1]?=w2.heap[n1+1]?/\
   LI w0 br kJ bo bk n1 g cap r x0 y0 x1 y1 k0 m rows (pre++[p]) ((w3.setCell ⟨bo,0,none⟩ v3).setCell ⟨bk,0,none⟩ (.int .i64 (wrap64 (wrap64 (k0+pre.length)+1)))):=by
 have uR:=iH.below.size;obtain⟨TB,WR,TF,rC,uS⟩:=iH.Bz.appended (by decide) iH.own uR iH.Tz bM qj;obtain⟨csg,zg,ov⟩:=iH.uF.2.2;have kb:=zu (v3:=v3) iH hk qj;have kw:Boxed (w3.setCell ⟨bo,0,none⟩ v3) n1 319 _:=((hw.alloc tmp).kept qj (hw.not_row (by decide) iH.own)).other (ma hw iH.Bz (by decide)) _;have km:=zu (v3:=v3) iH hm qj;have ku:=zu (v3:=v3) iH hu qj;have kwy:Boxed (w3.setCell ⟨bo,0,none⟩ v3) kJ 319 _:=((iH.E6.alloc tmp).kept qj (iH.E6.not_row (by decide) iH.own)).other (ma iH.E6 iH.Bz (by decide)) _;have Fe:∀k,k<w2.heap.size->some k≠v2.ownBlock->k≠bo->(w3.setCell ⟨bo,0,none⟩ v3).heap[k]?=w2.heap[k]? :=fun k hk h1 h2=>
   (Below.heap_setCell _ _ _ k h2).trans ((qj.block k (by simp;omega) h1).trans (Below.heap_alloc _ _ _ hk))
 have rL:=Fe br (rJ.1 iH.dZ).1 (lP iH.dZ (by decide) iH.own) (Ne.symm (eF iH.Bz iH.dZ (by decide)));have hgg:=Fe g iH.uF.1 (lP ov (by decide) iH.own) (Ne.symm (eF iH.Bz ov (by decide)));have hbl:Below w0.heap.size w0 (w3.setCell ⟨bo,0,none⟩ v3):=iH.below.trans uS;have gT:rows++dM (qb r 4) x0 y0 x1 y1 k0 (pre++[p])=(rows++dM (qb r 4) x0 y0 x1 y1 k0 pre)++[[wrap64 (k0+pre.length),px (qb r 4) p.1 p.2,py (qb r 4) p.1 p.2]]:=by
   rw[uG,<- List.append_assoc];unfold gg;rw[if_pos hp]
 have lo3:LoopIn (w3.setCell ⟨bo,0,none⟩ v3) w0 br kJ bo g cap r x0 y0 x1 y1 v3 (rows++dM (qb r 4) x0 y0 x1 y1 k0 (pre++[p])):=by
   refine⟨iH.IW,hbl,iH.Tz,WR,?_,kwy,iH.uF.gF rC.size hgg,rL.trans iH.dZ⟩;rw[gT,G8,eY];exact TF
 have hg4:=grownBy_setCell' (w3.setCell ⟨bo,0,none⟩ v3) bk (.int .i64 (wrap64 (wrap64 (k0+pre.length)+1)));have lo4:=lo3.grown hg4 fun k e=>by
   cases e;refine⟨hB,ma kb WR (by decide),ma kb kwy (by decide),eF kb (hgg.trans ov) (by decide),eF kb (rL.trans iH.dZ) (by decide),fun e=>kb.not_row (by decide) TF e.symm⟩
 refine⟨fun k o _ ho hc=>(KeepsOthers.setCell _ _ _).same k o (rC.same k o ho hc) hc,?_,⟨v3,lo4⟩,?_,kw.other (by omega) _,km.other (by omega) _,⟨ub,ku.other (by omega) _⟩⟩;rw[Below.heap_setCell _ _ _ _ (by show n1+1≠bk;omega)];exact(show _=_ from ku).trans (show _=_ from hu).symm;have:=kb.set (.int .i64 (wrap64 (wrap64 (k0+pre.length)+1)));rw[eY,List.length_singleton];have e:wrap64 (k0+((pre.length+1:Nat):Int))=wrap64 (wrap64 (k0+pre.length)+1):=by rw[wrap_wrap];congr 1;omega
 rw[e];exact this
theorem LI.amU(p:Int×Int)(h:LI w0 br kJ bo bk n1 g cap r x0 y0 x1 y1 k0 m rows pre w2)(hB:w0.heap.size<=bk)(hbn:bk<n1)(hp:np x0 y0 x1 y1 (px (qb r 4) p.1 p.2) (py (qb r 4) p.1 p.2)=false)(B:Nat) :
   VY.KD B w2 (w2.setCell ⟨bk,0,none⟩ (.int .i64 (wrap64 (wrap64 (k0+pre.length)+1))))/\(w2.setCell ⟨bk,0,none⟩ (.int .i64 (wrap64 (wrap64 (k0+pre.length)+1)))).heap[n1+1]?=w2.heap[n1+1]?/\
   LI w0 br kJ bo bk n1 g cap r x0 y0 x1 y1 k0 m rows (pre++[p]) (w2.setCell ⟨bk,0,none⟩ (.int .i64 (wrap64 (wrap64 (k0+pre.length)+1)))):=by
 obtain⟨⟨v2,iH⟩,hk,hw,hm,⟨ub,hu⟩⟩:=h;obtain⟨csg,zg,ov⟩:=iH.uF.2.2;have hg4:=grownBy_setCell' w2 bk (.int .i64 (wrap64 (wrap64 (k0+pre.length)+1)));have lo4:=iH.grown hg4 fun k e=>by
   cases e;exact⟨hB,ma hk iH.Bz (by decide),ma hk iH.E6 (by decide),eF hk ov (by decide),eF hk iH.dZ (by decide),fun e=>hk.not_row (by decide) iH.own e.symm⟩
 have gT:dM (qb r 4) x0 y0 x1 y1 k0 (pre++[p])=dM (qb r 4) x0 y0 x1 y1 k0 pre:=by
   rw[uG];unfold gg;rw[hp];exact yS _
 refine⟨fun k o _ ho hc=>(KeepsOthers.setCell _ _ _).same k o ho hc,Below.heap_setCell _ _ _ _ (by show n1+1≠bk;omega),⟨v2,by rw[gT];exact lo4⟩,?_,hw.other (by omega) _,hm.other (by omega) _,⟨ub,hu.other (by omega) _⟩⟩;have:=hk.set (.int .i64 (wrap64 (wrap64 (k0+pre.length)+1)));rw[eY,List.length_singleton];have e:wrap64 (k0+((pre.length+1:Nat):Int))=wrap64 (wrap64 (k0+pre.length)+1):=by rw[wrap_wrap];congr 1;omega
 rw[e];exact this
end
end
section
open Go.Sx Go.RowKit Go.Shelf Go VY
attribute [local go_sem] Oper.semAt_some
def Bj:Code->Code×Code
 |.seq _ (.seq (.seq _ b) c)=>(b,c)
 |c=>(c,c)
noncomputable def E7:Code:=(Bj oU).1
noncomputable def IX:Code:=(Bj oU).2
theorem KE:(Tryz.prog.info? 276).map (fun i=>(i.zero,i.size,i.bytes))=some (some (.agg #[.int .i64 0,.int .i64 0,.int .i64 0]),3,24):=by kernel_rfl
noncomputable abbrev zw(w0:World)(rows:List (List Int)):Exit->Act->World->Prop:=bodyPostM Fence.wide 5 Tryz.prog Tryz.f169 fun e W'=>∃v',e = .returned v'/\Below w0.heap.size w0 W'/\W'.ownsRow w0.heap.size 276 3 v' rows.length (aB [i6,i6,i6] rows)
set_option maxHeartbeats 4000000 in
theorem VZ(hr:gp){W W1 w0:World}{br kJ bo bk g cap:Nat}{r:List Int}{x0 y0 x1 y1:Int}{v:Value}{rows:List (List Int)}(h:LoopIn W w0 br kJ bo g cap r x0 y0 x1 y1 v rows)(hZ:kE r)
   {k0 u0 m:Int} (WL:Boxed W bk 3 (.int .i64 k0)) (hwk:wrap64 k0=k0) (aff:w0.heap.size<=bk) (anG:bk≠g/\bo≠g) (Nq: -8388608<=u0/\u0<=8388608) (hm:0<=m/\m<=1000) (hlen:rows.length<=1000) (rK:gh x0) (Ji:gh y0) (Pf:gh x1) (V0:gh y1)
   (xh:Below W.heap.size W W1) {K:Act->World->Prop} (hK:∀a w,IX.wpIn Fence.wide 5 Tryz.prog (zw w0 (rows++dM (qb r 4) x0 y0 x1 y1 k0 (ik r u0 m.toNat))) a w->K a w) {t0 t1 t2 t3 t4 t6 t9 t10 t11 t12 t13 t14 t15 t16 t18 t19 t20 t21 t22 t23 t24 t25 t26 t27 t28 t29 t30 t31 t32 t33 t34 t35 t36 t37 t38 t39 t40 t41 t42 t43 t44 t45 t46 t47 t48 t49 t50 t51 t52 t53 t54 t55 t56 t57 t58 t59 t60 t61 t62 t63 t64 t65 t66 t67 t68 t69 t70 t71 t72 t73 t74 t75 t76 t77 t78 t79 t80 t81 t82 t83 t84 t85 t86 t87 t88 t89 t90 t91 t92 t93 t94 t95 t96 t97 t98 t99 t100 t101 t102 t103 t104 t105 t106 t107 t108 t109 t110 t111 t112 t113 t114 t115 t116 t117 t118 t119 t120 t121 t122 t123 t124 t125 t126 t127 t128 t129 t130 t131 t132 t133 t134 t135 t137 t138 t139 t140 t141 t142 t143 t144 t145 t146 t147 t148 t149 t150 t151 t152 t153 t154 t155 t156 t157 t158 t159:Value} :
   E7.wpIn Fence.wide 5 Tryz.prog (Exit.then K (zw w0 (rows++dM (qb r 4) x0 y0 x1 y1 k0 (ik r u0 m.toNat))))
     {tmps:=#[t0,t1,t2,t3,t4,.pointer (some ⟨br,0,none⟩),t6,.pointer (some ⟨kJ,0,none⟩),.pointer (some ⟨bo,0,none⟩),t9,t10,t11,t12,t13,t14,t15,t16,.pointer (some ⟨bk,0,none⟩),t18,t19,t20,t21,t22,t23,t24,t25,t26,t27,t28,t29,t30,t31,t32,t33,t34,t35,t36,t37,t38,t39,t40,t41,t42,t43,t44,t45,t46,t47,t48,t49,t50,t51,t52,t53,t54,t55,t56,t57,t58,t59,t60,t61,t62,t63,t64,t65,t66,t67,t68,t69,t70,t71,t72,t73,t74,t75,t76,t77,t78,t79,t80,t81,t82,t83,t84,t85,t86,t87,t88,t89,t90,t91,t92,t93,t94,t95,t96,t97,t98,t99,t100,t101,t102,t103,t104,t105,t106,t107,t108,t109,t110,t111,t112,t113,t114,t115,t116,t117,t118,t119,t120,t121,t122,t123,t124,t125,t126,t127,t128,t129,t130,t131,t132,t133,t134,t135,.func (.func 249) #[] #[.pointer (some ⟨W1.heap.size,0,none⟩),.pointer (some ⟨W1.heap.size+1,0,none⟩),.pointer (some ⟨W1.heap.size+1+1,0,none⟩)],t137,t138,t139,t140,t141,t142,t143,t144,t145,t146,t147,t148,t149,t150,t151,t152,t153,t154,t155,t156,t157,t158,t159],defers:=[] } (((W1.alloc (.cells #[.pointer (some ⟨g,0,none⟩)] 319)).alloc (.cells #[.int .i64 u0] 3)).alloc (.cells #[.int .i64 m] 3)):=by
 simp only[IX,Bj,oU,behind,kF,Tryz.f169,Option.getD,Nat.beq,jy,if_false,if_true]at hK;simp only[E7,Bj,oU,behind,kF,Tryz.f169,Option.getD,Nat.beq,jy,if_false,if_true];obtain⟨i0,hi,Na,XI,hz2⟩:=info_parts KE;have uR:(((W1.alloc (.cells #[.pointer (some ⟨g,0,none⟩)] 319)).alloc (.cells #[.int .i64 u0] 3)).alloc (.cells #[.int .i64 m] 3)).heap.size=W1.heap.size+3:=by simp
 have amV:Boxed (((W1.alloc (.cells #[.pointer (some ⟨g,0,none⟩)] 319)).alloc (.cells #[.int .i64 u0] 3)).alloc (.cells #[.int .i64 m] 3)) W1.heap.size 319 (.pointer (some ⟨g,0,none⟩)):=((Boxed.new W1 319 (.pointer (some ⟨g,0,none⟩))).alloc _).alloc _;have afg:Boxed (((W1.alloc (.cells #[.pointer (some ⟨g,0,none⟩)] 319)).alloc (.cells #[.int .i64 u0] 3)).alloc (.cells #[.int .i64 m] 3)) (W1.heap.size+1) 3 (.int .i64 u0):=by
   have:=(Boxed.new (W1.alloc (.cells #[.pointer (some ⟨g,0,none⟩)] 319)) 3 (.int .i64 u0)).alloc (.cells #[.int .i64 m] 3);rwa[World.size_alloc]at this
 have amW:Boxed (((W1.alloc (.cells #[.pointer (some ⟨g,0,none⟩)] 319)).alloc (.cells #[.int .i64 u0] 3)).alloc (.cells #[.int .i64 m] 3)) (W1.heap.size+1+1) 3 (.int .i64 m):=by
   have:=Boxed.new ((W1.alloc (.cells #[.pointer (some ⟨g,0,none⟩)] 319)).alloc (.cells #[.int .i64 u0] 3)) 3 (.int .i64 m);rwa[World.size_alloc,World.size_alloc]at this
 have uS:Below W.heap.size W (((W1.alloc (.cells #[.pointer (some ⟨g,0,none⟩)] 319)).alloc (.cells #[.int .i64 u0] 3)).alloc (.cells #[.int .i64 m] 3)):=((xh.alloc xh.size _).alloc (by have:=xh.size;simp;omega) _).alloc (by have:=xh.size;simp;omega) _;have hle:=xh.size;have hB0:=h.below.size;have l1:=WL.lt;have l2:=h.Bz.lt;have l3:=h.E6.lt;have l4:=h.uF.1;have l5:=(rJ.1 h.dZ).1;have Tv:LI w0 br kJ bo bk W1.heap.size g cap r x0 y0 x1 y1 k0 m rows [] (((W1.alloc (.cells #[.pointer (some ⟨g,0,none⟩)] 319)).alloc (.cells #[.int .i64 u0] 3)).alloc (.cells #[.int .i64 m] 3)):=
   ⟨⟨v,by simpa[dM]using h.on uS⟩,by simpa[hwk]using fB WL uS,amV,amW,⟨_,afg⟩⟩
 gi_wp2
 refine MQ (n:=5) (gf:=249) (lb:=#[.pointer (some ⟨W1.heap.size,0,none⟩),.pointer (some ⟨W1.heap.size+1,0,none⟩),.pointer (some ⟨W1.heap.size+1+1,0,none⟩)]) rfl (enters_of Tryz.func249 (by kernel_rfl) rfl)
   (QN:=fun p:Int×Int=>#[.int .i64 p.1,.int .i64 p.2]) (fun _=>rfl) (xs:=ik r u0 m.toNat)
   (LI w0 br kJ bo bk W1.heap.size g cap r x0 y0 x1 y1 k0 m rows) (afd (W1.heap.size+1)) (fun A B=>B.heap[W1.heap.size+1]?=A.heap[W1.heap.size+1]?)
   (fun pre A l o o' hI h0 hl ho=>hI.put hl ho (by rw[uR]at h0;omega) (by rw[uR]at h0;omega))
   (fun pre A o hI=>hI.on ((Below.refl _ _).alloc (fu _) _))
   (fun pre A B hI hs=>?stable) (fun A B hs=>?stays) (fun h1 h2=>h2.trans h1) (fun A l o h0=>World.putObj_heap_other (by rw[uR]at h0;omega)) Tv
   (fun p=>{tmps:=#[t0,t1,t2,t3,t4,.pointer (some ⟨br,0,none⟩),t6,.pointer (some ⟨kJ,0,none⟩),.pointer (some ⟨bo,0,none⟩),t9,t10,t11,t12,t13,t14,t15,t16,.pointer (some ⟨bk,0,none⟩),.int .i64 p.1,.int .i64 p.2,t20,t21,t22,t23,t24,t25,t26,t27,t28,t29,t30,t31,t32,t33,t34,t35,t36,t37,t38,t39,t40,t41,t42,t43,t44,t45,t46,t47,t48,t49,t50,t51,t52,t53,t54,t55,t56,t57,t58,t59,t60,t61,t62,t63,t64,t65,t66,t67,t68,t69,t70,t71,t72,t73,t74,t75,t76,t77,t78,t79,t80,t81,t82,t83,t84,t85,t86,t87,t88,t89,t90,t91,t92,t93,t94,t95,t96,t97,t98,t99,t100,t101,t102,t103,t104,t105,t106,t107,t108,t109,t110,t111,t112,t113,t114,t115,t116,t117,t118,t119,t120,t121,t122,t123,t124,t125,t126,t127,t128,t129,t130,t131,t132,t133,t134,t135,.func (.func 249) #[] #[.pointer (some ⟨W1.heap.size,0,none⟩),.pointer (some ⟨W1.heap.size+1,0,none⟩),.pointer (some ⟨W1.heap.size+1+1,0,none⟩)],.int .i64 p.1,.int .i64 p.2,t139,t140,t141,t142,t143,t144,t145,t146,t147,t148,t149,t150,t151,t152,t153,t154,t155,t156,t157,t158,t159],defers:=[] }) ?iter ?assign ?body ?done (by omega)
 case stable=>
   rcases hs with hs|⟨u,rfl⟩;exact hI.on hs;exact hI.amT u (by omega) ⟨by omega,by omega,by omega,by omega,by omega⟩
 case stays=>
   intro k o hk ho hc;rcases hs with hs|⟨u,rfl⟩;exact(hs.block k (rJ.1 ho).1).trans ho;exact(KeepsOthers.setCell A _ u).same k o ho hc
 case iter=>
   intro l J A KF h0 hJI hJS hY;have hAu:Boxed A (W1.heap.size+1) 3 (.int .i64 u0):=(KF _ (by rw[uR];omega)).trans afg;exact VV hr hZ Nq hm J A h0 (fun pre B hB=>by
     obtain⟨⟨v',lo⟩,_,hw,hm,hu⟩:=hJI pre B hB;exact⟨⟨lo.wd,hw.cell,hm.cell,lo.uF⟩,hu⟩) hJS hAu hY
 case assign=>
   intro l p A K hK
   gi_wp2
   exact hK
 case body=>
   intro l pre p A hI cJ;have hac:=(yJ hr h.wd h.uF hZ Nq).1;obtain⟨Ms,TJ⟩:=QK Nq ⟨by omega,by omega⟩ cJ;obtain⟨hpx,hpy⟩:=KC (t:=qb r 4) Ms TJ;obtain⟨⟨v',lo⟩,hkb,hwb,hmb,⟨ub,hub⟩⟩:=id hI;have Ct:(rows++dM (qb r 4) x0 y0 x1 y1 k0 pre).length<=2000:=by
     have h1:=wK (qb r 4) x0 y0 x1 y1 k0 pre;have h2:=(dc.1 cJ).1;have h3:(ik r u0 m.toNat).length=m.toNat:=by simp[ik]
     rw[eY];omega
   have Z9:(4000:Nat)<=maxLen:=by decide
   have hwc:=lo.E6.cell;have h4:=lo.uF.bool 4 rfl;have c0:A.cell? ⟨br,0,none⟩=some (.int .i64 x0):=by simp[World.cell?,lo.dZ]
   have c1:A.cell? ⟨br,1,none⟩=some (.int .i64 y0):=by simp[World.cell?,lo.dZ]
   have c2:A.cell? ⟨br,2,none⟩=some (.int .i64 x1):=by simp[World.cell?,lo.dZ]
   have c3:A.cell? ⟨br,3,none⟩=some (.int .i64 y1):=by simp[World.cell?,lo.dZ]
   gi_wp2_with (first
     |(refine⟨trivial,?_⟩;gi_at_call 209;refine(CallsIn.inRound l (callsIn_wide.2 (Bh h4 _ _))).mono ?_;rintro e w1 ⟨rfl,rfl⟩)
     |(refine⟨trivial,?_⟩;gi_at_call 168;refine(CallsIn.inRound l (callsIn_wide.2 (G6 hr lo.wd rK Ji Pf V0 hpx hpy).2)).mono ?_;rintro e w2 ⟨rfl,hbw⟩;have WK:=hI.on hbw;clear hwc h4 c0 c1 c2 c3;obtain⟨⟨v2,iH⟩,V2,amX,amY,⟨ub2,amZ⟩⟩:=id WK;have anH:=iH.Bz.cell;have anI:=V2.cell;have anJ:=V2.frozen)
     |(gi_at_builtin;refine wpListIn_append_own _ rfl _ _ 272 rfl w0.heap.size 276 i0 (.agg #[.int .i64 0,.int .i64 0,.int .i64 0]) 3 24 Tryz.underlying272 hi Na XI hz2 rfl (by decide) _ _ _ rfl (iH.own.alloc _) ⟨w2.heap.size,0,none⟩ 1 1 [.int .i64 (wrap64 (k0+pre.length)),.int .i64 (px (qb r 4) p.1 p.2),.int .i64 (py (qb r 4) p.1 p.2)] rfl rfl (yK _ _ _ _ _) (by simp[Value.oneCell']) (by omega) (by omega) (by have:=iH.below.size;simp;omega) ?_;intro v3 w3 Bk xL _;obtain⟨g',pF,rfl⟩:=ownsRow_succ Bk;obtain⟨TB,WR,TF,rC,am0⟩:=iH.Bz.appended (by decide) iH.own iH.below.size iH.Tz Bk xL;have tC:=TB.cell;have hf1:=TB.frozen;have aay:=zu (v3:=.slice (some ⟨g',0,none⟩) ((rows++dM (qb r 4) x0 y0 x1 y1 k0 pre).length+1) pF) iH V2 xL;rw[eY]at aay;have anK:=aay.cell;have anL:=aay.frozen))
   obtain⟨a1,a2,a3⟩:=LI.hit p iH V2 amX amY amZ aff (by omega) (by assumption) xL Bk (W1.heap.size+3);rw[eY]at a1 a2 a3;exact⟨fun k o hk ho hc=>a1 k o hk ((hbw.block k (rJ.1 ho).1).trans ho) hc,a2.trans (hbw.block _ hub.lt),a3⟩;obtain⟨a1,a2,a3⟩:=LI.amU p WK aff (by omega) (by assumption) (W1.heap.size+3);exact⟨fun k o hk ho hc=>a1 k o hk ((hbw.block k (rJ.1 ho).1).trans ho) hc,a2.trans (hbw.block _ hub.lt),a3⟩
 case done=>
   intro D A hD hI hDf;obtain⟨⟨v',lo⟩,hkb,hwb,hmb,⟨ub,hub⟩⟩:=hI;refine hK _ _ ?_;have hoc:=lo.Bz.cell
   gi_wp2
   refine⟨by simp,.inl ⟨_,_,rfl,run_takeDeferred hDf,?_⟩⟩;exact⟨_,results_tmp rfl _ _ _,v',rfl,lo.below.trans (belowK_b (w:=w0) (fu _) A D _ _ (by rw[uR]at hD;omega) hDf rfl rfl),ownsRow_putObj lo.own _ hDf rfl⟩
end
end Go.Proofs.YtohebioanhliiaaGreatDoor.aF

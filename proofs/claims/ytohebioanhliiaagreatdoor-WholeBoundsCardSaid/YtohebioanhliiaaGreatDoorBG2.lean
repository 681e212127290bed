/- walk.Within: small functions, its iterator. -/
import Derived.Test.YtohebioanhliiaaGreatDoorBB2
import Derived.Test.YtohebioanhliiaaGreatDoorBC1
import Derived.Test.YtohebioanhliiaaGreatDoorBG1
import Derived.Test.YtohebioanhliiaaGreatDoorChecked
import Derived.KernelRfl
import Derived.RangeFuncNested
import Derived.RangeFuncBox
import Derived.RangeFuncBound
import Derived.RangeFuncCalls
import Derived.RangeFuncLeaves
import Derived.Shelf.Abstract
import Derived.Shelf.RegionOpen
import Derived.WalkKit
import Derived.OwnWalkIn
import Derived.TacticsInMore
import Derived.LoopNIn
import Derived.LoopIn
import Derived.Maps.AppendAt
import Derived.Sort.CutIn
set_option maxRecDepth 100000
set_option linter.unusedVariables false
set_option maxRecDepth 20000
set_option linter.unusedSimpArgs false
namespace Go.Proofs.YtohebioanhliiaaGreatDoor.aw
section
open Go.Sx Go
def kh(k:Nat):Cn:=if Nat.beq k 168 then {kc 168 with post:=[.or (.not (.v R0)) (.and (.and (.le (.v 0) (.v 4)) (.lt (.v 4) (.v 2))) (.and (.le (.v 1) (.v 5)) (.lt (.v 5) (.v 3))))] }else kc k
abbrev small:List Nat:=[65,168,210,211,247,250,251,284,268,207]
noncomputable abbrev AT(i k:Nat):Bool:=GJ (lO Tryz.prog jZ) kh an (small.take i) k
theorem y65:AT 0 65=true:=by kernel_rfl
theorem ajx:AT 1 168=true:=by kernel_rfl
theorem ajy:AT 2 210=true:=by kernel_rfl
theorem ajz:AT 3 211=true:=by kernel_rfl
theorem ajA:AT 4 247=true:=by kernel_rfl
theorem ajB:AT 5 250=true:=by kernel_rfl
theorem ajC:AT 6 251=true:=by kernel_rfl
theorem ajD:AT 7 284=true:=by kernel_rfl
theorem ajE:AT 8 268=true:=by kernel_rfl
theorem ajF:AT 9 207=true:=by kernel_rfl
theorem KU(X:bD):nO (TT Tryz.prog) X kh small:=by
 have h0:nO (TT Tryz.prog) X kh (small.take 0):=fun j hj=>by simp at hj
 have h1:=h0.next (k:=65) rfl (aC aB h0 y65)
 have h2:=h1.next (k:=168) rfl (aC aB h1 ajx)
 have h3:=h2.next (k:=210) rfl (aC aB h2 ajy)
 have h4:=h3.next (k:=211) rfl (aC aB h3 ajz)
 have h5:=h4.next (k:=247) rfl (aC aB h4 ajA)
 have h6:=h5.next (k:=250) rfl (aC aB h5 ajB)
 have h7:=h6.next (k:=251) rfl (aC aB h6 ajC)
 have h8:=h7.next (k:=284) rfl (aC aB h7 ajD)
 have h9:=h8.next (k:=268) rfl (aC aB h8 ajE)
 have U1:=h9.next (k:=207) rfl (aC aB h9 ajF)
 exact U1
end
section
open Go.Sx Go.RowKit Go
abbrev X0:bD:=XX fun _=>none
open Classical in
noncomputable def gv(k:Nat)(ds:List DV):List DV:=if h:∃rs,cm (TT Tryz.prog) X0 k ds rs then Classical.choose h else []
theorem rH{k:Nat}{ds rs:List DV}(h:cm (TT Tryz.prog) X0 k ds rs):gv k ds=rs:=by
 have hx:∃rs,cm (TT Tryz.prog) X0 k ds rs:=⟨rs,h⟩;unfold gv;rw[dif_pos hx];exact(Classical.choose_spec hx).det h
theorem kN{k:Nat}(hk:k∈small){ds:List DV}(hp:(kh k).fQ ds):cm (TT Tryz.prog) X0 k ds (gv k ds)/\(kh k).iA ds (gv k ds):=by
 obtain⟨rs,h1,h2⟩:=KU X0 k hk ds hp;rw[rH h1];exact⟨h1,h2⟩
theorem jd(hr:fv){k:Nat}{s:bJ}(hk:k∈small){r:mB}(hl:j6 k jZ=some r)(hf:r.f=k)(hs:qp k=some s)(hc:s.cons=0){w:World}{vs:List Value}{ds:List DV}(hw:Wd w)(ha:yB w s.args vs ds)(hp:(kh k).fQ ds) :
   Calls Tryz.prog k vs.toArray w fun e w'=>∃bL,e = .returned (packed (bQ s.res bL))/\Below w.heap.size w w'/\fitAll (j4 w' w.heap.size) (bt s.res) bL (gv k ds):=by
 have hT:TT Tryz.prog k=some ⟨r.f,gC Tryz.prog r,r.sub⟩:=by
   show lO Tryz.prog jZ k=_;simp only[lO,hl]
 have h0:=ajG hr;have h:=uF h0 (ct:=⟨s,(kh k).fQ,fun ds rs=>rs=gv k ds,fun ds hd=>⟨gv k ds,by
   obtain⟨⟨n,hn⟩,_⟩:=kN hk hd;exact rj h0 hs hn,rfl⟩⟩) hT hs hc (fun ds _ hd=>⟨gv k ds,(kN hk hd).1,rfl⟩)
 have z6:k=r.f:=hf.symm;have:=h.2 w vs ds hw ha hp;rw[show(⟨r.f,gC Tryz.prog r,r.sub⟩:gb).f=k from hf]at this;refine this.mono ?_;rintro e w' ⟨bL,fE,e1,e2,e3,_,e5⟩;have e5:fE=gv k ds:=e5;subst e5;exact⟨bL,e1,e2,e3⟩
abbrev wk:List CK:=[i6,i6,i6,i6,.b,i6,i6,i6,.b,.b,i6,i6]
def iO(w:World)(g cap:Nat)(r:List Int):Prop:=g<w.heap.size/\Reads w (.slice (some ⟨g,0,none⟩) 1 cap) 1 (av wk [r])/\∃cs z,w.heap[g]?=some (.cells cs 323 z)
theorem iO.fC{w w':World}{g cap:Nat}{r:List Int}(h:iO w g cap r)(hs:w.heap.size<=w'.heap.size)(hb:w'.heap[g]?=w.heap[g]?):iO w' g cap r:=
 ⟨B9 h.1 hs,h.2.1.ln fun _ b e=>by simp[Value.ownBlock]at e;subst e;exact hb,by rw[hb];exact h.2.2⟩
theorem iO.below{w w':World}{g cap:Nat}{r:List Int}(h:iO w g cap r)(hb:Below w.heap.size w w'):iO w' g cap r:=h.fC hb.size (hb.block g h.1)
theorem iO.cell{w:World}{g cap:Nat}{r:List Int}(h:iO w g cap r){j:Nat}{u:Value}(hu:(bG wk 0 r)[j]?=some u):w.cell? ⟨g,j,none⟩=some u:=by
 obtain⟨_,⟨base,nX,e,_,_,hc⟩,_⟩:=h;cases e;obtain⟨a,ea,hh⟩:=hc j u (by simpa[av]using hu);cases ea;have e2:(⟨g,0,none⟩:Addr).add j=⟨g,j,none⟩:=by
   by_cases hj:j=0;subst hj;rfl;simp[Addr.add,hj]
 rw[<- e2];exact hh
structure fA(r:List Int):Prop where
 Rs:bZ [(-268500000,268500000),(-268500000,268500000),(-268500000,268500000),(-268500000,268500000),(0,1),(0,1),(-1200000,1200000),(-1200000,1200000),(0,1),(0,1),(-1200000,1200000),(-1200000,1200000)] 0 r
 ne:r.getD 2 0≠r.getD 0 0
theorem NY:kh 207=⟨[Pc,Pc,Pc,Pc],[.not (.and (.eq (.v 0) (.v 2)) (.eq (.v 1) (.v 3)))],[tK],[.not (.eq (.get R0 (.c 0) 2) (.get R0 (.c 0) 0))]⟩:=by kernel_rfl
theorem G1:kh 210=⟨[tK],[],[.i 0 2500000],[]⟩:=by kernel_rfl
theorem NW:kh 211=⟨[tK],[],[.i (-1) 1],[]⟩:=by kernel_rfl
theorem acV:kh 250=⟨[tK,.i (-8388608) 8388608],[.not (.eq (.get 0 (.c 0) 2) (.get 0 (.c 0) 0))],[.i (-4611686018427387904) 4611686018427387904,.i 1 549755813888],[]⟩:=by kernel_rfl
theorem Ty:kh 251=⟨[tK,.i (-8388608) 8388608],[.not (.eq (.get 0 (.c 0) 2) (.get 0 (.c 0) 0))],[.i (-4611686018427387905) 4611686018427387904],[]⟩:=by kernel_rfl
theorem Tz:kh 168=⟨[.i mn mx,.i mn mx,.i mn mx,.i mn mx,.i mn mx,.i mn mx],[],[.b],[.or (.not (.v R0)) (.and (.and (.le (.v 0) (.v 4)) (.lt (.v 4) (.v 2))) (.and (.le (.v 1) (.v 5)) (.lt (.v 5) (.v 3))))]⟩:=by kernel_rfl
theorem k65:(kh 65).args=[.i mn mx,.i mn mx,.i mn mx,.i mn mx]/\(kh 65).pre=[]/\(kh 65).res=[.b]:=⟨by kernel_rfl,by kernel_rfl,by kernel_rfl⟩
theorem acW:j6 207 jZ=some (rowOf 207):=by kernel_rfl
theorem acX:j6 210 jZ=some (rowOf 210):=by kernel_rfl
theorem acY:j6 211 jZ=some (rowOf 211):=by kernel_rfl
theorem acZ:j6 250 jZ=some (rowOf 250):=by kernel_rfl
theorem ac0:j6 251 jZ=some (rowOf 251):=by kernel_rfl
theorem ac1:j6 168 jZ=some (rowOf 168):=by kernel_rfl
theorem ajH:j6 65 jZ=some (rowOf 65):=by kernel_rfl
theorem ajI:qp 207=some IZ:=by kernel_rfl
theorem ajJ:qp 210=some I0:=by kernel_rfl
theorem ajK:qp 211=some I1:=by kernel_rfl
theorem ajL:qp 250=some I2:=by kernel_rfl
theorem ajM:qp 251=some I3:=by kernel_rfl
theorem ajN:qp 168=some I4:=by kernel_rfl
theorem s65:qp 65=some TA:=by kernel_rfl
def ac2:List DV->List Int
 | [.l [r]]=>r
 |_=>[]
def ON:List DV->Int
 | [.i n]=>n
 |_=>0
def ajO:List DV->Int×Int
 | [.i n,.i m]=>(n,m)
 |_=>(0,0)
def OO:List DV->Bool
 | [.b x]=>x
 |_=>false
noncomputable def sM(a0 a1 b0 b1:Int):List Int:=ac2 (gv 207 [.i a0,.i a1,.i b0,.i b1])
noncomputable def iN(r:List Int):Int:=ON (gv 210 [.l [r]])
noncomputable def eo(r:List Int):Int:=ON (gv 211 [.l [r]])
noncomputable def db(r:List Int)(u:Int):Int×Int:=ajO (gv 250 [.l [r],.i u])
noncomputable def iU(r:List Int)(u:Int):Int:=ON (gv 251 [.l [r],.i u])
noncomputable def k5(x0 y0 x1 y1 x y:Int):Bool:=OO (gv 168 [.i x0,.i y0,.i x1,.i y1,.i x,.i y])
noncomputable def kt(x0 y0 x1 y1:Int):Bool:=OO (gv 65 [.i x0,.i y0,.i x1,.i y1])
theorem I5{d:DV}(h:tK.has d):∃r,d = .l [r]/\bZ [(-268500000,268500000),(-268500000,268500000),(-268500000,268500000),(-268500000,268500000),(0,1),(0,1),(-1200000,1200000),(-1200000,1200000),(0,1),(0,1),(-1200000,1200000),(-1200000,1200000)] 0 r:=by
 cases d with
 | l xs=>
   obtain⟨h1,h2,h3⟩:=h;have h2:=h2 1 rfl
   match xs,h1,h2,h3 with
   | [],h1,_,_=>simp at h1
   | [r],_,_,h3=>exact⟨r,rfl,h3 r (aM ..)⟩
   |_::_::_,_,h2,_=>simp at h2;omega
 |i n=>exact h.elim
 |b x=>exact h.elim
theorem jL{r:List Int}(h:fA r):tK.has (.l [r]):=⟨by simp,fun y e=>by cases e;simp,fun r' hr=>by simp at hr;subst hr;exact h.Rs⟩
section
variable (hr:fv){w:World}(hw:Wd w)
theorem OP(hr:fv){w:World}(hw:Wd w){a0 a1 b0 b1:Int}(h0: -268500000<=a0/\a0<=268500000)(h1: -268500000<=a1/\a1<=268500000)(h2: -268500000<=b0/\b0<=268500000)(h3: -268500000<=b1/\b1<=268500000)(ck:¬(a0=b0/\a1=b1)) :
   fA (sM a0 a1 b0 b1)/\Calls Tryz.prog 207 #[.agg #[.int .i64 a0,.int .i64 a1],.agg #[.int .i64 b0,.int .i64 b1]] w fun e w'=>∃g cap,e = .returned (.pointer (some ⟨g,0,none⟩))/\Below w.heap.size w w'/\w.heap.size<=g/\iO w' g cap (sM a0 a1 b0 b1):=by
 have hp:(kh 207).fQ [.i a0,.i a1,.i b0,.i b1]:=by
   rw[NY];refine⟨⟨h0,h1,h2,h3,trivial⟩,fun p hp=>?_⟩;obtain rfl:p=_:=lU.1 hp;have:(decide (a0=b0)&&decide (a1=b1))=false:=by
     rw[Vy,DG,DG];exact Classical.not_and_iff_not_or_not.1 ck
   show(!(decide (a0=b0)&&decide (a1=b1)))=true;rw[this];rfl
 obtain⟨_,hq,wC⟩:=kN (k:=207) (by decide) hp;rw[NY]at hq wC;obtain⟨r,hg,aY⟩:∃r,gv 207 [.i a0,.i a1,.i b0,.i b1]=[.l [r]]/\bZ [(-268500000,268500000),(-268500000,268500000),(-268500000,268500000),(-268500000,268500000),(0,1),(0,1),(-1200000,1200000),(-1200000,1200000),(0,1),(0,1),(-1200000,1200000),(-1200000,1200000)] 0 r:=by
   generalize gv 207 [.i a0,.i a1,.i b0,.i b1]=rs at hq
   match rs,hq with
   | [d],hq=>
     obtain⟨r,rfl,h⟩:=I5 hq.1;exact⟨r,rfl,h⟩
 have Hm:sM a0 a1 b0 b1=r:=by unfold sM;rw[hg];rfl
 have LK:=wC _ (lU.2 rfl);rw[hg]at LK;rw[Hm];refine⟨⟨aY,fun e=>?_⟩,?_⟩;have e':(decide (r.getD 2 0=r.getD 0 0))=true:=mM e;have:(!(decide (r.getD 2 0=r.getD 0 0)))=true:=LK;rw[e']at this;cases this;refine(jd hr (k:=207) (ds:=[.i a0,.i a1,.i b0,.i b1]) (by decide) acW (by kernel_rfl) ajI rfl hw (vs:=[.agg #[.int .i64 a0,.int .i64 a1],.agg #[.int .i64 b0,.int .i64 b1]]) ⟨[.int .i64 a0,.int .i64 a1,.int .i64 b0,.int .i64 b1],rfl,rfl,rfl,rfl,rfl,trivial⟩ hp).mono ?_;rintro e w' ⟨bL,rfl,hb,cY⟩;rw[hg]at cY
 match bL,cY with
 | [v],cY=>
   have bA:w'.ownsRow w.heap.size 323 12 v 1 (av wk [r]):=cY.1.2;rcases id bA with⟨_,⟨_,h⟩|⟨g,cap,cur,rfl,Cg,hh,_⟩⟩
   omega;exact⟨g,cap,rfl,hb,Cg,(qd.1 hh).1,ny bA,_,_,hh⟩
variable {g cap:Nat}{r:List Int}(Fp:iO w g cap r)(dy:fA r)
theorem BQ(hr:fv){w:World}(hw:Wd w){g:Nat}{cap:Nat}{r:List Int}(Fp:iO w g cap r)(dy:fA r):(0<=iN r/\iN r<=2500000)/\Calls Tryz.prog 210 #[.pointer (some ⟨g,0,none⟩)] w fun e w'=>e = .returned (.int .i64 (iN r))/\Below w.heap.size w w':=by
 have hp:(kh 210).fQ [.l [r]]:=by rw[G1];exact⟨⟨jL dy,trivial⟩,fun p hp=>by cases hp⟩
 obtain⟨_,hq,_⟩:=kN (k:=210) (by decide) hp;rw[G1]at hq;obtain⟨n,hg,hn⟩:∃n:Int,gv 210 [.l [r]]=[.i n]/\0<=n/\n<=2500000:=by
   generalize gv 210 [.l [r]]=rs at hq
   match rs,hq with
   | [.i n],hq=>exact⟨n,rfl,hq.1⟩
 have Hm:iN r=n:=by unfold iN;rw[hg];rfl
 rw[Hm];refine⟨hn,(jd hr (k:=210) (ds:=[.l [r]]) (by decide) acX (by kernel_rfl) ajJ rfl hw (vs:=[.pointer (some ⟨g,0,none⟩)]) ⟨[.slice (some ⟨g,0,none⟩) 1 cap],rfl,⟨by decide,Fp.2.1⟩,trivial⟩ hp).mono ?_⟩;rintro e w' ⟨bL,rfl,hb,cY⟩;rw[hg]at cY
 match bL,cY with
 | [v],cY=>
   have:v = .int .i64 n:=cY.1;subst this;exact⟨rfl,hb⟩
theorem sB(hr:fv){w:World}(hw:Wd w){g:Nat}{cap:Nat}{r:List Int}(Fp:iO w g cap r)(dy:fA r):(-1<=eo r/\eo r<=1)/\Calls Tryz.prog 211 #[.pointer (some ⟨g,0,none⟩)] w fun e w'=>e = .returned (.int .i64 (eo r))/\Below w.heap.size w w':=by
 have hp:(kh 211).fQ [.l [r]]:=by rw[NW];exact⟨⟨jL dy,trivial⟩,fun p hp=>by cases hp⟩
 obtain⟨_,hq,_⟩:=kN (k:=211) (by decide) hp;rw[NW]at hq;obtain⟨n,hg,hn⟩:∃n:Int,gv 211 [.l [r]]=[.i n]/\-1<=n/\n<=1:=by
   generalize gv 211 [.l [r]]=rs at hq
   match rs,hq with
   | [.i n],hq=>exact⟨n,rfl,hq.1⟩
 have Hm:eo r=n:=by unfold eo;rw[hg];rfl
 rw[Hm];refine⟨hn,(jd hr (k:=211) (ds:=[.l [r]]) (by decide) acY (by kernel_rfl) ajK rfl hw (vs:=[.pointer (some ⟨g,0,none⟩)]) ⟨[.slice (some ⟨g,0,none⟩) 1 cap],rfl,⟨by decide,Fp.2.1⟩,trivial⟩ hp).mono ?_⟩;rintro e w' ⟨bL,rfl,hb,cY⟩;rw[hg]at cY
 match bL,cY with
 | [v],cY=>
   have:v = .int .i64 n:=cY.1;subst this;exact⟨rfl,hb⟩
theorem Dy(ck:r.getD 2 0≠r.getD 0 0){u:Int}:BE.ae (bB.ay 0 [.l [r],.i u]) (.not (.eq (.get 0 (.c 0) 2) (.get 0 (.c 0) 0)))=true:=by
 show(!(decide (r.getD 2 0=r.getD 0 0)))=true;rw[decide_eq_false ck];rfl
theorem zP(hr:fv){w:World}(hw:Wd w){g:Nat}{cap:Nat}{r:List Int}(Fp:iO w g cap r)(dy:fA r){u:Int}(hu: -8388608<=u/\u<=8388608):(1<=(db r u).2/\(db r u).2<=549755813888)/\Calls Tryz.prog 250 #[.pointer (some ⟨g,0,none⟩),.int .i64 u] w fun e w'=>e = .returned (.tuple #[.int .i64 (db r u).1,.int .i64 (db r u).2])/\Below w.heap.size w w':=by
 have hp:(kh 250).fQ [.l [r],.i u]:=by
   rw[acV];refine⟨⟨jL dy,hu,trivial⟩,fun p hp=>?_⟩;obtain rfl:p=_:=lU.1 hp;exact Dy dy.ne
 obtain⟨_,hq,_⟩:=kN (k:=250) (by decide) hp;rw[acV]at hq;obtain⟨n,d,hg,hn⟩:∃n d:Int,gv 250 [.l [r],.i u]=[.i n,.i d]/\1<=d/\d<=549755813888:=by
   generalize gv 250 [.l [r],.i u]=rs at hq
   match rs,hq with
   | [.i n,.i d],hq=>exact⟨n,d,rfl,hq.2.1⟩
 have Hm:db r u=(n,d):=by unfold db;rw[hg];rfl
 rw[Hm];refine⟨hn,(jd hr (k:=250) (ds:=[.l [r],.i u]) (by decide) acZ (by kernel_rfl) ajL rfl hw (vs:=[.pointer (some ⟨g,0,none⟩),.int .i64 u]) ⟨[.slice (some ⟨g,0,none⟩) 1 cap,.int .i64 u],rfl,⟨by decide,Fp.2.1⟩,rfl,trivial⟩ hp).mono ?_⟩;rintro e w' ⟨bL,rfl,hb,cY⟩;rw[hg]at cY
 match bL,cY with
 | [v,v'],cY=>
   have:v = .int .i64 n:=cY.1;subst this;have:v' = .int .i64 d:=cY.2.1;subst this;exact⟨rfl,hb⟩
theorem xc(hr:fv){w:World}(hw:Wd w){g:Nat}{cap:Nat}{r:List Int}(Fp:iO w g cap r)(dy:fA r){u:Int}(hu: -8388608<=u/\u<=8388608):(-4611686018427387905<=iU r u/\iU r u<=4611686018427387904)/\Calls Tryz.prog 251 #[.pointer (some ⟨g,0,none⟩),.int .i64 u] w fun e w'=>e = .returned (.int .i64 (iU r u))/\Below w.heap.size w w':=by
 have hp:(kh 251).fQ [.l [r],.i u]:=by
   rw[Ty];refine⟨⟨jL dy,hu,trivial⟩,fun p hp=>?_⟩;obtain rfl:p=_:=lU.1 hp;exact Dy dy.ne
 obtain⟨_,hq,_⟩:=kN (k:=251) (by decide) hp;rw[Ty]at hq;obtain⟨n,hg,hn⟩:∃n:Int,gv 251 [.l [r],.i u]=[.i n]/\-4611686018427387905<=n/\n<=4611686018427387904:=by
   generalize gv 251 [.l [r],.i u]=rs at hq
   match rs,hq with
   | [.i n],hq=>exact⟨n,rfl,hq.1⟩
 have Hm:iU r u=n:=by unfold iU;rw[hg];rfl
 rw[Hm];refine⟨hn,?_⟩;refine(jd hr (k:=251) (ds:=[.l [r],.i u]) (by decide) ac0 (by kernel_rfl) ajM rfl hw (vs:=[.pointer (some ⟨g,0,none⟩),.int .i64 u]) ⟨[.slice (some ⟨g,0,none⟩) 1 cap,.int .i64 u],rfl,⟨by decide,Fp.2.1⟩,rfl,trivial⟩ hp).mono ?_;rintro e w' ⟨bL,rfl,hb,cY⟩;rw[hg]at cY
 match bL,cY with
 | [v],cY=>
   have:v = .int .i64 n:=cY.1;subst this;exact⟨rfl,hb⟩
end
def fF(n:Int):Prop:=-9223372036854775808<=n/\n<=9223372036854775807
section
variable (hr:fv){w:World}(hw:Wd w){x0 y0 x1 y1 x y:Int}(h0:fF x0)(h1:fF y0)(h2:fF x1)(h3:fF y1)
theorem zQ(hr:fv){w:World}(hw:Wd w){x0:Int}{y0:Int}{x1:Int}{y1:Int}(h0:fF x0)(h1:fF y0)(h2:fF x1)(h3:fF y1):Calls Tryz.prog 65 #[.agg #[.int .i64 x0,.int .i64 y0,.int .i64 x1,.int .i64 y1]] w fun e w'=>e = .returned (.bool (kt x0 y0 x1 y1))/\Below w.heap.size w w':=by
 have hp:(kh 65).fQ [.i x0,.i y0,.i x1,.i y1]:=by
   refine⟨?_,fun p hp=>?_⟩;rw[k65.1];exact⟨h0,h1,h2,h3,trivial⟩;rw[k65.2.1]at hp;cases hp
 obtain⟨_,hq,_⟩:=kN (k:=65) (by decide) hp;rw[k65.2.2]at hq;obtain⟨n,hg⟩:∃n:Bool,gv 65 [.i x0,.i y0,.i x1,.i y1]=[.b n]:=by
   generalize gv 65 [.i x0,.i y0,.i x1,.i y1]=rs at hq
   match rs,hq with
   | [.b n],hq=>exact⟨n,rfl⟩
 have Hm:kt x0 y0 x1 y1=n:=by unfold kt;rw[hg];rfl
 rw[Hm];refine(jd hr (k:=65) (ds:=[.i x0,.i y0,.i x1,.i y1]) (by decide) ajH (by kernel_rfl) s65 rfl hw (vs:=[.agg #[.int .i64 x0,.int .i64 y0,.int .i64 x1,.int .i64 y1]]) ⟨[.int .i64 x0,.int .i64 y0,.int .i64 x1,.int .i64 y1],rfl,rfl,rfl,rfl,rfl,trivial⟩ hp).mono ?_;rintro e w' ⟨bL,rfl,hb,cY⟩;rw[hg]at cY
 match bL,cY with
 | [v],cY=>
   have:v = .bool n:=cY.1;subst this;exact⟨rfl,hb⟩
theorem Fq(hr:fv){w:World}(hw:Wd w){x0:Int}{y0:Int}{x1:Int}{y1:Int}{x:Int}{y:Int}(h0:fF x0)(h1:fF y0)(h2:fF x1)(h3:fF y1)(h4:fF x)(h5:fF y):(k5 x0 y0 x1 y1 x y=true->(x0<=x/\x<x1)/\y0<=y/\y<y1)/\Calls Tryz.prog 168 #[.agg #[.int .i64 x0,.int .i64 y0,.int .i64 x1,.int .i64 y1],.int .i64 x,.int .i64 y] w fun e w'=>e = .returned (.bool (k5 x0 y0 x1 y1 x y))/\Below w.heap.size w w':=by
 have hp:(kh 168).fQ [.i x0,.i y0,.i x1,.i y1,.i x,.i y]:=by
   rw[Tz];exact⟨⟨h0,h1,h2,h3,h4,h5,trivial⟩,fun p hp=>by cases hp⟩
 obtain⟨_,hq,wC⟩:=kN (k:=168) (by decide) hp;rw[Tz]at hq wC;obtain⟨n,hg⟩:∃n:Bool,gv 168 [.i x0,.i y0,.i x1,.i y1,.i x,.i y]=[.b n]:=by
   generalize gv 168 [.i x0,.i y0,.i x1,.i y1,.i x,.i y]=rs at hq
   match rs,hq with
   | [.b n],hq=>exact⟨n,rfl⟩
 have Hm:k5 x0 y0 x1 y1 x y=n:=by unfold k5;rw[hg];rfl
 have hq3:=wC _ (lU.2 rfl);rw[hg]at hq3;rw[Hm];refine⟨fun e=>?_,(jd hr (k:=168) (ds:=[.i x0,.i y0,.i x1,.i y1,.i x,.i y]) (by decide) ac1 (by kernel_rfl) ajN rfl hw (vs:=[.agg #[.int .i64 x0,.int .i64 y0,.int .i64 x1,.int .i64 y1],.int .i64 x,.int .i64 y]) ⟨[.int .i64 x0,.int .i64 y0,.int .i64 x1,.int .i64 y1,.int .i64 x,.int .i64 y],rfl,rfl,rfl,rfl,rfl,rfl,rfl,trivial⟩ hp).mono ?_⟩;subst e;have:(!true||((decide (x0<=x)&&decide (x<x1))&&(decide (y0<=y)&&decide (y<y1))))=true:=hq3;simpa using this;rintro e w' ⟨bL,rfl,hb,cY⟩;rw[hg]at cY
 match bL,cY with
 | [v],cY=>
   have:v = .bool n:=cY.1;subst this;exact⟨rfl,hb⟩
end
end
end Go.Proofs.YtohebioanhliiaaGreatDoor.aw
namespace Go.Proofs.YtohebioanhliiaaGreatDoor.TG
open Go Go.RowKit
variable {n:Nat}{P:Program}
def I6(B:Nat)(W W':World):Prop:=∀(k:Nat) (o:Obj),B<=k->W.heap[k]?=some o->o.isCells=false->W'.heap[k]?=some o
theorem KZ{α:Type}{g:Operand}{ps:Array Tmp}{assign body:Code}{Q:Exit->Act->World->Prop}{a:Act}{w:World}
   {gf:Nat} {lb:Array Value} (hg:a.eval g = .func (.func gf) #[] lb) (eg:∀args w,(callFunc gf args).run P w = .ok (.enter gf args) w)
   {OU:α->Array Value} (DF:∀x,(OU x).size=ps.size) {xs:List α} (I:List α->World->Prop) (St Kp:World->World->Prop)
   (hIp:∀pre W l o o',I pre W->w.heap.size<=l->W.heap[l]?=some o->o.isCells=false->I pre (W.putObj l o'))
   (hIa:∀pre W o,I pre W->I pre (W.alloc o))
   (hIs:∀pre A B,I pre A->St A B->I pre B) (TE:∀A B,St A B->I6 w.heap.size A B)
   (hKt:∀ {A B C:World},Kp A B->Kp B C->Kp A C) (hKp:∀(W:World) (l:Nat) (o:Obj),w.heap.size<=l->Kp W (W.putObj l o))
   (h0:I [] w) (ade:α->Act)
   (adf:∀(l:Nat) (J:List α->World->Prop) (W:World),(∀k,k<w.heap.size->W.heap[k]?=w.heap[k]?)->J [] W->(∀pre A,J pre A->I pre A)->(∀pre A B,J pre A->St A B->J pre B)->
     (∀pre x W1,J pre W1->xs[pre.length]?=some x->YieldAt Fence.wide (n-1-1) P l (OU x) W1 fun e W'=>e = .returned (.bool true)/\J (pre++[x]) W'/\Kp W1 W')->
     CallsIn Fence.wide (n-1) P gf (#[.func (.yield l) #[] #[]]++lb) W fun e W'=>(∃v,e = .returned v)/\J xs W')
   (TP:∀(l:Nat) (x:α) (W:World) (K:Act->World->Prop),K (ade x) W->
     assign.wpIn (Fence.wide.inRound l) (n-1-1) P (Exit.then K (fun _ _ _=>False)) {tmps:=(ps.zip (OU x)).foldl (fun t (p,v)=>t.setIfInBounds p v) a.tmps,defers:=[] } W)
   (Bo:∀(l:Nat) (pre:List α) (x:α) (W:World),I pre W->xs[pre.length]?=some x->body.wpIn (Fence.wide.inRound l) (n-1-1) P (fun e _ W'=>e = .normal/\I6 w.heap.size W W'/\Kp W W'/\I (pre++[x]) W') (ade x) W)
   (adg:∀(D:Nat) (W:World),w.heap.size<=D->I xs W->W.heap[D]?=some (.deferred (some []))->Q .normal {a with defers:={target:=.collected D,args:=#[] }::a.defers} W)
   (hn:1<=n) :
   (Code.rangeFunc g ps assign body).wpIn Fence.wide n P Q a w:=by
 refine wpIn_rangeFunc ?_;intro fn kQ;let tQ:LoopState->Loop:=fun st=>{state:=st,pending:=none,fn,tmps:=a.tmps,params:=ps,assign,body,defers:=w.heap.size}
 have hL1:((w.alloc (.deferred (some []))).alloc (.loop (tQ .ready))).heap[w.heap.size+1]?=some (.loop (tQ .ready)):=by
   have:=World.alloc_heap_new (w.alloc (.deferred (some []))) (.loop (tQ .ready));rwa[World.size_alloc]at this
 have hK1:((w.alloc (.deferred (some []))).alloc (.loop (tQ .ready))).heap[w.heap.size]?=some (.deferred (some [])):=
   (Below.heap_alloc _ _ _ (by simp)).trans (World.alloc_heap_new w _)
 have hI1:I [] ((w.alloc (.deferred (some []))).alloc (.loop (tQ .ready))):=hIa _ _ _ (hIa _ _ _ h0);refine⟨w.heap.size+1,[{target:=.collected w.heap.size,args:=#[] }],(w.alloc (.deferred (some []))).alloc (.loop (tQ .ready)),{target:=.fn (.func gf) lb,args:=#[.func (.yield (w.heap.size+1)) #[] #[]] },(w.alloc (.deferred (some []))).alloc (.loop (tQ .ready)),gf,
   #[.func (.yield (w.heap.size+1)) #[] #[]]++lb,(w.alloc (.deferred (some []))).alloc (.loop (tQ .ready)),?_,?_,fun _ _=>trivial,?_,fun _=>hn,?_⟩
 exact run_enterLoop_outer _ _ _ _ _
 . simp only[resolve,hg];simp[go_sem]
 . simp[invoke,go_sem,eg]
 have I8:∀k,k<w.heap.size->((w.alloc (.deferred (some []))).alloc (.loop (tQ .ready))).heap[k]?=w.heap[k]? :=fun k hk=>(Below.heap_alloc _ _ k (by simp;omega)).trans (Below.heap_alloc _ _ k hk);generalize(w.alloc (.deferred (some []))).alloc (.loop (tQ .ready))=W1 at hL1 hK1 hI1 I8;refine(adf (w.heap.size+1) (fun pre W=>I pre W/\W.heap[w.heap.size+1]?=some (.loop (tQ .ready))/\W.heap[w.heap.size]?=some (.deferred (some []))) W1 I8 ⟨hI1,hL1,hK1⟩ (fun _ _ h=>h.1) (fun pre A B h s=>⟨hIs _ _ _ h.1 s,TE _ _ s _ _ (by omega) h.2.1 rfl,TE _ _ s _ _ (Nat.le_refl _) h.2.2 rfl⟩) ?_).mono ?_;rintro pre x W ⟨hi,hl,hk⟩ hlen;have hy:=run_yield (P:=P) (args:=OU x) hl (DF x);refine⟨fn,_,assign,body,hy,roundIn_of_wpIn kQ (TP _ x W _ ⟨_,run_beginRound hl rfl,?_⟩)⟩;have cF:w.heap.size+1<W.heap.size:=(Array.getElem?_eq_some_iff.1 hl).1;have FF:(W.putObj (w.heap.size+1) (.loop (tQ .busy))).heap[w.heap.size+1]?=some (.loop (tQ .busy)):=World.putObj_heap_same cF;have sK:(W.putObj (w.heap.size+1) (.loop (tQ .busy))).heap[w.heap.size]?=some (.deferred (some [])):=(World.putObj_heap_other (by omega)).trans hk;refine wpIn_mono (Bo _ pre x _ (hIp _ _ _ _ _ hi (by omega) hl rfl) hlen) ?_;rintro e a3 W3 ⟨rfl,hs,hkp,TI⟩;have hl3:=hs _ _ (by omega) FF rfl;have hk3:=hs _ _ (Nat.le_refl _) sK rfl;have hr:=run_endRound (P:=P) none hl3;exact⟨_,_,hr,rfl,⟨hIp _ _ _ _ _ TI (by omega) hl3 rfl,World.putObj_heap_same (Array.getElem?_eq_some_iff.1 hl3).1,(World.putObj_heap_other (by omega)).trans hk3⟩,hKt (hKt (hKp _ _ _ (by omega)) hkp) (hKp _ _ _ (by omega))⟩;rintro e W2 ⟨⟨v,rfl⟩,hi,hl,hk⟩;exact⟨none,_,run_endLoop (P:=P) hl (by simp[tQ]),adg _ _ (Nat.le_refl _) (hIp _ _ _ _ _ hi (by omega) hl rfl) ((World.putObj_heap_other (by omega)).trans hk)⟩
end Go.Proofs.YtohebioanhliiaaGreatDoor.TG
namespace Go.Proofs.YtohebioanhliiaaGreatDoor.aw
section
open Go.Sx Go.RowKit Go.Shelf Go
attribute [local go_sem] Oper.semAt_some
def px(t:Bool)(u v:Int):Int:=if t then v else u
def py(t:Bool)(u v:Int):Int:=if t then u else v
theorem zR{w:World}{g:Nat}{t:Bool}(h4:w.cell? ⟨g,4,none⟩=some (.bool t))(u v:Int):Calls Tryz.prog 209 #[.pointer (some ⟨g,0,none⟩),.int .i64 u,.int .i64 v] w fun e w'=>e = .returned (.tuple #[.int .i64 (px t u v),.int .i64 (py t u v)])/\w'=w:=by
 unfold px py;go_enter Tryz.func209,Tryz.ntmps209
 go_wp2
 all_goals first|(go_ret2;exact⟨rfl,rfl⟩)|skip
 all_goals simp_all
theorem KV{w:World}(g:Nat)(u m:Int):Calls Tryz.prog 212 #[.pointer (some ⟨g,0,none⟩),.int .i64 u,.int .i64 m] w fun e w'=>e = .returned (.func (.func 249) #[] #[.pointer (some ⟨w.heap.size,0,none⟩),.pointer (some ⟨w.heap.size+1,0,none⟩),.pointer (some ⟨w.heap.size+1+1,0,none⟩)])/\w'=((w.alloc (.cells #[.pointer (some ⟨g,0,none⟩)] 319)).alloc (.cells #[.int .i64 u] 3)).alloc (.cells #[.int .i64 m] 3):=by
 go_enter Tryz.func212,Tryz.ntmps212
 go_wp2
 all_goals first|(go_ret;exact⟨rfl,rfl⟩)|skip
def qq(r:List Int)(i:Nat):Int:=r.getD i 0
def qb(r:List Int)(i:Nat):Bool:=decide (r.getD i 0≠0)
theorem iO.int{w:World}{g cap:Nat}{r:List Int}(h:iO w g cap r)(j:Nat)(hj:wk[j]?=some i6):w.cell? ⟨g,j,none⟩=some (.int .i64 (qq r j)):=by
 refine h.cell ?_;rw[hO wk 0 r j,hj,fP];rfl
theorem iO.bool{w:World}{g cap:Nat}{r:List Int}(h:iO w g cap r)(j:Nat)(hj:wk[j]?=some .b):w.cell? ⟨g,j,none⟩=some (.bool (qb r j)):=by
 refine h.cell ?_;rw[hO wk 0 r j,hj,fP];rfl
def up1(d whole add:Int)(x:Int×Int):Int×Int:=
 (wrap64 (x.1+whole+wrap64 (x.2+add)/d),wrap64 (x.2+add)%d)
noncomputable def iG(r:List Int)(u0:Int):Nat->Int×Int×Int
 |0=>(u0,iU r u0,wrap64 ((db r u0).1-wrap64 (iU r u0*(db r u0).2)))
 | i+1=>
   let d:=(db r u0).2
   let a:=wrap64 (256*wrap64 (qq r 3-qq r 1))
   (wrap64 ((iG r u0 i).1+eo r),up1 d (wrap64 (a.tdiv d)) (a.tmod d) (iG r u0 i).2)
noncomputable def fz(r:List Int)(u0:Int)(m:Nat):List (Int×Int):=(List.range m).map fun i=>((iG r u0 i).1,(iG r u0 i).2.1)
def ac3(bu:Nat)(A B:World):Prop:=Below A.heap.size A B\/∃v,B=A.setCell ⟨bu,0,none⟩ v
structure ajP(A:World)(bw bm g cap:Nat)(r:List Int)(m:Int):Prop where
 wd:Wd A
 hw:A.cell? ⟨bw,0,none⟩=some (.pointer (some ⟨g,0,none⟩))
 hm:A.cell? ⟨bm,0,none⟩=some (.int .i64 m)
 s7:iO A g cap r
theorem Hn(r:List Int)(u0:Int)(k:Nat):fz r u0 (k+1)=fz r u0 k++[((iG r u0 k).1,(iG r u0 k).2.1)]:=by
 unfold fz;rw[List.range_succ,od];rfl
theorem TB{R D j q:Int}(hD:1<=D)(hq:j*D=q)(h0:0<=R-q)(h1:R-q<D):R/D=j/\R%D=R-q:=by
 have h2:R=(R-q)+D*j:=by rw[<- hq,mc j D];omega
 have h3:(R-q)/D=0:=Int.ediv_eq_zero_of_lt h0 h1;have h4:(R-q)%D=R-q:=Int.emod_eq_of_lt h0 h1;constructor;rw[h2,Int.add_mul_ediv_left _ _ (by omega),h3];omega;rw[h2,Int.add_mul_emod_self_left,<- h2,h4]
theorem up_mul(j D:Int):(j+1)*D=j*D+D:=by rw[Int.add_mul,Int.one_mul]
theorem OQ(j D:Int):(j-1)*D=j*D-D:=by rw[Int.sub_mul,Int.one_mul]
theorem wrap_wrap(a b:Int):wrap64 (wrap64 a+b)=wrap64 (a+b):=by unfold wrap64;omega
theorem KW(a:Int):wrap64 (wrap64 a-1)=wrap64 (a-1):=by unfold wrap64;omega
theorem cA{a:Int}(h0: -9223372036854775808<=a)(h1:a<=9223372036854775807):wrap64 a=a:=by unfold wrap64;omega
theorem Dz(a:Int): -9223372036854775808<=wrap64 a/\wrap64 a<=9223372036854775807:=by unfold wrap64;omega
theorem int_eq{a b:Int}(h:a=b):Value.int .i64 a=Value.int .i64 b:=congrArg _ h
theorem KX{a D:Int}(h:a<0)(hD:1<=D):(-intOf (Value.int .i64 (a+D))).toNat<(-intOf (Value.int .i64 a)).toNat:=by
 show(-(a+D)).toNat<(-a).toNat;omega
theorem TC{a D:Int}(h:D<=a)(hD:1<=D):(intOf (Value.int .i64 (a-D))).toNat<(intOf (Value.int .i64 a)).toNat:=by
 show(a-D).toNat<a.toNat;omega
theorem Yp{m k:Nat}(h:k<m):m-(intOf (Value.int .i64 ((k:Int)+1))).toNat<m-(intOf (Value.int .i64 (k:Int))).toNat:=by
 show m-((k:Int)+1).toNat<m-(k:Int).toNat;omega
theorem OR{r:List Int}{u0:Int}(Lu: -8388608<=u0/\u0<=8388608)(ha:fF (iU r u0)){n k:Nat}{p:Int×Int}(h:(fz r u0 n)[k]?=some p):fF p.1/\fF p.2:=by
 have:p=((iG r u0 k).1,(iG r u0 k).2.1):=by
   unfold fz at h;rw[gJ]at h;obtain⟨j,hj,rfl⟩:=bl.1 h;have:=cC.1 hj;obtain⟨cF,e⟩:=this;rw[List.getElem_range]at e;rw[e]
 subst this;cases k with
 |zero=>exact⟨⟨by show -9223372036854775808<=u0;omega,by show u0<=9223372036854775807;omega⟩,ha⟩
 |succ k=>exact⟨Dz _,Dz _⟩
theorem EX{t:Bool}{u v:Int}(hu:fF u)(hv:fF v):fF (px t u v)/\fF (py t u v):=by
 cases t;exact⟨hu,hv⟩;exact⟨hv,hu⟩
theorem eM{w w':World}{B:Nat}{t:TypeId}{v:Value}(h:Boxed w B t v)(hb:Below w.heap.size w w'):Boxed w' B t v:=(hb.block B h.lt).trans h
theorem TD(hr:fv){n l bw bu bm g cap:Nat}{r:List Int}{u0 m:Int}(dy:fA r)(Lu: -8388608<=u0/\u0<=8388608)(hm:0<=m/\m<=1000)(J:List (Int×Int)->World->Prop)(W:World)(h0:J [] W)
   (hJ:∀pre A,J pre A->ajP A bw bm g cap r m/\∃v,Boxed A bu 3 v) (TE:∀pre A B,J pre A->ac3 bu A B->J pre B) (jn:Boxed W bu 3 (.int .i64 u0))
   (hY:∀pre x W1,J pre W1->(fz r u0 m.toNat)[pre.length]?=some x->YieldAt Fence.wide (n-1) Tryz.prog l #[.int .i64 x.1,.int .i64 x.2] W1 fun e W'=>e = .returned (.bool true)/\J (pre++[x]) W'/\W'.heap[bu]?=W1.heap[bu]?) :
   CallsIn Fence.wide n Tryz.prog 249 #[.func (.yield l) #[] #[],.pointer (some ⟨bw,0,none⟩),.pointer (some ⟨bu,0,none⟩),.pointer (some ⟨bm,0,none⟩)] W fun e W'=>(∃v,e = .returned v)/\J (fz r u0 m.toNat) W':=by
 refine callsIn_of_wp Tryz.func249 rfl trivial ?_;simp only[Tryz.ntmps249,List.size_toArray,tY,List.length_nil,Nat.reduceAdd,Nat.reduceSub,Array.replicate_succ,Array.replicate_zero,List.push_toArray,List.append_toArray,kG,nU];obtain⟨⟨Ho,hw0,rU,Yq⟩,_⟩:=hJ _ _ h0;have hu1:=jn.cell;have hd:=(zP hr Ho Yq dy Lu).1;have Ab:(db r u0).2≠0:=by omega
 gi_wp2_with (first
   |(refine⟨trivial,fun hh=>(by cases hh),?_⟩;gi_at_call 250;refine(callsIn_wide.2 (zP hr Ho Yq dy Lu).2).mono ?_;rintro e w1 ⟨rfl,vp⟩;have hJ1:=TE _ _ _ h0 (Or.inl vp);have Vi:=eM jn vp;clear hw0 rU hu1;obtain⟨⟨wd1,ZN,tT,TF⟩,_⟩:=hJ _ _ hJ1;have hu1:=Vi.cell)
   |(refine⟨trivial,fun hh=>(by cases hh),?_⟩;gi_at_call 251;refine(callsIn_wide.2 (xc hr wd1 TF dy Lu).2).mono ?_;rintro e w2 ⟨rfl,ti⟩;have hJ2:=TE _ _ _ hJ1 (Or.inl ti);have Vj:=eM Vi ti;clear ZN tT hu1;obtain⟨⟨wd2,Z7,Fv,OS⟩,_⟩:=hJ _ _ hJ2;have hu2:=Vj.cell;have Q7:=OS.int 3 rfl;have rV:=OS.int 1 rfl))
 have Q8:Tryz.prog.follows .mixedOrders=true:=by kernel_rfl
 gi_region
 all_goals gi_wp2
 gi_loopw [7,8,42] (fun v t i wr=>∃k:Nat,k<=m.toNat/\v = .int .i64 (iG r u0 k).2.1/\t = .int .i64 (iG r u0 k).2.2/\i = .int .i64 (k:Int)/\J (fz r u0 k) wr/\Boxed wr bu 3 (.int .i64 (iG r u0 k).1)) (fun _ _ i _=>m.toNat-(intOf i).toNat)
 case atStart=>exact⟨0,Nat.zero_le _,rfl,rfl,rfl,TE _ _ _ hJ2 (Or.inl ((Below.refl _ _).drew)),Vj⟩
 case round=>
   obtain⟨k,hk,rfl,rfl,rfl,hJr,hxr⟩:=hrel;clear hJ1 hJ2 Vi Vj vp ti Z7 Fv TF OS wd1 wd2 rV Q7 hu2 jn h0 Ho Yq;obtain⟨⟨wdr,Hm,hmr,ajQ⟩,_⟩:=hJ _ _ hJr;have hur:=hxr.cell;rcases pf k m.toNat with cF|z8
   . have JJ:(k:Int)<m:=by omega
     obtain⟨fn,tmps,assign,body,hy,hR⟩:=hY (fz r u0 k) ((iG r u0 k).1,(iG r u0 k).2.1) wr hJr (by simp[fz,cF]);dsimp only at hy
     gi_wp2
     refine⟨fun hh=>(by cases hh),?_⟩;refine hR.mono ?_;clear hR hy hur Hm hmr ajQ wdr;rintro e W3 ⟨rfl,hJ3,hbu⟩;have hx3:Boxed W3 bu 3 (.int .i64 (iG r u0 k).1):=hbu.trans hxr;clear hbu hxr hJr;have Yr:=TE _ _ _ hJ3 (Or.inl ((Below.refl _ _).drew));obtain⟨⟨wd3,hw3,_,ac4⟩,_⟩:=hJ _ _ Yr;have hu3:=hx3.cell;have hf3:=hx3.frozen;have ajR:W3.cell? ⟨bw,0,none⟩=some (.pointer (some ⟨g,0,none⟩)):=hw3
     gi_wp2
     gi_region_with_o (refine⟨trivial,fun hh=>(by cases hh),?_⟩;gi_at_call 211;refine(callsIn_wide.2 (sB hr wd3 ac4 dy).2).mono ?_;rintro e w4 ⟨rfl,Lr⟩;have hJ4:=TE _ _ _ Yr (Or.inl Lr);have hx4:=eM (w:=W3.drew) hx3 Lr;have hu4:=hx4.cell;have hf4:=hx4.frozen)
     all_goals gi_wp2
     all_goals (
       generalize hW5:w4.setCell ⟨bu,0,none⟩ (.int .i64 (wrap64 ((iG r u0 k).1+eo r)))=W5;have hJ5:J (fz r u0 (k+1)) W5:=by rw[Hn,<- hW5];exact TE _ _ _ hJ4 (Or.inr ⟨_,rfl⟩)
       have hx5:Boxed W5 bu 3 (.int .i64 (wrap64 ((iG r u0 k).1+eo r))):=by rw[<- hW5];exact hx4.set _
       have AY:(iG r u0 (k+1)).1=wrap64 ((iG r u0 k).1+eo r):=rfl;have J0:(iG r u0 (k+1)).2.1=wrap64 ((iG r u0 k).2.1+wrap64 ((wrap64 (256*wrap64 (qq r 3-qq r 1))).tdiv (db r u0).2)+wrap64 ((iG r u0 k).2.2+(wrap64 (256*wrap64 (qq r 3-qq r 1))).tmod (db r u0).2)/(db r u0).2):=rfl;have hs3:(iG r u0 (k+1)).2.2=wrap64 ((iG r u0 k).2.2+(wrap64 (256*wrap64 (qq r 3-qq r 1))).tmod (db r u0).2)%(db r u0).2:=rfl;clear hW5 hJ4 hx4 hu4 hf4 Lr Yr hJ3 hx3 hu3 hf3 hw3 ajR wd3 ac4;have hR0:=Dz ((iG r u0 k).2.2+(wrap64 (256*wrap64 (qq r 3-qq r 1))).tmod (db r u0).2);generalize wrap64 ((iG r u0 k).2.2+(wrap64 (256*wrap64 (qq r 3-qq r 1))).tmod (db r u0).2)=R1 at *;generalize(iG r u0 k).2.1+wrap64 ((wrap64 (256*wrap64 (qq r 3-qq r 1))).tdiv (db r u0).2)=V1 at *
       gi_loopw [7,8] (fun v t wr=>wr=W5/\∃j q:Int,j*(db r u0).2=q/\v = .int .i64 (wrap64 (V1+j))/\t = .int .i64 (R1-q)/\(q=0\/0<=R1-q)/\R1-q<=R1) (fun _ t _=>(intOf t).toNat)
       case atStart=>exact⟨rfl,0,0,by rw[Int.zero_mul],by rw[Int.add_zero],by rw[Int.sub_zero],Or.inl rfl,by omega⟩
       case round=>
         obtain⟨rfl,j,q,hq,rfl,rfl,hj,hle⟩:=hrel;rcases Int.lt_or_le (R1-q) (db r u0).2 with AN|ajS
         . have hn2:¬ (db r u0).2<=R1-q:=by omega
           gi_wp2
           gi_loopw [7,8] (fun v t wr'=>wr'=wr/\∃j q:Int,j*(db r u0).2=q/\v = .int .i64 (wrap64 (V1+j))/\t = .int .i64 (R1-q)/\R1-q<(db r u0).2/\-9223372036854775808<=R1-q) (fun _ t _=>(-(intOf t)).toNat)
           case atStart=>exact⟨rfl,j,q,hq,rfl,rfl,AN,by omega⟩
           case round=>
             obtain⟨rfl,j2,q2,wC,rfl,rfl,FF,ti⟩:=hrel;rcases Int.lt_or_le (R1-q2) 0 with ajT|ll
             . have e:wrap64 (R1-q2+(db r u0).2)=R1-q2+(db r u0).2:=cA (by omega) (by omega)
               gi_wp2
               go_roundw
               case rel=>exact⟨trivial,j2-1,q2-(db r u0).2,by rw[OQ,wC],int_eq (by rw[KW];congr 1;omega),int_eq (by omega),by omega,by omega⟩
               case measure=>exact KX ajT (by omega)
             . have hp3:¬ R1-q2<0:=by omega
               obtain⟨e1,e2⟩:=TB (by omega) wC ll FF
               gi_wp2
               go_roundw
               case rel=>exact⟨k+1,by omega,int_eq (by rw[J0,e1]),int_eq (by rw[hs3,e2]),int_eq (by omega),hJ5,by rw[AY];exact hx5⟩
               case measure=>exact Yp cF
         . have hp2:0<=R1-q:=by omega
           have e:wrap64 (R1-q-(db r u0).2)=R1-q-(db r u0).2:=cA (by omega) (by omega)
           gi_wp2
           go_roundw
           case rel=>exact⟨trivial,j+1,q+(db r u0).2,by rw[up_mul,hq],int_eq (by rw[wrap_wrap];congr 1;omega),int_eq (by omega),by omega,by omega⟩
           case measure=>exact TC ajS (by omega))
   . have akm:¬ (k:Int)<m:=by omega
     gi_wp2
     go_end0
     have:k=m.toNat:=by omega
     subst this;exact⟨⟨_,rfl⟩,hJr⟩
end
section
open Go.Sx Go.RowKit Go.Shelf Go TG
attribute [local go_sem] Oper.semAt_some
def jO(n:Nat):Code->Bool
 |.region k _ _=>Nat.beq k n
 |.seq a _=>jO n a
 |_=>false
def behind(n:Nat):Nat->Code->Code
 |0,c=>c
 | f+1,c=>if jO n c then c else match c with
   |.seq _ b=>behind n f b
   |c=>c
noncomputable def nq:Code:=behind 23 40 (Tryz.f169.body.getD .skip)
structure LoopIn(W w0:World)(br jQ bo g cap:Nat)(r:List Int)(x0 y0 x1 y1:Int)(v:Value)(rows:List (List Int)):Prop where
 Ho:Wd w0
 below:Below w0.heap.size w0 W
 Rk:w0.heap.size<=bo
 Ad:Boxed W bo 272 v
 own:W.ownsRow w0.heap.size 276 3 v rows.length (av [i6,i6,i6] rows)
 DA:Boxed W jQ 319 (.pointer (some ⟨g,0,none⟩))
 s7:iO W g cap r
 dg:W.heap[br]?=some (.cells #[.int .i64 x0,.int .i64 y0,.int .i64 x1,.int .i64 y1] 54 (0,0))
def Ys(K:Act->World->Prop):Exit->Act->World->Prop
 |.normal,a,w=>K a w
 |_,_,_=>False
theorem nu{F:Fence}{n:Nat}{P:Program}{c:Code}{K:Act->World->Prop}{Q:Exit->Act->World->Prop}{a:Act}{w:World}(h:c.wpIn F n P (Ys K) a w):c.wpIn F n P (Exit.then K Q) a w:=
 wpIn_mono h fun e a w hq=>by
   cases e with
   |normal=>exact hq
   |_=>exact hq.elim
theorem KY{w w':World}{B:Nat}{e:TypeId}{sz n:Nat}{v:Value}{xs:List Value}(h:w.ownsRow B e sz v n xs)(hb:Below w.heap.size w w'):w'.ownsRow B e sz v n xs:=by
 obtain⟨hl,h|⟨g,cap,cur,e1,hg,hh,rest⟩⟩:=h;exact⟨hl,.inl h⟩;exact⟨hl,.inr ⟨g,cap,cur,e1,hg,(hb.block g (qd.1 hh).1).trans hh,rest⟩⟩
section
variable {W W' w0:World}{br jQ bo g cap:Nat}{r:List Int}{x0 y0 x1 y1:Int}{v:Value}{rows:List (List Int)}
theorem LoopIn.wd(h:LoopIn W w0 br jQ bo g cap r x0 y0 x1 y1 v rows):Wd W:=zS _ _ h.Ho h.below
theorem LoopIn.on(h:LoopIn W w0 br jQ bo g cap r x0 y0 x1 y1 v rows)(hb:Below W.heap.size W W'):LoopIn W' w0 br jQ bo g cap r x0 y0 x1 y1 v rows:=
 ⟨h.Ho,h.below.trans (hb.mono h.below.size),h.Rk,eM h.Ad hb,KY h.own hb,eM h.DA hb,h.s7.below hb,(hb.block br (qd.1 h.dg).1).trans h.dg⟩
theorem LoopIn.grown(h:LoopIn W w0 br jQ bo g cap r x0 y0 x1 y1 v rows){row:Option Nat}(hg:W.grownBy W' row)(hn:∀k,row=some k->w0.heap.size<=k/\k≠bo/\k≠jQ/\k≠g/\k≠br/\v.ownBlock≠some k):LoopIn W' w0 br jQ bo g cap r x0 y0 x1 y1 v rows:=by
 refine⟨h.Ho,h.below.grown hg h.below.size fun k e=>(hn k e).1,h.Rk,h.Ad.kept hg fun e=>(hn bo e.symm).2.1 rfl,h.own.kept hg ?_,h.DA.kept hg fun e=>(hn jQ e.symm).2.2.1 rfl,h.s7.fC hg.size (hg.block g h.s7.1 fun e=>(hn g e.symm).2.2.2.1 rfl),(hg.block br (qd.1 h.dg).1 fun e=>(hn br e.symm).2.2.2.2.1 rfl).trans h.dg⟩;rcases h.own.2 with⟨rfl,_⟩|⟨g',_,_,rfl,_⟩;exact .inl rfl;refine .inr fun e=>?_;exact(hn g' (by rw[<- e];rfl)).2.2.2.2.2 rfl
end
noncomputable def fm(t:Bool)(x0 y0 x1 y1 k0:Int)(i:Nat)(p:Int×Int):List (List Int):=
 if k5 x0 y0 x1 y1 (px t p.1 p.2) (py t p.1 p.2)then [[wrap64 (k0+i),px t p.1 p.2,py t p.1 p.2]]else []
noncomputable def c8(t:Bool)(x0 y0 x1 y1 k0:Int):List (Int×Int)->List (List Int):=fun ps=>(List.range ps.length).flatMap fun i=>fm t x0 y0 x1 y1 k0 i (ps.getD i (0,0))
theorem s8(t:Bool)(x0 y0 x1 y1 k0:Int)(ps:List (Int×Int))(p:Int×Int):c8 t x0 y0 x1 y1 k0 (ps++[p])=c8 t x0 y0 x1 y1 k0 ps++fm t x0 y0 x1 y1 k0 ps.length p:=by
 unfold c8;rw[dG,List.length_singleton,List.range_succ,List.flatMap_append];congr 1;simp only[List.flatMap];congr 1;refine sO fun i hi=>?_;have hi:=ui.1 hi;simp only[eI,nT hi];simp
theorem OT{α β:Type}{f:α->List β}(hf:∀x,(f x).length<=1):∀l:List α,(l.flatMap f).length<=l.length:=by
 intro l;induction l with
 |nil=>simp
 | cons x l ih=>
   have:=hf x;simp only[List.flatMap_cons,dG,tY];omega
theorem Fs(t:Bool)(x0 y0 x1 y1 k0:Int)(i:Nat)(p:Int×Int):(fm t x0 y0 x1 y1 k0 i p).length<=1:=by
 unfold fm;generalize k5 x0 y0 x1 y1 (px t p.1 p.2) (py t p.1 p.2)=b;cases b;exact Nat.zero_le _;exact eZ _
theorem pT(t:Bool)(x0 y0 x1 y1 k0:Int)(ps:List (Int×Int)):(c8 t x0 y0 x1 y1 k0 ps).length<=ps.length:=by
 have:=OT (f:=fun i=>fm t x0 y0 x1 y1 k0 i (ps.getD i (0,0))) (fun i=>Fs ..) (List.range ps.length);rwa[List.length_range]at this
structure LI(w0:World)(br jQ bo bk n1 g cap:Nat)(r:List Int)(x0 y0 x1 y1 k0 m:Int)(rows:List (List Int))(pre:List (Int×Int))(W:World):Prop where
 lo:∃v,LoopIn W w0 br jQ bo g cap r x0 y0 x1 y1 v (rows++c8 (qb r 4) x0 y0 x1 y1 k0 pre)
 hk:Boxed W bk 3 (.int .i64 (wrap64 (k0+pre.length)))
 hw:Boxed W n1 319 (.pointer (some ⟨g,0,none⟩))
 hm:Boxed W (n1+1+1) 3 (.int .i64 m)
 hu:∃u,Boxed W (n1+1) 3 u
section
variable {w0 W W':World}{br jQ bo bk n1 g cap:Nat}{r:List Int}{x0 y0 x1 y1 k0 m:Int}{rows:List (List Int)}{pre:List (Int×Int)}
theorem LI.on(h:LI w0 br jQ bo bk n1 g cap r x0 y0 x1 y1 k0 m rows pre W)(hb:Below W.heap.size W W'):LI w0 br jQ bo bk n1 g cap r x0 y0 x1 y1 k0 m rows pre W':=by
 obtain⟨⟨v,lo⟩,hk,hw,hm,⟨u,hu⟩⟩:=h;exact⟨⟨v,lo.on hb⟩,eM hk hb,eM hw hb,eM hm hb,⟨u,eM hu hb⟩⟩
theorem LI.put(h:LI w0 br jQ bo bk n1 g cap r x0 y0 x1 y1 k0 m rows pre W){l:Nat}{o o':Obj}(hl:W.heap[l]?=some o)(ho:o.isCells=false)(h0:w0.heap.size<=l)(hg:g<l):LI w0 br jQ bo bk n1 g cap r x0 y0 x1 y1 k0 m rows pre (W.putObj l o'):=by
 obtain⟨⟨v,lo⟩,hk,hw,hm,⟨u,hu⟩⟩:=h;have gn:=grownBy_putObj' W l o';have ne:∀ {B:Nat} {t:TypeId} {x:Value},Boxed W B t x->B≠l:=fun hb e=>by
   subst e;rw[show W.heap[_]?=_ from hb]at hl;cases hl;cases ho
 have ne':∀ {B:Nat} {t:TypeId} {x:Value},Boxed W B t x->some B≠some l:=fun hb e=>ne hb (by cases e;rfl);refine⟨⟨v,lo.grown gn fun k e=>?_⟩,hk.kept gn (ne' hk),hw.kept gn (ne' hw),hm.kept gn (ne' hm),⟨u,hu.kept gn (ne' hu)⟩⟩;cases e;refine⟨h0,fun e=>ne lo.Ad e.symm,fun e=>ne lo.DA e.symm,by omega,fun e=>?_,fun e=>?_⟩;subst e;rw[lo.dg]at hl;cases hl;cases ho;rcases lo.own.2 with⟨rfl,_⟩|⟨g',_,cur,rfl,_,hh,_⟩;cases e;cases e;rw[hh]at hl;cases hl;cases ho
theorem LI.ajU(h:LI w0 br jQ bo bk n1 g cap r x0 y0 x1 y1 k0 m rows pre W)(u':Value)(h0:w0.heap.size<=n1)(hn:n1+1≠bo/\n1+1≠jQ/\n1+1≠g/\n1+1≠br/\n1+1≠bk):LI w0 br jQ bo bk n1 g cap r x0 y0 x1 y1 k0 m rows pre (W.setCell ⟨n1+1,0,none⟩ u'):=by
 obtain⟨⟨v,lo⟩,hk,hw,hm,⟨u,hu⟩⟩:=h;have gn:=grownBy_setCell' W (n1+1) u';refine⟨⟨v,lo.grown gn fun k e=>?_⟩,hk.other (Ne.symm hn.2.2.2.2) _,hw.other (by omega) _,hm.other (by omega) _,⟨u',hu.set _⟩⟩;cases e;exact⟨by omega,hn.1,hn.2.1,hn.2.2.1,hn.2.2.2.1,fun e=>hu.not_row (by decide) lo.own e.symm⟩
end
theorem kC{W:World}{g:Nat}{cs:Array Value}{t e:TypeId}{z:Nat×Nat}{B sz n:Nat}{v:Value}{xs:List Value}(h:W.heap[g]?=some (.cells cs t z))(hte:t≠e)(hr:W.ownsRow B e sz v n xs):some g≠v.ownBlock:=by
 rcases hr.2 with⟨rfl,_⟩|⟨g',cap,cur,rfl,_,Cg,_⟩;simp[Value.ownBlock];intro e';obtain rfl:g=g':=by simpa[Value.ownBlock]using e'
 rw[h]at Cg;cases Cg;exact hte rfl
theorem kP{W:World}{B B':Nat}{t t':TypeId}{v v':Value}(h:Boxed W B t v)(h':Boxed W B' t' v')(ht:t≠t'):B≠B':=fun e=>by
 subst e;have:=(show W.heap[B]?=_ from h).symm.trans h';simp at this;exact ht this.2
theorem dx{W:World}{B g:Nat}{t t':TypeId}{v:Value}{cs:Array Value}{z:Nat×Nat}(h:Boxed W B t v)(h':W.heap[g]?=some (.cells cs t' z))(ht:t≠t'):B≠g:=fun e=>by
 subst e;have:=(show W.heap[B]?=_ from h).symm.trans h';simp at this;exact ht this.2.1
theorem Ft(ks:List CK):∀(a b:List (List Int)),av ks (a++b)=av ks a++av ks b:=by
 intro a;induction a with
 |nil=>intro b;rfl
 |cons x a ih=>intro b;simp[av,ih]
theorem xd(W:World)(a b c:Value)(t:TypeId)(j:Nat)(u:Value)(h: [a,b,c][j]?=some u):(W.alloc (.cells #[a,b,c] t)).cell? ((⟨W.heap.size,0,none⟩:Addr).add j)=some u:=by
 have hn:=World.alloc_heap_new W (.cells #[a,b,c] t)
 match j,h with
 | 0,h=>
   cases h;rw[show(⟨W.heap.size,0,none⟩:Addr).add 0=⟨W.heap.size,0,none⟩from rfl];unfold World.cell?;dsimp only;rw[hn];rfl
 | 1,h=>
   cases h;rw[show(⟨W.heap.size,0,none⟩:Addr).add 1=⟨W.heap.size,1,none⟩from rfl];unfold World.cell?;dsimp only;rw[hn];rfl
 | 2,h=>
   cases h;rw[show(⟨W.heap.size,0,none⟩:Addr).add 2=⟨W.heap.size,2,none⟩from rfl];unfold World.cell?;dsimp only;rw[hn];rfl
 |j+3,h=>simp at h
section
variable {w0 w2 w3:World}{br jQ bo bk n1 g cap:Nat}{r:List Int}{x0 y0 x1 y1 k0 m:Int}{rows:List (List Int)}{pre:List (Int×Int)}{v2 v3 kv ub:Value}{BR:List (List Int)}{tmp:Obj}{news:List Value}
theorem xM(gK:LoopIn w2 w0 br jQ bo g cap r x0 y0 x1 y1 v2 BR)(hk:Boxed w2 bk 3 kv)(oK:(w2.alloc tmp).grownBy w3 v2.ownBlock):Boxed (w3.setCell ⟨bo,0,none⟩ v3) bk 3 kv:=
 ((hk.alloc tmp).kept oK (hk.not_row (by decide) gK.own)).other (kP hk gK.Ad (by decide)) _
theorem LI.hit(p:Int×Int)(gK:LoopIn w2 w0 br jQ bo g cap r x0 y0 x1 y1 v2 (rows++c8 (qb r 4) x0 y0 x1 y1 k0 pre))(hk:Boxed w2 bk 3 (.int .i64 (wrap64 (k0+pre.length))))(hw:Boxed w2 n1 319 (.pointer (some ⟨g,0,none⟩)))(hm:Boxed w2 (n1+1+1) 3 (.int .i64 m))(hu:Boxed w2 (n1+1) 3 ub)
   (hB:w0.heap.size<=bk) (hbn:bk<n1) (hp:k5 x0 y0 x1 y1 (px (qb r 4) p.1 p.2) (py (qb r 4) p.1 p.2)=true)
   (oK:(w2.alloc tmp).grownBy w3 v2.ownBlock) (bA:w3.ownsRow w0.heap.size 276 3 v3 ((rows++c8 (qb r 4) x0 y0 x1 y1 k0 pre).length+1) (av [i6,i6,i6] (rows++c8 (qb r 4) x0 y0 x1 y1 k0 pre)++[.int .i64 (wrap64 (k0+pre.length)),.int .i64 (px (qb r 4) p.1 p.2),.int .i64 (py (qb r 4) p.1 p.2)])) (B:Nat) :
   TG.I6 B w2 ((w3.setCell ⟨bo,0,none⟩ v3).setCell ⟨bk,0,none⟩ (.int .i64 (wrap64 (wrap64 (k0+pre.length)+1))))/\((w3.setCell ⟨bo,0,none⟩ v3).setCell ⟨bk,0,none⟩ (.int .i64 (wrap64 (wrap64 (k0+pre.length)+1)))).heap[n1+1]?=w2.heap[n1+1]?/\
   LI w0 br jQ bo bk n1 g cap r x0 y0 x1 y1 k0 m rows (pre++[p]) ((w3.setCell ⟨bo,0,none⟩ v3).setCell ⟨bk,0,none⟩ (.int .i64 (wrap64 (wrap64 (k0+pre.length)+1)))):=by
 have sH:=gK.below.size;obtain⟨Rm,Ul,Rt,sK,ti⟩:=gK.Ad.appended (by decide) gK.own sH gK.Rk bA oK;obtain⟨csg,zg,mK⟩:=gK.s7.2.2;have kb:=xM (v3:=v3) gK hk oK;have kw:Boxed (w3.setCell ⟨bo,0,none⟩ v3) n1 319 _:=((hw.alloc tmp).kept oK (hw.not_row (by decide) gK.own)).other (kP hw gK.Ad (by decide)) _;have km:=xM (v3:=v3) gK hm oK;have ku:=xM (v3:=v3) gK hu oK;have kwy:Boxed (w3.setCell ⟨bo,0,none⟩ v3) jQ 319 _:=((gK.DA.alloc tmp).kept oK (gK.DA.not_row (by decide) gK.own)).other (kP gK.DA gK.Ad (by decide)) _;have DH:∀k,k<w2.heap.size->some k≠v2.ownBlock->k≠bo->(w3.setCell ⟨bo,0,none⟩ v3).heap[k]?=w2.heap[k]? :=fun k hk h1 h2=>
   (Below.heap_setCell _ _ _ k h2).trans ((oK.block k (by simp;omega) h1).trans (Below.heap_alloc _ _ _ hk))
 have qg:=DH br (qd.1 gK.dg).1 (kC gK.dg (by decide) gK.own) (Ne.symm (dx gK.Ad gK.dg (by decide)));have XB:=DH g gK.s7.1 (kC mK (by decide) gK.own) (Ne.symm (dx gK.Ad mK (by decide)));have hbl:Below w0.heap.size w0 (w3.setCell ⟨bo,0,none⟩ v3):=gK.below.trans ti;have fS:rows++c8 (qb r 4) x0 y0 x1 y1 k0 (pre++[p])=(rows++c8 (qb r 4) x0 y0 x1 y1 k0 pre)++[[wrap64 (k0+pre.length),px (qb r 4) p.1 p.2,py (qb r 4) p.1 p.2]]:=by
   rw[s8,<- aaq];unfold fm;rw[if_pos hp]
 have lo3:LoopIn (w3.setCell ⟨bo,0,none⟩ v3) w0 br jQ bo g cap r x0 y0 x1 y1 v3 (rows++c8 (qb r 4) x0 y0 x1 y1 k0 (pre++[p])):=by
   refine⟨gK.Ho,hbl,gK.Rk,Ul,?_,kwy,gK.s7.fC sK.size XB,qg.trans gK.dg⟩;rw[fS,Ft,dG];exact Rt
 have hg4:=grownBy_setCell' (w3.setCell ⟨bo,0,none⟩ v3) bk (.int .i64 (wrap64 (wrap64 (k0+pre.length)+1)));have lo4:=lo3.grown hg4 fun k e=>by
   cases e;refine⟨hB,kP kb Ul (by decide),kP kb kwy (by decide),dx kb (XB.trans mK) (by decide),dx kb (qg.trans gK.dg) (by decide),fun e=>kb.not_row (by decide) Rt e.symm⟩
 refine⟨fun k o _ ho hc=>(KeepsOthers.setCell _ _ _).same k o (sK.same k o ho hc) hc,?_,⟨v3,lo4⟩,?_,kw.other (by omega) _,km.other (by omega) _,⟨ub,ku.other (by omega) _⟩⟩;rw[Below.heap_setCell _ _ _ _ (by show n1+1≠bk;omega)];exact(show _=_ from ku).trans (show _=_ from hu).symm;have:=kb.set (.int .i64 (wrap64 (wrap64 (k0+pre.length)+1)));rw[dG,List.length_singleton];have e:wrap64 (k0+((pre.length+1:Nat):Int))=wrap64 (wrap64 (k0+pre.length)+1):=by rw[wrap_wrap];congr 1;omega
 rw[e];exact this
theorem LI.ajV(p:Int×Int)(h:LI w0 br jQ bo bk n1 g cap r x0 y0 x1 y1 k0 m rows pre w2)(hB:w0.heap.size<=bk)(hbn:bk<n1)(hp:k5 x0 y0 x1 y1 (px (qb r 4) p.1 p.2) (py (qb r 4) p.1 p.2)=false)(B:Nat) :
   TG.I6 B w2 (w2.setCell ⟨bk,0,none⟩ (.int .i64 (wrap64 (wrap64 (k0+pre.length)+1))))/\(w2.setCell ⟨bk,0,none⟩ (.int .i64 (wrap64 (wrap64 (k0+pre.length)+1)))).heap[n1+1]?=w2.heap[n1+1]?/\
   LI w0 br jQ bo bk n1 g cap r x0 y0 x1 y1 k0 m rows (pre++[p]) (w2.setCell ⟨bk,0,none⟩ (.int .i64 (wrap64 (wrap64 (k0+pre.length)+1)))):=by
 obtain⟨⟨v2,gK⟩,hk,hw,hm,⟨ub,hu⟩⟩:=h;obtain⟨csg,zg,mK⟩:=gK.s7.2.2;have hg4:=grownBy_setCell' w2 bk (.int .i64 (wrap64 (wrap64 (k0+pre.length)+1)));have lo4:=gK.grown hg4 fun k e=>by
   cases e;exact⟨hB,kP hk gK.Ad (by decide),kP hk gK.DA (by decide),dx hk mK (by decide),dx hk gK.dg (by decide),fun e=>hk.not_row (by decide) gK.own e.symm⟩
 have fS:c8 (qb r 4) x0 y0 x1 y1 k0 (pre++[p])=c8 (qb r 4) x0 y0 x1 y1 k0 pre:=by
   rw[s8];unfold fm;rw[hp];exact xk _
 refine⟨fun k o _ ho hc=>(KeepsOthers.setCell _ _ _).same k o ho hc,Below.heap_setCell _ _ _ _ (by show n1+1≠bk;omega),⟨v2,by rw[fS];exact lo4⟩,?_,hw.other (by omega) _,hm.other (by omega) _,⟨ub,hu.other (by omega) _⟩⟩;have:=hk.set (.int .i64 (wrap64 (wrap64 (k0+pre.length)+1)));rw[dG,List.length_singleton];have e:wrap64 (k0+((pre.length+1:Nat):Int))=wrap64 (wrap64 (k0+pre.length)+1):=by rw[wrap_wrap];congr 1;omega
 rw[e];exact this
end
end
section
open Go.Sx Go.RowKit Go.Shelf Go TG
attribute [local go_sem] Oper.semAt_some
def zT:Code->Code×Code
 |.seq _ (.seq (.seq _ b) c)=>(b,c)
 |c=>(c,c)
noncomputable def DB:Code:=(zT nq).1
noncomputable def Hp:Code:=(zT nq).2
theorem I7:(Tryz.prog.info? 276).map (fun i=>(i.zero,i.size,i.bytes))=some (some (.agg #[.int .i64 0,.int .i64 0,.int .i64 0]),3,24):=by kernel_rfl
noncomputable abbrev xN(w0:World)(rows:List (List Int)):Exit->Act->World->Prop:=bodyPostM Fence.wide 5 Tryz.prog Tryz.f169 fun e W'=>∃v',e = .returned v'/\Below w0.heap.size w0 W'/\W'.ownsRow w0.heap.size 276 3 v' rows.length (av [i6,i6,i6] rows)
set_option maxHeartbeats 4000000 in
theorem TH(hr:fv){W W1 w0:World}{br jQ bo bk g cap:Nat}{r:List Int}{x0 y0 x1 y1:Int}{v:Value}{rows:List (List Int)}(h:LoopIn W w0 br jQ bo g cap r x0 y0 x1 y1 v rows)(dy:fA r)
   {k0 u0 m:Int} (Uh:Boxed W bk 3 (.int .i64 k0)) (hwk:wrap64 k0=k0) (ac5:w0.heap.size<=bk) (akn:bk≠g/\bo≠g) (Lu: -8388608<=u0/\u0<=8388608) (hm:0<=m/\m<=1000) (hlen:rows.length<=1000) (te:fF x0) (HE:fF y0) (Rp:fF x1) (TI:fF y1)
   (vp:Below W.heap.size W W1) {K:Act->World->Prop} (hK:∀a w,Hp.wpIn Fence.wide 5 Tryz.prog (xN w0 (rows++c8 (qb r 4) x0 y0 x1 y1 k0 (fz r u0 m.toNat))) a w->K a w) {t0 t1 t2 t3 t4 t6 t9 t10 t11 t12 t13 t14 t15 t16 t18 t19 t20 t21 t22 t23 t24 t25 t26 t27 t28 t29 t30 t31 t32 t33 t34 t35 t36 t37 t38 t39 t40 t41 t42 t43 t44 t45 t46 t47 t48 t49 t50 t51 t52 t53 t54 t55 t56 t57 t58 t59 t60 t61 t62 t63 t64 t65 t66 t67 t68 t69 t70 t71 t72 t73 t74 t75 t76 t77 t78 t79 t80 t81 t82 t83 t84 t85 t86 t87 t88 t89 t90 t91 t92 t93 t94 t95 t96 t97 t98 t99 t100 t101 t102 t103 t104 t105 t106 t107 t108 t109 t110 t111 t112 t113 t114 t115 t116 t117 t118 t119 t120 t121 t122 t123 t124 t125 t126 t127 t128 t129 t130 t131 t132 t133 t134 t135 t137 t138 t139 t140 t141 t142 t143 t144 t145 t146 t147 t148 t149 t150 t151 t152 t153 t154 t155 t156 t157 t158 t159:Value} :
   DB.wpIn Fence.wide 5 Tryz.prog (Exit.then K (xN w0 (rows++c8 (qb r 4) x0 y0 x1 y1 k0 (fz r u0 m.toNat))))
     {tmps:=#[t0,t1,t2,t3,t4,.pointer (some ⟨br,0,none⟩),t6,.pointer (some ⟨jQ,0,none⟩),.pointer (some ⟨bo,0,none⟩),t9,t10,t11,t12,t13,t14,t15,t16,.pointer (some ⟨bk,0,none⟩),t18,t19,t20,t21,t22,t23,t24,t25,t26,t27,t28,t29,t30,t31,t32,t33,t34,t35,t36,t37,t38,t39,t40,t41,t42,t43,t44,t45,t46,t47,t48,t49,t50,t51,t52,t53,t54,t55,t56,t57,t58,t59,t60,t61,t62,t63,t64,t65,t66,t67,t68,t69,t70,t71,t72,t73,t74,t75,t76,t77,t78,t79,t80,t81,t82,t83,t84,t85,t86,t87,t88,t89,t90,t91,t92,t93,t94,t95,t96,t97,t98,t99,t100,t101,t102,t103,t104,t105,t106,t107,t108,t109,t110,t111,t112,t113,t114,t115,t116,t117,t118,t119,t120,t121,t122,t123,t124,t125,t126,t127,t128,t129,t130,t131,t132,t133,t134,t135,.func (.func 249) #[] #[.pointer (some ⟨W1.heap.size,0,none⟩),.pointer (some ⟨W1.heap.size+1,0,none⟩),.pointer (some ⟨W1.heap.size+1+1,0,none⟩)],t137,t138,t139,t140,t141,t142,t143,t144,t145,t146,t147,t148,t149,t150,t151,t152,t153,t154,t155,t156,t157,t158,t159],defers:=[] } (((W1.alloc (.cells #[.pointer (some ⟨g,0,none⟩)] 319)).alloc (.cells #[.int .i64 u0] 3)).alloc (.cells #[.int .i64 m] 3)):=by
 simp only[Hp,zT,nq,behind,jO,Tryz.f169,Option.getD,Nat.beq,iC,if_false,if_true]at hK;simp only[DB,zT,nq,behind,jO,Tryz.f169,Option.getD,Nat.beq,iC,if_false,if_true];obtain⟨i0,hi,Lg,U8,hz2⟩:=info_parts I7;have sH:(((W1.alloc (.cells #[.pointer (some ⟨g,0,none⟩)] 319)).alloc (.cells #[.int .i64 u0] 3)).alloc (.cells #[.int .i64 m] 3)).heap.size=W1.heap.size+3:=by simp
 have ajW:Boxed (((W1.alloc (.cells #[.pointer (some ⟨g,0,none⟩)] 319)).alloc (.cells #[.int .i64 u0] 3)).alloc (.cells #[.int .i64 m] 3)) W1.heap.size 319 (.pointer (some ⟨g,0,none⟩)):=((Boxed.new W1 319 (.pointer (some ⟨g,0,none⟩))).alloc _).alloc _;have ac6:Boxed (((W1.alloc (.cells #[.pointer (some ⟨g,0,none⟩)] 319)).alloc (.cells #[.int .i64 u0] 3)).alloc (.cells #[.int .i64 m] 3)) (W1.heap.size+1) 3 (.int .i64 u0):=by
   have:=(Boxed.new (W1.alloc (.cells #[.pointer (some ⟨g,0,none⟩)] 319)) 3 (.int .i64 u0)).alloc (.cells #[.int .i64 m] 3);rwa[World.size_alloc]at this
 have ajX:Boxed (((W1.alloc (.cells #[.pointer (some ⟨g,0,none⟩)] 319)).alloc (.cells #[.int .i64 u0] 3)).alloc (.cells #[.int .i64 m] 3)) (W1.heap.size+1+1) 3 (.int .i64 m):=by
   have:=Boxed.new ((W1.alloc (.cells #[.pointer (some ⟨g,0,none⟩)] 319)).alloc (.cells #[.int .i64 u0] 3)) 3 (.int .i64 m);rwa[World.size_alloc,World.size_alloc]at this
 have ti:Below W.heap.size W (((W1.alloc (.cells #[.pointer (some ⟨g,0,none⟩)] 319)).alloc (.cells #[.int .i64 u0] 3)).alloc (.cells #[.int .i64 m] 3)):=((vp.alloc vp.size _).alloc (by have:=vp.size;simp;omega) _).alloc (by have:=vp.size;simp;omega) _;have hle:=vp.size;have hB0:=h.below.size;have l1:=Uh.lt;have l2:=h.Ad.lt;have l3:=h.DA.lt;have l4:=h.s7.1;have l5:=(qd.1 h.dg).1;have Rf:LI w0 br jQ bo bk W1.heap.size g cap r x0 y0 x1 y1 k0 m rows [] (((W1.alloc (.cells #[.pointer (some ⟨g,0,none⟩)] 319)).alloc (.cells #[.int .i64 u0] 3)).alloc (.cells #[.int .i64 m] 3)):=
   ⟨⟨v,by simpa[c8]using h.on ti⟩,by simpa[hwk]using eM Uh ti,ajW,ajX,⟨_,ac6⟩⟩
 gi_wp2
 refine KZ (n:=5) (gf:=249) (lb:=#[.pointer (some ⟨W1.heap.size,0,none⟩),.pointer (some ⟨W1.heap.size+1,0,none⟩),.pointer (some ⟨W1.heap.size+1+1,0,none⟩)]) rfl (enters_of Tryz.func249 (by kernel_rfl) rfl)
   (OU:=fun p:Int×Int=>#[.int .i64 p.1,.int .i64 p.2]) (fun _=>rfl) (xs:=fz r u0 m.toNat)
   (LI w0 br jQ bo bk W1.heap.size g cap r x0 y0 x1 y1 k0 m rows) (ac3 (W1.heap.size+1)) (fun A B=>B.heap[W1.heap.size+1]?=A.heap[W1.heap.size+1]?)
   (fun pre A l o o' hI h0 hl ho=>hI.put hl ho (by rw[sH]at h0;omega) (by rw[sH]at h0;omega))
   (fun pre A o hI=>hI.on ((Below.refl _ _).alloc (eZ _) _))
   (fun pre A B hI hs=>?stable) (fun A B hs=>?stays) (fun h1 h2=>h2.trans h1) (fun A l o h0=>World.putObj_heap_other (by rw[sH]at h0;omega)) Rf
   (fun p=>{tmps:=#[t0,t1,t2,t3,t4,.pointer (some ⟨br,0,none⟩),t6,.pointer (some ⟨jQ,0,none⟩),.pointer (some ⟨bo,0,none⟩),t9,t10,t11,t12,t13,t14,t15,t16,.pointer (some ⟨bk,0,none⟩),.int .i64 p.1,.int .i64 p.2,t20,t21,t22,t23,t24,t25,t26,t27,t28,t29,t30,t31,t32,t33,t34,t35,t36,t37,t38,t39,t40,t41,t42,t43,t44,t45,t46,t47,t48,t49,t50,t51,t52,t53,t54,t55,t56,t57,t58,t59,t60,t61,t62,t63,t64,t65,t66,t67,t68,t69,t70,t71,t72,t73,t74,t75,t76,t77,t78,t79,t80,t81,t82,t83,t84,t85,t86,t87,t88,t89,t90,t91,t92,t93,t94,t95,t96,t97,t98,t99,t100,t101,t102,t103,t104,t105,t106,t107,t108,t109,t110,t111,t112,t113,t114,t115,t116,t117,t118,t119,t120,t121,t122,t123,t124,t125,t126,t127,t128,t129,t130,t131,t132,t133,t134,t135,.func (.func 249) #[] #[.pointer (some ⟨W1.heap.size,0,none⟩),.pointer (some ⟨W1.heap.size+1,0,none⟩),.pointer (some ⟨W1.heap.size+1+1,0,none⟩)],.int .i64 p.1,.int .i64 p.2,t139,t140,t141,t142,t143,t144,t145,t146,t147,t148,t149,t150,t151,t152,t153,t154,t155,t156,t157,t158,t159],defers:=[] }) ?iter ?assign ?body ?done (by omega)
 case stable=>
   rcases hs with hs|⟨u,rfl⟩;exact hI.on hs;exact hI.ajU u (by omega) ⟨by omega,by omega,by omega,by omega,by omega⟩
 case stays=>
   intro k o hk ho hc;rcases hs with hs|⟨u,rfl⟩;exact(hs.block k (qd.1 ho).1).trans ho;exact(KeepsOthers.setCell A _ u).same k o ho hc
 case iter=>
   intro l J A I8 h0 hJI hJS hY;have hAu:Boxed A (W1.heap.size+1) 3 (.int .i64 u0):=(I8 _ (by rw[sH];omega)).trans ac6;exact TD hr dy Lu hm J A h0 (fun pre B hB=>by
     obtain⟨⟨v',lo⟩,_,hw,hm,hu⟩:=hJI pre B hB;exact⟨⟨lo.wd,hw.cell,hm.cell,lo.s7⟩,hu⟩) hJS hAu hY
 case assign=>
   intro l p A K hK
   gi_wp2
   exact hK
 case body=>
   intro l pre p A hI cF;have hac:=(xc hr h.wd h.s7 dy Lu).1;obtain⟨N9,hp2⟩:=OR Lu ⟨by omega,by omega⟩ cF;obtain⟨S8,S9⟩:=EX (t:=qb r 4) N9 hp2;obtain⟨⟨v',lo⟩,hkb,hwb,hmb,⟨ub,hub⟩⟩:=id hI;have Fz:(rows++c8 (qb r 4) x0 y0 x1 y1 k0 pre).length<=2000:=by
     have h1:=pT (qb r 4) x0 y0 x1 y1 k0 pre;have h2:=(cC.1 cF).1;have h3:(fz r u0 m.toNat).length=m.toNat:=by simp[fz]
     rw[dG];omega
   have X5:(4000:Nat)<=maxLen:=by decide
   have hwc:=lo.DA.cell;have h4:=lo.s7.bool 4 rfl;have c0:A.cell? ⟨br,0,none⟩=some (.int .i64 x0):=by simp[World.cell?,lo.dg]
   have c1:A.cell? ⟨br,1,none⟩=some (.int .i64 y0):=by simp[World.cell?,lo.dg]
   have c2:A.cell? ⟨br,2,none⟩=some (.int .i64 x1):=by simp[World.cell?,lo.dg]
   have c3:A.cell? ⟨br,3,none⟩=some (.int .i64 y1):=by simp[World.cell?,lo.dg]
   gi_wp2_with (first
     |(refine⟨trivial,?_⟩;gi_at_call 209;refine(CallsIn.inRound l (callsIn_wide.2 (zR h4 _ _))).mono ?_;rintro e w1 ⟨rfl,rfl⟩)
     |(refine⟨trivial,?_⟩;gi_at_call 168;refine(CallsIn.inRound l (callsIn_wide.2 (Fq hr lo.wd te HE Rp TI S8 S9).2)).mono ?_;rintro e w2 ⟨rfl,hbw⟩;have Ug:=hI.on hbw;clear hwc h4 c0 c1 c2 c3;obtain⟨⟨v2,gK⟩,TJ,ajY,ajZ,⟨ub2,aj0⟩⟩:=id Ug;have ako:=gK.Ad.cell;have akp:=TJ.cell;have akq:=TJ.frozen)
     |(gi_at_builtin;refine wpListIn_append_own _ rfl _ _ 272 rfl w0.heap.size 276 i0 (.agg #[.int .i64 0,.int .i64 0,.int .i64 0]) 3 24 Tryz.underlying272 hi Lg U8 hz2 rfl (by decide) _ _ _ rfl (gK.own.alloc _) ⟨w2.heap.size,0,none⟩ 1 1 [.int .i64 (wrap64 (k0+pre.length)),.int .i64 (px (qb r 4) p.1 p.2),.int .i64 (py (qb r 4) p.1 p.2)] rfl rfl (xd _ _ _ _ _) (by simp[Value.oneCell']) (by omega) (by omega) (by have:=gK.below.size;simp;omega) ?_;intro v3 w3 zU vX _;obtain⟨g',nX,rfl⟩:=ownsRow_succ zU;obtain⟨Rm,Ul,Rt,sK,aj1⟩:=gK.Ad.appended (by decide) gK.own gK.below.size gK.Rk zU vX;have rV:=Rm.cell;have hf1:=Rm.frozen;have Yt:=xM (v3:=.slice (some ⟨g',0,none⟩) ((rows++c8 (qb r 4) x0 y0 x1 y1 k0 pre).length+1) nX) gK TJ vX;rw[dG]at Yt;have akr:=Yt.cell;have aks:=Yt.frozen))
   obtain⟨a1,a2,a3⟩:=LI.hit p gK TJ ajY ajZ aj0 ac5 (by omega) (by assumption) vX zU (W1.heap.size+3);rw[dG]at a1 a2 a3;exact⟨fun k o hk ho hc=>a1 k o hk ((hbw.block k (qd.1 ho).1).trans ho) hc,a2.trans (hbw.block _ hub.lt),a3⟩;obtain⟨a1,a2,a3⟩:=LI.ajV p Ug ac5 (by omega) (by assumption) (W1.heap.size+3);exact⟨fun k o hk ho hc=>a1 k o hk ((hbw.block k (qd.1 ho).1).trans ho) hc,a2.trans (hbw.block _ hub.lt),a3⟩
 case done=>
   intro D A hD hI hDf;obtain⟨⟨v',lo⟩,hkb,hwb,hmb,⟨ub,hub⟩⟩:=hI;refine hK _ _ ?_;have hoc:=lo.Ad.cell
   gi_wp2
   refine⟨by simp,.inl ⟨_,_,rfl,run_takeDeferred hDf,?_⟩⟩;exact⟨_,results_tmp rfl _ _ _,v',rfl,lo.below.trans (belowK_b (w:=w0) (eZ _) A D _ _ (by rw[sH]at hD;omega) hDf rfl rfl),ownsRow_putObj lo.own _ hDf rfl⟩
end
end Go.Proofs.YtohebioanhliiaaGreatDoor.aw

/- walk.Within: small functions, its iterator. -/
import Derived.Test.YtohebioanhliiaaGreatDoorGC1
import Derived.Test.YtohebioanhliiaaGreatDoorGG1
import Derived.RangeFuncNested
import Derived.RangeFuncBound
import Derived.Shelf.RegionOpen
import Derived.OwnWalkIn
import Derived.LoopNIn
import Derived.Sort.CutIn
set_option maxRecDepth 100000
set_option linter.unusedVariables false
set_option maxRecDepth 20000
set_option linter.unusedSimpArgs false
namespace Go.Proofs.YtohebioanhliiaaGreatDoor.av
section
open Go.Sx Go
def kh(k:Nat):Cn:=if Nat.beq k 168 then {kc 168 with post:=[.or (.not (.v R0)) (.and (.and (.le (.v 0) (.v 4)) (.lt (.v 4) (.v 2))) (.and (.le (.v 1) (.v 5)) (.lt (.v 5) (.v 3))))] }else kc k
abbrev small:List Nat:=[65,168,210,211,247,250,251,284,268,207]
noncomputable abbrev DK(i k:Nat):Bool:=WI (mO PP lG) kh an (small.take i) k
theorem y65:DK 0 65=true:=by kernel_rfl
theorem al4:DK 1 168=true:=by kernel_rfl
theorem al5:DK 2 210=true:=by kernel_rfl
theorem al6:DK 3 211=true:=by kernel_rfl
theorem al7:DK 4 247=true:=by kernel_rfl
theorem al8:DK 5 250=true:=by kernel_rfl
theorem al9:DK 6 251=true:=by kernel_rfl
theorem al':DK 7 284=true:=by kernel_rfl
theorem ama:DK 8 268=true:=by kernel_rfl
theorem amb:DK 9 207=true:=by kernel_rfl
theorem OY(X:bY):sr (TT PP) X kh small:=by
 have h0:sr (TT PP) X kh (small.take 0):=fun j hj=>by simp at hj
 have h1:=h0.next (k:=65) rfl (aJ aK h0 y65)
 have h2:=h1.next (k:=168) rfl (aJ aK h1 al4)
 have h3:=h2.next (k:=210) rfl (aJ aK h2 al5)
 have h4:=h3.next (k:=211) rfl (aJ aK h3 al6)
 have h5:=h4.next (k:=247) rfl (aJ aK h4 al7)
 have h6:=h5.next (k:=250) rfl (aJ aK h5 al8)
 have h7:=h6.next (k:=251) rfl (aJ aK h6 al9)
 have h8:=h7.next (k:=284) rfl (aJ aK h7 al')
 have h9:=h8.next (k:=268) rfl (aJ aK h8 ama)
 have Zr:=h9.next (k:=207) rfl (aJ aK h9 amb)
 exact Zr
end
section
open Go.Sx Go.RowKit Go
variable{w:World}{ds:List DV}{g k:Nat}{w':World}
abbrev X0:bY:=XX fun _=>none
open Classical in
noncomputable def gv(k:Nat)(ds:List DV):List DV:=if h:∃rs,eR (TT PP) X0 k ds rs then Classical.choose h else []
theorem uw{rs:List DV}(h:eR (TT PP) X0 k ds rs):gv k ds=rs:=by
 have hx:∃rs,eR (TT PP) X0 k ds rs:=⟨rs,h⟩;unfold gv;rw[dif_pos hx];exact(Classical.choose_spec hx).det h
theorem pR(hk:k∈small)(hp:(kh k).jA ds):eR (TT PP) X0 k ds (gv k ds)/\(kh k).lh ds (gv k ds):=by
 obtain⟨rs,h1,h2⟩:=OY X0 k hk ds hp;rw[uw h1];exact⟨h1,h2⟩
theorem ki(hr:gF){s:bW}(hk:k∈small){r:oL}(hl:lN k lG=some r)(hf:r.f=k)(hs:qX k=some s)(hc:s.cons=0){vs:List Value}(hw:Wd w)(ha:Fo w s.args vs ds)(hp:(kh k).jA ds) :
   Calls PP k vs.toArray w fun e w'=>∃b8,e = .returned (packed (cj s.res b8))/\Below w.heap.size w w'/\fitAll (mw w' w.heap.size) (bL s.res) b8 (gv k ds):=by
 have hT:TT PP k=some ⟨r.f,gV PP r,r.sub⟩:=by
   show mO PP lG k=_;simp only[mO,hl]
 have h0:=amc hr;have h:=xO h0 (ct:=⟨s,(kh k).jA,fun ds rs=>rs=gv k ds,fun ds hd=>⟨gv k ds,by
   obtain⟨⟨n,hn⟩,_⟩:=pR hk hd;exact ud h0 hs hn,rfl⟩⟩) hT hs hc (fun ds _ hd=>⟨gv k ds,(pR hk hd).1,rfl⟩)
 have CR:k=r.f:=hf.symm;have:=h.2 w vs ds hw ha hp;rw[show(⟨r.f,gV PP r,r.sub⟩:ir).f=k from hf]at this;refine this.mono ?_;rintro e w' ⟨b8,gX,e1,e2,e3,_,e5⟩;have e5:gX=gv k ds:=e5;subst e5;exact⟨b8,e1,e2,e3⟩
abbrev wk:List CK:=[i6,i6,i6,i6,.b,i6,i6,i6,.b,.b,i6,i6]
def jS(w:World)(g cap:Nat)(r:List Int):Prop:=g<w.heap.size/\Reads w (.slice (some ⟨g,0,none⟩) 1 cap) 1 (aF wk [r])/\∃cs z,w.heap[g]?=some (.cells cs 323 z)
theorem jS.fi{cap:Nat}{r:List Int}(h:jS w g cap r)(hs:w.heap.size<=w'.heap.size)(hb:w'.heap[g]?=w.heap[g]?):jS w' g cap r:=
 ⟨C6 h.1 hs,h.2.1.mY fun _ b e=>by simp[Value.ownBlock]at e;subst e;exact hb,by rw[hb];exact h.2.2⟩
theorem jS.below{cap:Nat}{r:List Int}(h:jS w g cap r)(hb:Below w.heap.size w w'):jS w' g cap r:=h.fi hb.size (hb.block g h.1)
theorem jS.cell{cap:Nat}{r:List Int}(h:jS w g cap r){j:Nat}{u:Value}(hu:(bS wk 0 r)[j]?=some u):w.cell? ⟨g,j,none⟩=some u:=by
 obtain⟨_,⟨base,qB,e,_,_,hc⟩,_⟩:=h;cases e;obtain⟨a,ea,hh⟩:=hc j u (by simpa[aF]using hu);cases ea;have e2:(⟨g,0,none⟩:Addr).add j=⟨g,j,none⟩:=by
   by_cases hj:j=0;subst hj;rfl;simp[Addr.add,hj]
 rw[<- e2];exact hh
structure lz(r:List Int):Prop where
 in_:cN [(-268500000,268500000),(-268500000,268500000),(-268500000,268500000),(-268500000,268500000),(0,1),(0,1),(-1200000,1200000),(-1200000,1200000),(0,1),(0,1),(-1200000,1200000),(-1200000,1200000)] 0 r
 ne:r.getD 2 0≠r.getD 0 0
theorem XU:kh 207=⟨[Pc,Pc,Pc,Pc],[.not (.and (.eq (.v 0) (.v 2)) (.eq (.v 1) (.v 3)))],[wY],[.not (.eq (.get R0 (.c 0) 2) (.get R0 (.c 0) 0))]⟩:=by kernel_rfl
theorem XV:kh 210=⟨[wY],[],[.i 0 2500000],[]⟩:=by kernel_rfl
theorem XW:kh 211=⟨[wY],[],[.i (-1) 1],[]⟩:=by kernel_rfl
theorem afM:kh 250=⟨[wY,.i (-8388608) 8388608],[.not (.eq (.get 0 (.c 0) 2) (.get 0 (.c 0) 0))],[.i (-4611686018427387904) 4611686018427387904,.i 1 549755813888],[]⟩:=by kernel_rfl
theorem XY:kh 251=⟨[wY,.i (-8388608) 8388608],[.not (.eq (.get 0 (.c 0) 2) (.get 0 (.c 0) 0))],[.i (-4611686018427387905) 4611686018427387904],[]⟩:=by kernel_rfl
theorem XZ:kh 168=⟨[.i mn mx,.i mn mx,.i mn mx,.i mn mx,.i mn mx,.i mn mx],[],[.b],[.or (.not (.v R0)) (.and (.and (.le (.v 0) (.v 4)) (.lt (.v 4) (.v 2))) (.and (.le (.v 1) (.v 5)) (.lt (.v 5) (.v 3))))]⟩:=by kernel_rfl
theorem k65:(kh 65).args=[.i mn mx,.i mn mx,.i mn mx,.i mn mx]/\(kh 65).pre=[]/\(kh 65).res=[.b]:=⟨by kernel_rfl,by kernel_rfl,by kernel_rfl⟩
theorem afN:lN 207 lG=some (rowOf 207):=by kernel_rfl
theorem afO:lN 210 lG=some (rowOf 210):=by kernel_rfl
theorem afP:lN 211 lG=some (rowOf 211):=by kernel_rfl
theorem afQ:lN 250 lG=some (rowOf 250):=by kernel_rfl
theorem afR:lN 251 lG=some (rowOf 251):=by kernel_rfl
theorem afS:lN 168 lG=some (rowOf 168):=by kernel_rfl
theorem amd:lN 65 lG=some (rowOf 65):=by kernel_rfl
theorem ame:qX 207=some MH:=by kernel_rfl
theorem amf:qX 210=some MI:=by kernel_rfl
theorem amg:qX 211=some MJ:=by kernel_rfl
theorem amh:qX 250=some MK:=by kernel_rfl
theorem ami:qX 251=some ML:=by kernel_rfl
theorem amj:qX 168=some MN:=by kernel_rfl
theorem s65:qX 65=some X2:=by kernel_rfl
def afT:List DV->List Int
 | [.l [r]]=>r
 |_=>[]
def S4:List DV->Int
 | [.i n]=>n
 |_=>0
def amk:List DV->Int×Int
 | [.i n,.i m]=>(n,m)
 |_=>(0,0)
def S5:List DV->Bool
 | [.b x]=>x
 |_=>false
noncomputable def xW(a0 a1 b0 b1:Int):List Int:=afT (gv 207 [.i a0,.i a1,.i b0,.i b1])
noncomputable def lO(r:List Int):Int:=S4 (gv 210 [.l [r]])
noncomputable def fE(r:List Int):Int:=S4 (gv 211 [.l [r]])
noncomputable def dX(r:List Int)(u:Int):Int×Int:=amk (gv 250 [.l [r],.i u])
noncomputable def jX(r:List Int)(u:Int):Int:=S4 (gv 251 [.l [r],.i u])
noncomputable def nH(x0 y0 x1 y1 x y:Int):Bool:=S5 (gv 168 [.i x0,.i y0,.i x1,.i y1,.i x,.i y])
noncomputable def mP(x0 y0 x1 y1:Int):Bool:=S5 (gv 65 [.i x0,.i y0,.i x1,.i y1])
theorem MO{d:DV}(h:wY.has d):∃r,d = .l [r]/\cN [(-268500000,268500000),(-268500000,268500000),(-268500000,268500000),(-268500000,268500000),(0,1),(0,1),(-1200000,1200000),(-1200000,1200000),(0,1),(0,1),(-1200000,1200000),(-1200000,1200000)] 0 r:=by
 cases d with
 | l xs=>
   obtain⟨h1,h2,h3⟩:=h;have h2:=h2 1 rfl
   match xs,h1,h2,h3 with
   | [],h1,_,_=>simp at h1
   | [r],_,_,h3=>exact⟨r,rfl,h3 r (aU ..)⟩
   |_::_::_,_,h2,_=>simp at h2;omega
 |i n=>exact h.elim
 |b x=>exact h.elim
theorem oQ{r:List Int}(h:lz r):wY.has (.l [r]):=⟨by simp,fun y e=>by cases e;simp,fun r' hr=>by simp at hr;subst hr;exact h.in_⟩
section
variable (hr:gF){w:World}(hw:Wd w)
theorem S6(hr:gF){w:World}(hw:Wd w){a0 a1 b0 b1:Int}(h0: -268500000<=a0/\a0<=268500000)(h1: -268500000<=a1/\a1<=268500000)(h2: -268500000<=b0/\b0<=268500000)(h3: -268500000<=b1/\b1<=268500000)(cV:¬(a0=b0/\a1=b1)) :
   lz (xW a0 a1 b0 b1)/\Calls PP 207 #[.agg #[.int .i64 a0,.int .i64 a1],.agg #[.int .i64 b0,.int .i64 b1]] w fun e w'=>∃g cap,e = .returned (.pointer (some ⟨g,0,none⟩))/\Below w.heap.size w w'/\w.heap.size<=g/\jS w' g cap (xW a0 a1 b0 b1):=by
 have hp:(kh 207).jA [.i a0,.i a1,.i b0,.i b1]:=by
   rw[XU];refine⟨⟨h0,h1,h2,h3,trivial⟩,fun p hp=>?_⟩;obtain rfl:p=_:=kL.1 hp;have:(decide (a0=b0)&&decide (a1=b1))=false:=by
     rw[adm,Le,Le];exact Classical.not_and_iff_not_or_not.1 cV
   show(!(decide (a0=b0)&&decide (a1=b1)))=true;rw[this];rfl
 obtain⟨_,hq,zL⟩:=pR (k:=207) (by decide) hp;rw[XU]at hq zL;obtain⟨r,hg,bl⟩:∃r,gv 207 [.i a0,.i a1,.i b0,.i b1]=[.l [r]]/\cN [(-268500000,268500000),(-268500000,268500000),(-268500000,268500000),(-268500000,268500000),(0,1),(0,1),(-1200000,1200000),(-1200000,1200000),(0,1),(0,1),(-1200000,1200000),(-1200000,1200000)] 0 r:=by
   generalize gv 207 [.i a0,.i a1,.i b0,.i b1]=rs at hq
   match rs,hq with
   | [d],hq=>
     obtain⟨r,rfl,h⟩:=MO hq.1;exact⟨r,rfl,h⟩
 have KN:xW a0 a1 b0 b1=r:=by unfold xW;rw[hg];rfl
 have PJ:=zL _ (kL.2 rfl);rw[hg]at PJ;rw[KN];refine⟨⟨bl,fun e=>?_⟩,?_⟩;have e':(decide (r.getD 2 0=r.getD 0 0))=true:=kR e;have:(!(decide (r.getD 2 0=r.getD 0 0)))=true:=PJ;rw[e']at this;cases this;refine(ki hr (k:=207) (ds:=[.i a0,.i a1,.i b0,.i b1]) (by decide) afN (by kernel_rfl) ame rfl hw (vs:=[.agg #[.int .i64 a0,.int .i64 a1],.agg #[.int .i64 b0,.int .i64 b1]]) ⟨[.int .i64 a0,.int .i64 a1,.int .i64 b0,.int .i64 b1],rfl,rfl,rfl,rfl,rfl,trivial⟩ hp).mono ?_;rintro e w' ⟨b8,rfl,hb,dM⟩;rw[hg]at dM
 match b8,dM with
 | [v],dM=>
   have bN:w'.ownsRow w.heap.size 323 12 v 1 (aF wk [r]):=dM.1.2;rcases id bN with⟨_,⟨_,h⟩|⟨g,cap,cur,rfl,E9,hh,_⟩⟩
   omega;exact⟨g,cap,rfl,hb,E9,(sQ.1 hh).1,pW bN,_,_,hh⟩
variable {g cap:Nat}{r:List Int}(IU:jS w g cap r)(gR:lz r)
theorem EN(hr:gF){w:World}(hw:Wd w){g:Nat}{cap:Nat}{r:List Int}(IU:jS w g cap r)(gR:lz r):(0<=lO r/\lO r<=2500000)/\Calls PP 210 #[.pointer (some ⟨g,0,none⟩)] w fun e w'=>e = .returned (.int .i64 (lO r))/\Below w.heap.size w w':=by
 have hp:(kh 210).jA [.l [r]]:=by rw[XV];exact⟨⟨oQ gR,trivial⟩,fun p hp=>by cases hp⟩
 obtain⟨_,hq,_⟩:=pR (k:=210) (by decide) hp;rw[XV]at hq;obtain⟨n,hg,hn⟩:∃n:Int,gv 210 [.l [r]]=[.i n]/\0<=n/\n<=2500000:=by
   generalize gv 210 [.l [r]]=rs at hq
   match rs,hq with
   | [.i n],hq=>exact⟨n,rfl,hq.1⟩
 have KN:lO r=n:=by unfold lO;rw[hg];rfl
 rw[KN];refine⟨hn,(ki hr (k:=210) (ds:=[.l [r]]) (by decide) afO (by kernel_rfl) amf rfl hw (vs:=[.pointer (some ⟨g,0,none⟩)]) ⟨[.slice (some ⟨g,0,none⟩) 1 cap],rfl,⟨by decide,IU.2.1⟩,trivial⟩ hp).mono ?_⟩;rintro e w' ⟨b8,rfl,hb,dM⟩;rw[hg]at dM
 match b8,dM with
 | [v],dM=>
   have:v = .int .i64 n:=dM.1;subst this;exact⟨rfl,hb⟩
theorem vn(hr:gF){w:World}(hw:Wd w){g:Nat}{cap:Nat}{r:List Int}(IU:jS w g cap r)(gR:lz r):(-1<=fE r/\fE r<=1)/\Calls PP 211 #[.pointer (some ⟨g,0,none⟩)] w fun e w'=>e = .returned (.int .i64 (fE r))/\Below w.heap.size w w':=by
 have hp:(kh 211).jA [.l [r]]:=by rw[XW];exact⟨⟨oQ gR,trivial⟩,fun p hp=>by cases hp⟩
 obtain⟨_,hq,_⟩:=pR (k:=211) (by decide) hp;rw[XW]at hq;obtain⟨n,hg,hn⟩:∃n:Int,gv 211 [.l [r]]=[.i n]/\-1<=n/\n<=1:=by
   generalize gv 211 [.l [r]]=rs at hq
   match rs,hq with
   | [.i n],hq=>exact⟨n,rfl,hq.1⟩
 have KN:fE r=n:=by unfold fE;rw[hg];rfl
 rw[KN];refine⟨hn,(ki hr (k:=211) (ds:=[.l [r]]) (by decide) afP (by kernel_rfl) amg rfl hw (vs:=[.pointer (some ⟨g,0,none⟩)]) ⟨[.slice (some ⟨g,0,none⟩) 1 cap],rfl,⟨by decide,IU.2.1⟩,trivial⟩ hp).mono ?_⟩;rintro e w' ⟨b8,rfl,hb,dM⟩;rw[hg]at dM
 match b8,dM with
 | [v],dM=>
   have:v = .int .i64 n:=dM.1;subst this;exact⟨rfl,hb⟩
theorem GK(cV:r.getD 2 0≠r.getD 0 0){u:Int}:BE.af (bj.aB 0 [.l [r],.i u]) (.not (.eq (.get 0 (.c 0) 2) (.get 0 (.c 0) 0)))=true:=by
 show(!(decide (r.getD 2 0=r.getD 0 0)))=true;rw[decide_eq_false cV];rfl
theorem CF(hr:gF){w:World}(hw:Wd w){g:Nat}{cap:Nat}{r:List Int}(IU:jS w g cap r)(gR:lz r){u:Int}(hu: -8388608<=u/\u<=8388608):(1<=(dX r u).2/\(dX r u).2<=549755813888)/\Calls PP 250 #[.pointer (some ⟨g,0,none⟩),.int .i64 u] w fun e w'=>e = .returned (.tuple #[.int .i64 (dX r u).1,.int .i64 (dX r u).2])/\Below w.heap.size w w':=by
 have hp:(kh 250).jA [.l [r],.i u]:=by
   rw[afM];refine⟨⟨oQ gR,hu,trivial⟩,fun p hp=>?_⟩;obtain rfl:p=_:=kL.1 hp;exact GK gR.ne
 obtain⟨_,hq,_⟩:=pR (k:=250) (by decide) hp;rw[afM]at hq;obtain⟨n,d,hg,hn⟩:∃n d:Int,gv 250 [.l [r],.i u]=[.i n,.i d]/\1<=d/\d<=549755813888:=by
   generalize gv 250 [.l [r],.i u]=rs at hq
   match rs,hq with
   | [.i n,.i d],hq=>exact⟨n,d,rfl,hq.2.1⟩
 have KN:dX r u=(n,d):=by unfold dX;rw[hg];rfl
 rw[KN];refine⟨hn,(ki hr (k:=250) (ds:=[.l [r],.i u]) (by decide) afQ (by kernel_rfl) amh rfl hw (vs:=[.pointer (some ⟨g,0,none⟩),.int .i64 u]) ⟨[.slice (some ⟨g,0,none⟩) 1 cap,.int .i64 u],rfl,⟨by decide,IU.2.1⟩,rfl,trivial⟩ hp).mono ?_⟩;rintro e w' ⟨b8,rfl,hb,dM⟩;rw[hg]at dM
 match b8,dM with
 | [v,v'],dM=>
   have:v = .int .i64 n:=dM.1;subst this;have:v' = .int .i64 d:=dM.2.1;subst this;exact⟨rfl,hb⟩
theorem Ah(hr:gF){w:World}(hw:Wd w){g:Nat}{cap:Nat}{r:List Int}(IU:jS w g cap r)(gR:lz r){u:Int}(hu: -8388608<=u/\u<=8388608):(-4611686018427387905<=jX r u/\jX r u<=4611686018427387904)/\Calls PP 251 #[.pointer (some ⟨g,0,none⟩),.int .i64 u] w fun e w'=>e = .returned (.int .i64 (jX r u))/\Below w.heap.size w w':=by
 have hp:(kh 251).jA [.l [r],.i u]:=by
   rw[XY];refine⟨⟨oQ gR,hu,trivial⟩,fun p hp=>?_⟩;obtain rfl:p=_:=kL.1 hp;exact GK gR.ne
 obtain⟨_,hq,_⟩:=pR (k:=251) (by decide) hp;rw[XY]at hq;obtain⟨n,hg,hn⟩:∃n:Int,gv 251 [.l [r],.i u]=[.i n]/\-4611686018427387905<=n/\n<=4611686018427387904:=by
   generalize gv 251 [.l [r],.i u]=rs at hq
   match rs,hq with
   | [.i n],hq=>exact⟨n,rfl,hq.1⟩
 have KN:jX r u=n:=by unfold jX;rw[hg];rfl
 rw[KN];refine⟨hn,?_⟩;refine(ki hr (k:=251) (ds:=[.l [r],.i u]) (by decide) afR (by kernel_rfl) ami rfl hw (vs:=[.pointer (some ⟨g,0,none⟩),.int .i64 u]) ⟨[.slice (some ⟨g,0,none⟩) 1 cap,.int .i64 u],rfl,⟨by decide,IU.2.1⟩,rfl,trivial⟩ hp).mono ?_;rintro e w' ⟨b8,rfl,hb,dM⟩;rw[hg]at dM
 match b8,dM with
 | [v],dM=>
   have:v = .int .i64 n:=dM.1;subst this;exact⟨rfl,hb⟩
end
def gG(n:Int):Prop:=-9223372036854775808<=n/\n<=9223372036854775807
section
variable (hr:gF){w:World}(hw:Wd w){x0 y0 x1 y1 x y:Int}(h0:gG x0)(h1:gG y0)(h2:gG x1)(h3:gG y1)
theorem CG(hr:gF){w:World}(hw:Wd w){x0:Int}{y0:Int}{x1:Int}{y1:Int}(h0:gG x0)(h1:gG y0)(h2:gG x1)(h3:gG y1):Calls PP 65 #[.agg #[.int .i64 x0,.int .i64 y0,.int .i64 x1,.int .i64 y1]] w fun e w'=>e = .returned (.bool (mP x0 y0 x1 y1))/\Below w.heap.size w w':=by
 have hp:(kh 65).jA [.i x0,.i y0,.i x1,.i y1]:=by
   refine⟨?_,fun p hp=>?_⟩;rw[k65.1];exact⟨h0,h1,h2,h3,trivial⟩;rw[k65.2.1]at hp;cases hp
 obtain⟨_,hq,_⟩:=pR (k:=65) (by decide) hp;rw[k65.2.2]at hq;obtain⟨n,hg⟩:∃n:Bool,gv 65 [.i x0,.i y0,.i x1,.i y1]=[.b n]:=by
   generalize gv 65 [.i x0,.i y0,.i x1,.i y1]=rs at hq
   match rs,hq with
   | [.b n],hq=>exact⟨n,rfl⟩
 have KN:mP x0 y0 x1 y1=n:=by unfold mP;rw[hg];rfl
 rw[KN];refine(ki hr (k:=65) (ds:=[.i x0,.i y0,.i x1,.i y1]) (by decide) amd (by kernel_rfl) s65 rfl hw (vs:=[.agg #[.int .i64 x0,.int .i64 y0,.int .i64 x1,.int .i64 y1]]) ⟨[.int .i64 x0,.int .i64 y0,.int .i64 x1,.int .i64 y1],rfl,rfl,rfl,rfl,rfl,trivial⟩ hp).mono ?_;rintro e w' ⟨b8,rfl,hb,dM⟩;rw[hg]at dM
 match b8,dM with
 | [v],dM=>
   have:v = .bool n:=dM.1;subst this;exact⟨rfl,hb⟩
theorem IV(hr:gF){w:World}(hw:Wd w){x0:Int}{y0:Int}{x1:Int}{y1:Int}{x:Int}{y:Int}(h0:gG x0)(h1:gG y0)(h2:gG x1)(h3:gG y1)(h4:gG x)(h5:gG y):(nH x0 y0 x1 y1 x y=true->(x0<=x/\x<x1)/\y0<=y/\y<y1)/\Calls PP 168 #[.agg #[.int .i64 x0,.int .i64 y0,.int .i64 x1,.int .i64 y1],.int .i64 x,.int .i64 y] w fun e w'=>e = .returned (.bool (nH x0 y0 x1 y1 x y))/\Below w.heap.size w w':=by
 have hp:(kh 168).jA [.i x0,.i y0,.i x1,.i y1,.i x,.i y]:=by
   rw[XZ];exact⟨⟨h0,h1,h2,h3,h4,h5,trivial⟩,fun p hp=>by cases hp⟩
 obtain⟨_,hq,zL⟩:=pR (k:=168) (by decide) hp;rw[XZ]at hq zL;obtain⟨n,hg⟩:∃n:Bool,gv 168 [.i x0,.i y0,.i x1,.i y1,.i x,.i y]=[.b n]:=by
   generalize gv 168 [.i x0,.i y0,.i x1,.i y1,.i x,.i y]=rs at hq
   match rs,hq with
   | [.b n],hq=>exact⟨n,rfl⟩
 have KN:nH x0 y0 x1 y1 x y=n:=by unfold nH;rw[hg];rfl
 have hq3:=zL _ (kL.2 rfl);rw[hg]at hq3;rw[KN];refine⟨fun e=>?_,(ki hr (k:=168) (ds:=[.i x0,.i y0,.i x1,.i y1,.i x,.i y]) (by decide) afS (by kernel_rfl) amj rfl hw (vs:=[.agg #[.int .i64 x0,.int .i64 y0,.int .i64 x1,.int .i64 y1],.int .i64 x,.int .i64 y]) ⟨[.int .i64 x0,.int .i64 y0,.int .i64 x1,.int .i64 y1,.int .i64 x,.int .i64 y],rfl,rfl,rfl,rfl,rfl,rfl,rfl,trivial⟩ hp).mono ?_⟩;subst e;have:(!true||((decide (x0<=x)&&decide (x<x1))&&(decide (y0<=y)&&decide (y<y1))))=true:=hq3;simpa using this;rintro e w' ⟨b8,rfl,hb,dM⟩;rw[hg]at dM
 match b8,dM with
 | [v],dM=>
   have:v = .bool n:=dM.1;subst this;exact⟨rfl,hb⟩
end
end
end Go.Proofs.YtohebioanhliiaaGreatDoor.av
namespace Go.Proofs.YtohebioanhliiaaGreatDoor.X8
open Go Go.RowKit
variable {n:Nat}{P:Program}
def MQ(B:Nat)(W W':World):Prop:=∀(k:Nat) (o:Obj),B<=k->W.heap[k]?=some o->o.isCells=false->W'.heap[k]?=some o
theorem O3{α:Type}{g:Operand}{ps:Array Tmp}{assign body:Code}{Q:Exit->Act->World->Prop}{a:Act}{w:World}
   {gf:Nat} {lb:Array Value} (hg:a.eval g = .func (.func gf) #[] lb) (eg:∀args w,(callFunc gf args).run P w = .ok (.enter gf args) w)
   {Ta:α->Array Value} (GQ:∀x,(Ta x).size=ps.size) {xs:List α} (I:List α->World->Prop) (St Kp:World->World->Prop)
   (hIp:∀pre W l o o',I pre W->w.heap.size<=l->W.heap[l]?=some o->o.isCells=false->I pre (W.putObj l o'))
   (hIa:∀pre W o,I pre W->I pre (W.alloc o))
   (hIs:∀pre A B,I pre A->St A B->I pre B) (X6:∀A B,St A B->MQ w.heap.size A B)
   (hKt:∀ {A B C:World},Kp A B->Kp B C->Kp A C) (hKp:∀(W:World) (l:Nat) (o:Obj),w.heap.size<=l->Kp W (W.putObj l o))
   (h0:I [] w) (af4:α->Act)
   (af5:∀(l:Nat) (J:List α->World->Prop) (W:World),(∀k,k<w.heap.size->W.heap[k]?=w.heap[k]?)->J [] W->(∀pre A,J pre A->I pre A)->(∀pre A B,J pre A->St A B->J pre B)->
     (∀pre x W1,J pre W1->xs[pre.length]?=some x->YieldAt Fence.wide (n-1-1) P l (Ta x) W1 fun e W'=>e = .returned (.bool true)/\J (pre++[x]) W'/\Kp W1 W')->
     CallsIn Fence.wide (n-1) P gf (#[.func (.yield l) #[] #[]]++lb) W fun e W'=>(∃v,e = .returned v)/\J xs W')
   (Yh:∀(l:Nat) (x:α) (W:World) (K:Act->World->Prop),K (af4 x) W->
     assign.wpIn (Fence.wide.inRound l) (n-1-1) P (Exit.then K (fun _ _ _=>False)) {tmps:=(ps.zip (Ta x)).foldl (fun t (p,v)=>t.setIfInBounds p v) a.tmps,defers:=[] } W)
   (Ef:∀(l:Nat) (pre:List α) (x:α) (W:World),I pre W->xs[pre.length]?=some x->body.wpIn (Fence.wide.inRound l) (n-1-1) P (fun e _ W'=>e = .normal/\MQ w.heap.size W W'/\Kp W W'/\I (pre++[x]) W') (af4 x) W)
   (af6:∀(D:Nat) (W:World),w.heap.size<=D->I xs W->W.heap[D]?=some (.deferred (some []))->Q .normal {a with defers:={target:=.collected D,args:=#[] }::a.defers} W)
   (hn:1<=n) :
   (Code.rangeFunc g ps assign body).wpIn Fence.wide n P Q a w:=by
 refine wpIn_rangeFunc ?_;intro fn mF;let xc:LoopState->Loop:=fun st=>{state:=st,pending:=none,fn,tmps:=a.tmps,params:=ps,assign,body,defers:=w.heap.size}
 have hL1:((w.alloc (.deferred (some []))).alloc (.loop (xc .ready))).heap[w.heap.size+1]?=some (.loop (xc .ready)):=by
   have:=World.alloc_heap_new (w.alloc (.deferred (some []))) (.loop (xc .ready));rwa[World.size_alloc]at this
 have hK1:((w.alloc (.deferred (some []))).alloc (.loop (xc .ready))).heap[w.heap.size]?=some (.deferred (some [])):=
   (Below.heap_alloc _ _ _ (by simp)).trans (World.alloc_heap_new w _)
 have hI1:I [] ((w.alloc (.deferred (some []))).alloc (.loop (xc .ready))):=hIa _ _ _ (hIa _ _ _ h0);refine⟨w.heap.size+1,[{target:=.collected w.heap.size,args:=#[] }],(w.alloc (.deferred (some []))).alloc (.loop (xc .ready)),{target:=.fn (.func gf) lb,args:=#[.func (.yield (w.heap.size+1)) #[] #[]] },(w.alloc (.deferred (some []))).alloc (.loop (xc .ready)),gf,
   #[.func (.yield (w.heap.size+1)) #[] #[]]++lb,(w.alloc (.deferred (some []))).alloc (.loop (xc .ready)),?_,?_,fun _ _=>trivial,?_,fun _=>hn,?_⟩
 exact run_enterLoop_outer _ _ _ _ _
 . simp only[resolve,hg];simp[go_sem]
 . simp[invoke,go_sem,eg]
 have MS:∀k,k<w.heap.size->((w.alloc (.deferred (some []))).alloc (.loop (xc .ready))).heap[k]?=w.heap[k]? :=fun k hk=>(Below.heap_alloc _ _ k (by simp;omega)).trans (Below.heap_alloc _ _ k hk);generalize(w.alloc (.deferred (some []))).alloc (.loop (xc .ready))=W1 at hL1 hK1 hI1 MS;refine(af5 (w.heap.size+1) (fun pre W=>I pre W/\W.heap[w.heap.size+1]?=some (.loop (xc .ready))/\W.heap[w.heap.size]?=some (.deferred (some []))) W1 MS ⟨hI1,hL1,hK1⟩ (fun _ _ h=>h.1) (fun pre A B h s=>⟨hIs _ _ _ h.1 s,X6 _ _ s _ _ (by omega) h.2.1 rfl,X6 _ _ s _ _ (Nat.le_refl _) h.2.2 rfl⟩) ?_).mono ?_;rintro pre x W ⟨hi,hl,hk⟩ hlen;have hy:=run_yield (P:=P) (args:=Ta x) hl (GQ x);refine⟨fn,_,assign,body,hy,roundIn_of_wpIn mF (Yh _ x W _ ⟨_,run_beginRound hl rfl,?_⟩)⟩;have cu:w.heap.size+1<W.heap.size:=(Array.getElem?_eq_some_iff.1 hl).1;have Jb:(W.putObj (w.heap.size+1) (.loop (xc .busy))).heap[w.heap.size+1]?=some (.loop (xc .busy)):=World.putObj_heap_same cu;have uX:(W.putObj (w.heap.size+1) (.loop (xc .busy))).heap[w.heap.size]?=some (.deferred (some [])):=(World.putObj_heap_other (by omega)).trans hk;refine wpIn_mono (Ef _ pre x _ (hIp _ _ _ _ _ hi (by omega) hl rfl) hlen) ?_;rintro e a3 W3 ⟨rfl,hs,hkp,X'⟩;have hl3:=hs _ _ (by omega) Jb rfl;have hk3:=hs _ _ (Nat.le_refl _) uX rfl;have hr:=run_endRound (P:=P) none hl3;exact⟨_,_,hr,rfl,⟨hIp _ _ _ _ _ X' (by omega) hl3 rfl,World.putObj_heap_same (Array.getElem?_eq_some_iff.1 hl3).1,(World.putObj_heap_other (by omega)).trans hk3⟩,hKt (hKt (hKp _ _ _ (by omega)) hkp) (hKp _ _ _ (by omega))⟩;rintro e W2 ⟨⟨v,rfl⟩,hi,hl,hk⟩;exact⟨none,_,run_endLoop (P:=P) hl (by simp[xc]),af6 _ _ (Nat.le_refl _) (hIp _ _ _ _ _ hi (by omega) hl rfl) ((World.putObj_heap_other (by omega)).trans hk)⟩
end Go.Proofs.YtohebioanhliiaaGreatDoor.X8
namespace Go.Proofs.YtohebioanhliiaaGreatDoor.av
section
open Go.Sx Go.RowKit Go.Shelf Go
variable{w:World}{g:Nat}{D:Int}{k n:Nat}{t:Bool}{u0:Int}
attribute [local go_sem] Oper.semAt_some
def px(t:Bool)(u v:Int):Int:=if t then v else u
def py(t:Bool)(u v:Int):Int:=if t then u else v
theorem CH(h4:w.cell? ⟨g,4,none⟩=some (.bool t))(u v:Int):Calls Tryz.prog 209 #[.pointer (some ⟨g,0,none⟩),.int .i64 u,.int .i64 v] w fun e w'=>e = .returned (.tuple #[.int .i64 (px t u v),.int .i64 (py t u v)])/\w'=w:=by
 unfold px py;go_enter Tryz.func209,Tryz.ntmps209
 go_wp2
 all_goals first|(go_ret2;exact⟨rfl,rfl⟩)|skip
 all_goals simp_all
theorem OZ(g:Nat)(u m:Int):Calls Tryz.prog 212 #[.pointer (some ⟨g,0,none⟩),.int .i64 u,.int .i64 m] w fun e w'=>e = .returned (.func (.func 249) #[] #[.pointer (some ⟨w.heap.size,0,none⟩),.pointer (some ⟨w.heap.size+1,0,none⟩),.pointer (some ⟨w.heap.size+1+1,0,none⟩)])/\w'=((w.alloc (.cells #[.pointer (some ⟨g,0,none⟩)] 319)).alloc (.cells #[.int .i64 u] 3)).alloc (.cells #[.int .i64 m] 3):=by
 go_enter Tryz.func212,Tryz.ntmps212
 go_wp2
 all_goals first|(go_ret;exact⟨rfl,rfl⟩)|skip
def qq(r:List Int)(i:Nat):Int:=r.getD i 0
def qb(r:List Int)(i:Nat):Bool:=decide (r.getD i 0≠0)
theorem jS.int{cap:Nat}{r:List Int}(h:jS w g cap r)(j:Nat)(hj:wk[j]?=some i6):w.cell? ⟨g,j,none⟩=some (.int .i64 (qq r j)):=by
 refine h.cell ?_;rw[jk wk 0 r j,hj,gK];rfl
theorem jS.bool{cap:Nat}{r:List Int}(h:jS w g cap r)(j:Nat)(hj:wk[j]?=some .b):w.cell? ⟨g,j,none⟩=some (.bool (qb r j)):=by
 refine h.cell ?_;rw[jk wk 0 r j,hj,gK];rfl
def up1(d whole add:Int)(x:Int×Int):Int×Int:=
 (wrap64 (x.1+whole+wrap64 (x.2+add)/d),wrap64 (x.2+add)%d)
noncomputable def jK(r:List Int)(u0:Int):Nat->Int×Int×Int
 |0=>(u0,jX r u0,wrap64 ((dX r u0).1-wrap64 (jX r u0*(dX r u0).2)))
 | i+1=>
   let d:=(dX r u0).2
   let a:=wrap64 (256*wrap64 (qq r 3-qq r 1))
   (wrap64 ((jK r u0 i).1+fE r),up1 d (wrap64 (a.tdiv d)) (a.tmod d) (jK r u0 i).2)
noncomputable def iE(r:List Int)(u0:Int)(m:Nat):List (Int×Int):=(List.range m).map fun i=>((jK r u0 i).1,(jK r u0 i).2.1)
def afU(bu:Nat)(A B:World):Prop:=Below A.heap.size A B\/∃v,B=A.setCell ⟨bu,0,none⟩ v
structure aml(A:World)(bw bm g cap:Nat)(r:List Int)(m:Int):Prop where
 wd:Wd A
 hw:A.cell? ⟨bw,0,none⟩=some (.pointer (some ⟨g,0,none⟩))
 hm:A.cell? ⟨bm,0,none⟩=some (.int .i64 m)
 vS:jS A g cap r
theorem KO(r:List Int)(u0:Int)(k:Nat):iE r u0 (k+1)=iE r u0 k++[((jK r u0 k).1,(jK r u0 k).2.1)]:=by
 unfold iE;rw[List.range_succ,n8];rfl
theorem X3{R j q:Int}(hD:1<=D)(hq:j*D=q)(h0:0<=R-q)(h1:R-q<D):R/D=j/\R%D=R-q:=by
 have h2:R=(R-q)+D*j:=by rw[<- hq,l6 j D];omega
 have h3:(R-q)/D=0:=Int.ediv_eq_zero_of_lt h0 h1;have h4:(R-q)%D=R-q:=Int.emod_eq_of_lt h0 h1;constructor;rw[h2,Int.add_mul_ediv_left _ _ (by omega),h3];omega;rw[h2,Int.add_mul_emod_self_left,<- h2,h4]
theorem up_mul(j D:Int):(j+1)*D=j*D+D:=by rw[Int.add_mul,Int.one_mul]
theorem S7(j D:Int):(j-1)*D=j*D-D:=by rw[Int.sub_mul,Int.one_mul]
theorem wrap_wrap(a b:Int):wrap64 (wrap64 a+b)=wrap64 (a+b):=by unfold wrap64;omega
theorem O0(a:Int):wrap64 (wrap64 a-1)=wrap64 (a-1):=by unfold wrap64;omega
theorem fJ{a:Int}(h0: -9223372036854775808<=a)(h1:a<=9223372036854775807):wrap64 a=a:=by unfold wrap64;omega
theorem GL(a:Int): -9223372036854775808<=wrap64 a/\wrap64 a<=9223372036854775807:=by unfold wrap64;omega
theorem int_eq{a b:Int}(h:a=b):Value.int .i64 a=Value.int .i64 b:=congrArg _ h
theorem O1{a:Int}(h:a<0)(hD:1<=D):(-intOf (Value.int .i64 (a+D))).toNat<(-intOf (Value.int .i64 a)).toNat:=by
 show(-(a+D)).toNat<(-a).toNat;omega
theorem X4{a:Int}(h:D<=a)(hD:1<=D):(intOf (Value.int .i64 (a-D))).toNat<(intOf (Value.int .i64 a)).toNat:=by
 show(a-D).toNat<a.toNat;omega
theorem ab2{m:Nat}(h:k<m):m-(intOf (Value.int .i64 ((k:Int)+1))).toNat<m-(intOf (Value.int .i64 (k:Int))).toNat:=by
 show m-((k:Int)+1).toNat<m-(k:Int).toNat;omega
theorem S8{r:List Int}(Pw: -8388608<=u0/\u0<=8388608)(ha:gG (jX r u0)){p:Int×Int}(h:(iE r u0 n)[k]?=some p):gG p.1/\gG p.2:=by
 have:p=((jK r u0 k).1,(jK r u0 k).2.1):=by
   unfold iE at h;rw[gL]at h;obtain⟨j,hj,rfl⟩:=bH.1 h;have:=dh.1 hj;obtain⟨cu,e⟩:=this;rw[List.getElem_range]at e;rw[e]
 subst this;cases k with
 |zero=>exact⟨⟨by show -9223372036854775808<=u0;omega,by show u0<=9223372036854775807;omega⟩,ha⟩
 |succ k=>exact⟨GL _,GL _⟩
theorem MP{u v:Int}(hu:gG u)(hv:gG v):gG (px t u v)/\gG (py t u v):=by
 cases t;exact⟨hu,hv⟩;exact⟨hv,hu⟩
theorem fQ{w':World}{B:Nat}{t:TypeId}{v:Value}(h:Boxed w B t v)(hb:Below w.heap.size w w'):Boxed w' B t v:=(hb.block B h.lt).trans h
theorem X5(hr:gF){l bw bu bm cap:Nat}{r:List Int}{m:Int}(gR:lz r)(Pw: -8388608<=u0/\u0<=8388608)(hm:0<=m/\m<=1000)(J:List (Int×Int)->World->Prop)(W:World)(h0:J [] W)
   (hJ:∀pre A,J pre A->aml A bw bm g cap r m/\∃v,Boxed A bu 3 v) (X6:∀pre A B,J pre A->afU bu A B->J pre B) (ma:Boxed W bu 3 (.int .i64 u0))
   (hY:∀pre x W1,J pre W1->(iE r u0 m.toNat)[pre.length]?=some x->YieldAt Fence.wide (n-1) Tryz.prog l #[.int .i64 x.1,.int .i64 x.2] W1 fun e W'=>e = .returned (.bool true)/\J (pre++[x]) W'/\W'.heap[bu]?=W1.heap[bu]?) :
   CallsIn Fence.wide n Tryz.prog 249 #[.func (.yield l) #[] #[],.pointer (some ⟨bw,0,none⟩),.pointer (some ⟨bu,0,none⟩),.pointer (some ⟨bm,0,none⟩)] W fun e W'=>(∃v,e = .returned v)/\J (iE r u0 m.toNat) W':=by
 refine callsIn_of_wp Tryz.func249 rfl trivial ?_;simp only[Tryz.ntmps249,List.size_toArray,qe,List.length_nil,Nat.reduceAdd,Nat.reduceSub,Array.replicate_succ,Array.replicate_zero,List.push_toArray,List.append_toArray,nc,ta];obtain⟨⟨KP,hw0,uO,ab3⟩,_⟩:=hJ _ _ h0;have hu1:=ma.cell;have hd:=(CF hr KP ab3 gR Pw).1;have CV:(dX r u0).2≠0:=by omega
 gi_wp2_with (first
   |(refine⟨trivial,fun hh=>(by cases hh),?_⟩;gi_at_call 250;refine(callsIn_wide.2 (CF hr KP ab3 gR Pw).2).mono ?_;rintro e w1 ⟨rfl,yL⟩;have hJ1:=X6 _ _ _ h0 (Or.inl yL);have ZI:=fQ ma yL;clear hw0 uO hu1;obtain⟨⟨wd1,hw1,xj,X7⟩,_⟩:=hJ _ _ hJ1;have hu1:=ZI.cell)
   |(refine⟨trivial,fun hh=>(by cases hh),?_⟩;gi_at_call 251;refine(callsIn_wide.2 (Ah hr wd1 X7 gR Pw).2).mono ?_;rintro e w2 ⟨rfl,wh⟩;have hJ2:=X6 _ _ _ hJ1 (Or.inl wh);have ZJ:=fQ ZI wh;clear hw1 xj hu1;obtain⟨⟨wd2,hw2,IZ,S9⟩,_⟩:=hJ _ _ hJ2;have hu2:=ZJ.cell;have Vo:=S9.int 3 rfl;have uP:=S9.int 1 rfl))
 have Vp:Tryz.prog.follows .mixedOrders=true:=by kernel_rfl
 gi_region
 all_goals gi_wp2
 gi_loopw [7,8,42] (fun v t i wr=>∃k:Nat,k<=m.toNat/\v = .int .i64 (jK r u0 k).2.1/\t = .int .i64 (jK r u0 k).2.2/\i = .int .i64 (k:Int)/\J (iE r u0 k) wr/\Boxed wr bu 3 (.int .i64 (jK r u0 k).1)) (fun _ _ i _=>m.toNat-(intOf i).toNat)
 case atStart=>exact⟨0,Nat.zero_le _,rfl,rfl,rfl,X6 _ _ _ hJ2 (Or.inl ((Below.refl _ _).drew)),ZJ⟩
 case round=>
   obtain⟨k,hk,rfl,rfl,rfl,hJr,hxr⟩:=hrel;clear hJ1 hJ2 ZI ZJ yL wh hw2 IZ X7 S9 wd1 wd2 uP Vo hu2 ma h0 KP ab3;obtain⟨⟨wdr,KN,hmr,amm⟩,_⟩:=hJ _ _ hJr;have hur:=hxr.cell;rcases qK k m.toNat with cu|ng
   . have Ny:(k:Int)<m:=by omega
     obtain⟨fn,tmps,assign,body,hy,hR⟩:=hY (iE r u0 k) ((jK r u0 k).1,(jK r u0 k).2.1) wr hJr (by simp[iE,cu]);dsimp only at hy
     gi_wp2
     refine⟨fun hh=>(by cases hh),?_⟩;refine hR.mono ?_;clear hR hy hur KN hmr amm wdr;rintro e W3 ⟨rfl,hJ3,hbu⟩;have hx3:Boxed W3 bu 3 (.int .i64 (jK r u0 k).1):=hbu.trans hxr;clear hbu hxr hJr;have ab4:=X6 _ _ _ hJ3 (Or.inl ((Below.refl _ _).drew));obtain⟨⟨wd3,hw3,_,afV⟩,_⟩:=hJ _ _ ab4;have hu3:=hx3.cell;have hf3:=hx3.frozen;have amn:W3.cell? ⟨bw,0,none⟩=some (.pointer (some ⟨g,0,none⟩)):=hw3
     gi_wp2
     gi_region_with_o (refine⟨trivial,fun hh=>(by cases hh),?_⟩;gi_at_call 211;refine(callsIn_wide.2 (vn hr wd3 afV gR).2).mono ?_;rintro e w4 ⟨rfl,hb4⟩;have hJ4:=X6 _ _ _ ab4 (Or.inl hb4);have VG:=fQ (w:=W3.drew) hx3 hb4;have hu4:=VG.cell;have hf4:=VG.frozen)
     all_goals gi_wp2
     all_goals (
       generalize hW5:w4.setCell ⟨bu,0,none⟩ (.int .i64 (wrap64 ((jK r u0 k).1+fE r)))=W5;have hJ5:J (iE r u0 (k+1)) W5:=by rw[KO,<- hW5];exact X6 _ _ _ hJ4 (Or.inr ⟨_,rfl⟩)
       have hx5:Boxed W5 bu 3 (.int .i64 (wrap64 ((jK r u0 k).1+fE r))):=by rw[<- hW5];exact VG.set _
       have G1:(jK r u0 (k+1)).1=wrap64 ((jK r u0 k).1+fE r):=rfl;have NQ:(jK r u0 (k+1)).2.1=wrap64 ((jK r u0 k).2.1+wrap64 ((wrap64 (256*wrap64 (qq r 3-qq r 1))).tdiv (dX r u0).2)+wrap64 ((jK r u0 k).2.2+(wrap64 (256*wrap64 (qq r 3-qq r 1))).tmod (dX r u0).2)/(dX r u0).2):=rfl;have hs3:(jK r u0 (k+1)).2.2=wrap64 ((jK r u0 k).2.2+(wrap64 (256*wrap64 (qq r 3-qq r 1))).tmod (dX r u0).2)%(dX r u0).2:=rfl;clear hW5 hJ4 VG hu4 hf4 hb4 ab4 hJ3 hx3 hu3 hf3 hw3 amn wd3 afV;have hR0:=GL ((jK r u0 k).2.2+(wrap64 (256*wrap64 (qq r 3-qq r 1))).tmod (dX r u0).2);generalize wrap64 ((jK r u0 k).2.2+(wrap64 (256*wrap64 (qq r 3-qq r 1))).tmod (dX r u0).2)=R1 at *;generalize(jK r u0 k).2.1+wrap64 ((wrap64 (256*wrap64 (qq r 3-qq r 1))).tdiv (dX r u0).2)=V1 at *
       gi_loopw [7,8] (fun v t wr=>wr=W5/\∃j q:Int,j*(dX r u0).2=q/\v = .int .i64 (wrap64 (V1+j))/\t = .int .i64 (R1-q)/\(q=0\/0<=R1-q)/\R1-q<=R1) (fun _ t _=>(intOf t).toNat)
       case atStart=>exact⟨rfl,0,0,by rw[Int.zero_mul],by rw[Int.add_zero],by rw[Int.sub_zero],Or.inl rfl,by omega⟩
       case round=>
         obtain⟨rfl,j,q,hq,rfl,rfl,hj,hle⟩:=hrel;rcases Int.lt_or_le (R1-q) (dX r u0).2 with aao|amo
         . have hn2:¬ (dX r u0).2<=R1-q:=by omega
           gi_wp2
           gi_loopw [7,8] (fun v t wr'=>wr'=wr/\∃j q:Int,j*(dX r u0).2=q/\v = .int .i64 (wrap64 (V1+j))/\t = .int .i64 (R1-q)/\R1-q<(dX r u0).2/\-9223372036854775808<=R1-q) (fun _ t _=>(-(intOf t)).toNat)
           case atStart=>exact⟨rfl,j,q,hq,rfl,rfl,aao,by omega⟩
           case round=>
             obtain⟨rfl,j2,q2,zL,rfl,rfl,Jb,wh⟩:=hrel;rcases Int.lt_or_le (R1-q2) 0 with amp|kJ
             . have e:wrap64 (R1-q2+(dX r u0).2)=R1-q2+(dX r u0).2:=fJ (by omega) (by omega)
               gi_wp2
               go_roundw
               case rel=>exact⟨trivial,j2-1,q2-(dX r u0).2,by rw[S7,zL],int_eq (by rw[O0];congr 1;omega),int_eq (by omega),by omega,by omega⟩
               case measure=>exact O1 amp (by omega)
             . have hp3:¬ R1-q2<0:=by omega
               obtain⟨e1,e2⟩:=X3 (by omega) zL kJ Jb
               gi_wp2
               go_roundw
               case rel=>exact⟨k+1,by omega,int_eq (by rw[NQ,e1]),int_eq (by rw[hs3,e2]),int_eq (by omega),hJ5,by rw[G1];exact hx5⟩
               case measure=>exact ab2 cu
         . have hp2:0<=R1-q:=by omega
           have e:wrap64 (R1-q-(dX r u0).2)=R1-q-(dX r u0).2:=fJ (by omega) (by omega)
           gi_wp2
           go_roundw
           case rel=>exact⟨trivial,j+1,q+(dX r u0).2,by rw[up_mul,hq],int_eq (by rw[wrap_wrap];congr 1;omega),int_eq (by omega),by omega,by omega⟩
           case measure=>exact X4 amo (by omega))
   . have amV:¬ (k:Int)<m:=by omega
     gi_wp2
     go_end0
     have:k=m.toNat:=by omega
     subst this;exact⟨⟨_,rfl⟩,hJr⟩
end
section
open Go.Sx Go.RowKit Go.Shelf Go X8
variable{B:Nat}{v:Value}{W:World}{n:Nat}{t:TypeId}{cs:Array Value}{e:TypeId}{g sz:Nat}{t':TypeId}{w:World}{z:Nat×Nat}
attribute [local go_sem] Oper.semAt_some
def lA(n:Nat):Code->Bool
 |.region k _ _=>Nat.beq k n
 |.seq a _=>lA n a
 |_=>false
def behind(n:Nat):Nat->Code->Code
 |0,c=>c
 | f+1,c=>if lA n c then c else match c with
   |.seq _ b=>behind n f b
   |c=>c
noncomputable def pT:Code:=behind 23 40 (Tryz.f169.body.getD .skip)
structure LoopIn(W w0:World)(br lC bo g cap:Nat)(r:List Int)(x0 y0 x1 y1:Int)(v:Value)(rows:List (List Int)):Prop where
 KP:Wd w0
 below:Below w0.heap.size w0 W
 VA:w0.heap.size<=bo
 C0:Boxed W bo 272 v
 own:W.ownsRow w0.heap.size 276 3 v rows.length (aF [i6,i6,i6] rows)
 GM:Boxed W lC 319 (.pointer (some ⟨g,0,none⟩))
 vS:jS W g cap r
 eo:W.heap[br]?=some (.cells #[.int .i64 x0,.int .i64 y0,.int .i64 x1,.int .i64 y1] 54 (0,0))
def ab5(K:Act->World->Prop):Exit->Act->World->Prop
 |.normal,a,w=>K a w
 |_,_,_=>False
theorem pU{F:Fence}{P:Program}{c:Code}{K:Act->World->Prop}{Q:Exit->Act->World->Prop}{a:Act}(h:c.wpIn F n P (ab5 K) a w):c.wpIn F n P (Exit.then K Q) a w:=
 wpIn_mono h fun e a w hq=>by
   cases e with
   |normal=>exact hq
   |_=>exact hq.elim
theorem O2{w':World}{xs:List Value}(h:w.ownsRow B e sz v n xs)(hb:Below w.heap.size w w'):w'.ownsRow B e sz v n xs:=by
 obtain⟨hl,h|⟨g,cap,cur,e1,hg,hh,rest⟩⟩:=h;exact⟨hl,.inl h⟩;exact⟨hl,.inr ⟨g,cap,cur,e1,hg,(hb.block g (sQ.1 hh).1).trans hh,rest⟩⟩
section
variable {W W' w0:World}{br lC bo g cap:Nat}{r:List Int}{x0 y0 x1 y1:Int}{v:Value}{rows:List (List Int)}
theorem LoopIn.wd(h:LoopIn W w0 br lC bo g cap r x0 y0 x1 y1 v rows):Wd W:=CI _ _ h.KP h.below
theorem LoopIn.on(h:LoopIn W w0 br lC bo g cap r x0 y0 x1 y1 v rows)(hb:Below W.heap.size W W'):LoopIn W' w0 br lC bo g cap r x0 y0 x1 y1 v rows:=
 ⟨h.KP,h.below.trans (hb.mono h.below.size),h.VA,fQ h.C0 hb,O2 h.own hb,fQ h.GM hb,h.vS.below hb,(hb.block br (sQ.1 h.eo).1).trans h.eo⟩
theorem LoopIn.grown(h:LoopIn W w0 br lC bo g cap r x0 y0 x1 y1 v rows){row:Option Nat}(hg:W.grownBy W' row)(hn:∀k,row=some k->w0.heap.size<=k/\k≠bo/\k≠lC/\k≠g/\k≠br/\v.ownBlock≠some k):LoopIn W' w0 br lC bo g cap r x0 y0 x1 y1 v rows:=by
 refine⟨h.KP,h.below.grown hg h.below.size fun k e=>(hn k e).1,h.VA,h.C0.kept hg fun e=>(hn bo e.symm).2.1 rfl,h.own.kept hg ?_,h.GM.kept hg fun e=>(hn lC e.symm).2.2.1 rfl,h.vS.fi hg.size (hg.block g h.vS.1 fun e=>(hn g e.symm).2.2.2.1 rfl),(hg.block br (sQ.1 h.eo).1 fun e=>(hn br e.symm).2.2.2.2.1 rfl).trans h.eo⟩;rcases h.own.2 with⟨rfl,_⟩|⟨g',_,_,rfl,_⟩;exact .inl rfl;refine .inr fun e=>?_;exact(hn g' (by rw[<- e];rfl)).2.2.2.2.2 rfl
end
noncomputable def gy(t:Bool)(x0 y0 x1 y1 k0:Int)(i:Nat)(p:Int×Int):List (List Int):=
 if nH x0 y0 x1 y1 (px t p.1 p.2) (py t p.1 p.2)then [[wrap64 (k0+i),px t p.1 p.2,py t p.1 p.2]]else []
noncomputable def dO(t:Bool)(x0 y0 x1 y1 k0:Int):List (Int×Int)->List (List Int):=fun ps=>(List.range ps.length).flatMap fun i=>gy t x0 y0 x1 y1 k0 i (ps.getD i (0,0))
theorem vT(t:Bool)(x0 y0 x1 y1 k0:Int)(ps:List (Int×Int))(p:Int×Int):dO t x0 y0 x1 y1 k0 (ps++[p])=dO t x0 y0 x1 y1 k0 ps++gy t x0 y0 x1 y1 k0 ps.length p:=by
 unfold dO;rw[ff,List.length_singleton,List.range_succ,List.flatMap_append];congr 1;simp only[List.flatMap];congr 1;refine xh fun i hi=>?_;have hi:=wq.1 hi;simp only[cT,qw hi];simp
theorem S'{α β:Type}{f:α->List β}(hf:∀x,(f x).length<=1):∀l:List α,(l.flatMap f).length<=l.length:=by
 intro l;induction l with
 |nil=>simp
 | cons x l ih=>
   have:=hf x;simp only[List.flatMap_cons,ff,qe];omega
theorem IW(t:Bool)(x0 y0 x1 y1 k0:Int)(i:Nat)(p:Int×Int):(gy t x0 y0 x1 y1 k0 i p).length<=1:=by
 unfold gy;generalize nH x0 y0 x1 y1 (px t p.1 p.2) (py t p.1 p.2)=b;cases b;exact Nat.zero_le _;exact fz _
theorem yq(t:Bool)(x0 y0 x1 y1 k0:Int)(ps:List (Int×Int)):(dO t x0 y0 x1 y1 k0 ps).length<=ps.length:=by
 have:=S' (f:=fun i=>gy t x0 y0 x1 y1 k0 i (ps.getD i (0,0))) (fun i=>IW ..) (List.range ps.length);rwa[List.length_range]at this
structure LI(w0:World)(br lC bo bk n1 g cap:Nat)(r:List Int)(x0 y0 x1 y1 k0 m:Int)(rows:List (List Int))(pre:List (Int×Int))(W:World):Prop where
 lo:∃v,LoopIn W w0 br lC bo g cap r x0 y0 x1 y1 v (rows++dO (qb r 4) x0 y0 x1 y1 k0 pre)
 hk:Boxed W bk 3 (.int .i64 (wrap64 (k0+pre.length)))
 hw:Boxed W n1 319 (.pointer (some ⟨g,0,none⟩))
 hm:Boxed W (n1+1+1) 3 (.int .i64 m)
 hu:∃u,Boxed W (n1+1) 3 u
section
variable {w0 W W':World}{br lC bo bk n1 g cap:Nat}{r:List Int}{x0 y0 x1 y1 k0 m:Int}{rows:List (List Int)}{pre:List (Int×Int)}
theorem LI.on(h:LI w0 br lC bo bk n1 g cap r x0 y0 x1 y1 k0 m rows pre W)(hb:Below W.heap.size W W'):LI w0 br lC bo bk n1 g cap r x0 y0 x1 y1 k0 m rows pre W':=by
 obtain⟨⟨v,lo⟩,hk,hw,hm,⟨u,hu⟩⟩:=h;exact⟨⟨v,lo.on hb⟩,fQ hk hb,fQ hw hb,fQ hm hb,⟨u,fQ hu hb⟩⟩
theorem LI.put(h:LI w0 br lC bo bk n1 g cap r x0 y0 x1 y1 k0 m rows pre W){l:Nat}{o o':Obj}(hl:W.heap[l]?=some o)(ho:o.isCells=false)(h0:w0.heap.size<=l)(hg:g<l):LI w0 br lC bo bk n1 g cap r x0 y0 x1 y1 k0 m rows pre (W.putObj l o'):=by
 obtain⟨⟨v,lo⟩,hk,hw,hm,⟨u,hu⟩⟩:=h;have iG:=grownBy_putObj' W l o';have ne:∀ {B:Nat} {t:TypeId} {x:Value},Boxed W B t x->B≠l:=fun hb e=>by
   subst e;rw[show W.heap[_]?=_ from hb]at hl;cases hl;cases ho
 have ne':∀ {B:Nat} {t:TypeId} {x:Value},Boxed W B t x->some B≠some l:=fun hb e=>ne hb (by cases e;rfl);refine⟨⟨v,lo.grown iG fun k e=>?_⟩,hk.kept iG (ne' hk),hw.kept iG (ne' hw),hm.kept iG (ne' hm),⟨u,hu.kept iG (ne' hu)⟩⟩;cases e;refine⟨h0,fun e=>ne lo.C0 e.symm,fun e=>ne lo.GM e.symm,by omega,fun e=>?_,fun e=>?_⟩;subst e;rw[lo.eo]at hl;cases hl;cases ho;rcases lo.own.2 with⟨rfl,_⟩|⟨g',_,cur,rfl,_,hh,_⟩;cases e;cases e;rw[hh]at hl;cases hl;cases ho
theorem LI.amq(h:LI w0 br lC bo bk n1 g cap r x0 y0 x1 y1 k0 m rows pre W)(u':Value)(h0:w0.heap.size<=n1)(hn:n1+1≠bo/\n1+1≠lC/\n1+1≠g/\n1+1≠br/\n1+1≠bk):LI w0 br lC bo bk n1 g cap r x0 y0 x1 y1 k0 m rows pre (W.setCell ⟨n1+1,0,none⟩ u'):=by
 obtain⟨⟨v,lo⟩,hk,hw,hm,⟨u,hu⟩⟩:=h;have iG:=grownBy_setCell' W (n1+1) u';refine⟨⟨v,lo.grown iG fun k e=>?_⟩,hk.other (Ne.symm hn.2.2.2.2) _,hw.other (by omega) _,hm.other (by omega) _,⟨u',hu.set _⟩⟩;cases e;exact⟨by omega,hn.1,hn.2.1,hn.2.2.1,hn.2.2.2.1,fun e=>hu.not_row (by decide) lo.own e.symm⟩
end
theorem mh{xs:List Value}(h:W.heap[g]?=some (.cells cs t z))(hte:t≠e)(hr:W.ownsRow B e sz v n xs):some g≠v.ownBlock:=by
 rcases hr.2 with⟨rfl,_⟩|⟨g',cap,cur,rfl,_,E9,_⟩;simp[Value.ownBlock];intro e';obtain rfl:g=g':=by simpa[Value.ownBlock]using e'
 rw[h]at E9;cases E9;exact hte rfl
theorem mD{B':Nat}{v':Value}(h:Boxed W B t v)(h':Boxed W B' t' v')(ht:t≠t'):B≠B':=fun e=>by
 subst e;have:=(show W.heap[B]?=_ from h).symm.trans h';simp at this;exact ht this.2
theorem eO(h:Boxed W B t v)(h':W.heap[g]?=some (.cells cs t' z))(ht:t≠t'):B≠g:=fun e=>by
 subst e;have:=(show W.heap[B]?=_ from h).symm.trans h';simp at this;exact ht this.2.1
theorem IX(ks:List CK):∀(a b:List (List Int)),aF ks (a++b)=aF ks a++aF ks b:=by
 intro a;induction a with
 |nil=>intro b;rfl
 |cons x a ih=>intro b;simp[aF,ih]
theorem Ai(W:World)(a b c:Value)(t:TypeId)(j:Nat)(u:Value)(h: [a,b,c][j]?=some u):(W.alloc (.cells #[a,b,c] t)).cell? ((⟨W.heap.size,0,none⟩:Addr).add j)=some u:=by
 have hn:=World.alloc_heap_new W (.cells #[a,b,c] t)
 match j,h with
 | 0,h=>
   cases h;rw[show(⟨W.heap.size,0,none⟩:Addr).add 0=⟨W.heap.size,0,none⟩from rfl];unfold World.cell?;dsimp only;rw[hn];rfl
 | 1,h=>
   cases h;rw[show(⟨W.heap.size,0,none⟩:Addr).add 1=⟨W.heap.size,1,none⟩from rfl];unfold World.cell?;dsimp only;rw[hn];rfl
 | 2,h=>
   cases h;rw[show(⟨W.heap.size,0,none⟩:Addr).add 2=⟨W.heap.size,2,none⟩from rfl];unfold World.cell?;dsimp only;rw[hn];rfl
 |j+3,h=>simp at h
section
variable {w0 w2 w3:World}{br lC bo bk n1 g cap:Nat}{r:List Int}{x0 y0 x1 y1 k0 m:Int}{rows:List (List Int)}{pre:List (Int×Int)}{v2 v3 kv ub:Value}{EO:List (List Int)}{tmp:Obj}{news:List Value}
theorem AZ(iV:LoopIn w2 w0 br lC bo g cap r x0 y0 x1 y1 v2 EO)(hk:Boxed w2 bk 3 kv)(rm:(w2.alloc tmp).grownBy w3 v2.ownBlock):Boxed (w3.setCell ⟨bo,0,none⟩ v3) bk 3 kv:=
 ((hk.alloc tmp).kept rm (hk.not_row (by decide) iV.own)).other (mD hk iV.C0 (by decide)) _
theorem LI.hit(p:Int×Int)(iV:LoopIn w2 w0 br lC bo g cap r x0 y0 x1 y1 v2 (rows++dO (qb r 4) x0 y0 x1 y1 k0 pre))(hk:Boxed w2 bk 3 (.int .i64 (wrap64 (k0+pre.length))))(hw:Boxed w2 n1 319 (.pointer (some ⟨g,0,none⟩)))(hm:Boxed w2 (n1+1+1) 3 (.int .i64 m))(hu:Boxed w2 (n1+1) 3 ub)
   (hB:w0.heap.size<=bk) (hbn:bk<n1) (hp:nH x0 y0 x1 y1 (px (qb r 4) p.1 p.2) (py (qb r 4) p.1 p.2)=true)
   (rm:(w2.alloc tmp).grownBy w3 v2.ownBlock) (bN:w3.ownsRow w0.heap.size 276 3 v3 ((rows++dO (qb r 4) x0 y0 x1 y1 k0 pre).length+1) (aF [i6,i6,i6] (rows++dO (qb r 4) x0 y0 x1 y1 k0 pre)++[.int .i64 (wrap64 (k0+pre.length)),.int .i64 (px (qb r 4) p.1 p.2),.int .i64 (py (qb r 4) p.1 p.2)])) (B:Nat) :
   X8.MQ B w2 ((w3.setCell ⟨bo,0,none⟩ v3).setCell ⟨bk,0,none⟩ (.int .i64 (wrap64 (wrap64 (k0+pre.length)+1))))/\((w3.setCell ⟨bo,0,none⟩ v3).setCell ⟨bk,0,none⟩ (.int .i64 (wrap64 (wrap64 (k0+pre.length)+1)))).heap[n1+1]?=w2.heap[n1+1]?/\
   LI w0 br lC bo bk n1 g cap r x0 y0 x1 y1 k0 m rows (pre++[p]) ((w3.setCell ⟨bo,0,none⟩ v3).setCell ⟨bk,0,none⟩ (.int .i64 (wrap64 (wrap64 (k0+pre.length)+1)))):=by
 have wg:=iV.below.size;obtain⟨VC,YJ,VE,uX,wh⟩:=iV.C0.appended (by decide) iV.own wg iV.VA bN rm;obtain⟨csg,zg,oU⟩:=iV.vS.2.2;have kb:=AZ (v3:=v3) iV hk rm;have kw:Boxed (w3.setCell ⟨bo,0,none⟩ v3) n1 319 _:=((hw.alloc tmp).kept rm (hw.not_row (by decide) iV.own)).other (mD hw iV.C0 (by decide)) _;have km:=AZ (v3:=v3) iV hm rm;have ku:=AZ (v3:=v3) iV hu rm;have kwy:Boxed (w3.setCell ⟨bo,0,none⟩ v3) lC 319 _:=((iV.GM.alloc tmp).kept rm (iV.GM.not_row (by decide) iV.own)).other (mD iV.GM iV.C0 (by decide)) _;have GU:∀k,k<w2.heap.size->some k≠v2.ownBlock->k≠bo->(w3.setCell ⟨bo,0,none⟩ v3).heap[k]?=w2.heap[k]? :=fun k hk h1 h2=>
   (Below.heap_setCell _ _ _ k h2).trans ((rm.block k (by simp;omega) h1).trans (Below.heap_alloc _ _ _ hk))
 have sS:=GU br (sQ.1 iV.eo).1 (mh iV.eo (by decide) iV.own) (Ne.symm (eO iV.C0 iV.eo (by decide)));have hgg:=GU g iV.vS.1 (mh oU (by decide) iV.own) (Ne.symm (eO iV.C0 oU (by decide)));have hbl:Below w0.heap.size w0 (w3.setCell ⟨bo,0,none⟩ v3):=iV.below.trans wh;have hO:rows++dO (qb r 4) x0 y0 x1 y1 k0 (pre++[p])=(rows++dO (qb r 4) x0 y0 x1 y1 k0 pre)++[[wrap64 (k0+pre.length),px (qb r 4) p.1 p.2,py (qb r 4) p.1 p.2]]:=by
   rw[vT,<- V0];unfold gy;rw[if_pos hp]
 have lo3:LoopIn (w3.setCell ⟨bo,0,none⟩ v3) w0 br lC bo g cap r x0 y0 x1 y1 v3 (rows++dO (qb r 4) x0 y0 x1 y1 k0 (pre++[p])):=by
   refine⟨iV.KP,hbl,iV.VA,YJ,?_,kwy,iV.vS.fi uX.size hgg,sS.trans iV.eo⟩;rw[hO,IX,ff];exact VE
 have hg4:=grownBy_setCell' (w3.setCell ⟨bo,0,none⟩ v3) bk (.int .i64 (wrap64 (wrap64 (k0+pre.length)+1)));have lo4:=lo3.grown hg4 fun k e=>by
   cases e;refine⟨hB,mD kb YJ (by decide),mD kb kwy (by decide),eO kb (hgg.trans oU) (by decide),eO kb (sS.trans iV.eo) (by decide),fun e=>kb.not_row (by decide) VE e.symm⟩
 refine⟨fun k o _ ho hc=>(KeepsOthers.setCell _ _ _).same k o (uX.same k o ho hc) hc,?_,⟨v3,lo4⟩,?_,kw.other (by omega) _,km.other (by omega) _,⟨ub,ku.other (by omega) _⟩⟩;rw[Below.heap_setCell _ _ _ _ (by show n1+1≠bk;omega)];exact(show _=_ from ku).trans (show _=_ from hu).symm;have:=kb.set (.int .i64 (wrap64 (wrap64 (k0+pre.length)+1)));rw[ff,List.length_singleton];have e:wrap64 (k0+((pre.length+1:Nat):Int))=wrap64 (wrap64 (k0+pre.length)+1):=by rw[wrap_wrap];congr 1;omega
 rw[e];exact this
theorem LI.amr(p:Int×Int)(h:LI w0 br lC bo bk n1 g cap r x0 y0 x1 y1 k0 m rows pre w2)(hB:w0.heap.size<=bk)(hbn:bk<n1)(hp:nH x0 y0 x1 y1 (px (qb r 4) p.1 p.2) (py (qb r 4) p.1 p.2)=false)(B:Nat) :
   X8.MQ B w2 (w2.setCell ⟨bk,0,none⟩ (.int .i64 (wrap64 (wrap64 (k0+pre.length)+1))))/\(w2.setCell ⟨bk,0,none⟩ (.int .i64 (wrap64 (wrap64 (k0+pre.length)+1)))).heap[n1+1]?=w2.heap[n1+1]?/\
   LI w0 br lC bo bk n1 g cap r x0 y0 x1 y1 k0 m rows (pre++[p]) (w2.setCell ⟨bk,0,none⟩ (.int .i64 (wrap64 (wrap64 (k0+pre.length)+1)))):=by
 obtain⟨⟨v2,iV⟩,hk,hw,hm,⟨ub,hu⟩⟩:=h;obtain⟨csg,zg,oU⟩:=iV.vS.2.2;have hg4:=grownBy_setCell' w2 bk (.int .i64 (wrap64 (wrap64 (k0+pre.length)+1)));have lo4:=iV.grown hg4 fun k e=>by
   cases e;exact⟨hB,mD hk iV.C0 (by decide),mD hk iV.GM (by decide),eO hk oU (by decide),eO hk iV.eo (by decide),fun e=>hk.not_row (by decide) iV.own e.symm⟩
 have hO:dO (qb r 4) x0 y0 x1 y1 k0 (pre++[p])=dO (qb r 4) x0 y0 x1 y1 k0 pre:=by
   rw[vT];unfold gy;rw[hp];exact qH _
 refine⟨fun k o _ ho hc=>(KeepsOthers.setCell _ _ _).same k o ho hc,Below.heap_setCell _ _ _ _ (by show n1+1≠bk;omega),⟨v2,by rw[hO];exact lo4⟩,?_,hw.other (by omega) _,hm.other (by omega) _,⟨ub,hu.other (by omega) _⟩⟩;have:=hk.set (.int .i64 (wrap64 (wrap64 (k0+pre.length)+1)));rw[ff,List.length_singleton];have e:wrap64 (k0+((pre.length+1:Nat):Int))=wrap64 (wrap64 (k0+pre.length)+1):=by rw[wrap_wrap];congr 1;omega
 rw[e];exact this
end
end
section
open Go.Sx Go.RowKit Go.Shelf Go X8
attribute [local go_sem] Oper.semAt_some
def CJ:Code->Code×Code
 |.seq _ (.seq (.seq _ b) c)=>(b,c)
 |c=>(c,c)
noncomputable def GN:Code:=(CJ pT).1
noncomputable def KQ:Code:=(CJ pT).2
theorem MR:(Tryz.prog.info? 276).map (fun i=>(i.zero,i.size,i.bytes))=some (some (.agg #[.int .i64 0,.int .i64 0,.int .i64 0]),3,24):=by kernel_rfl
noncomputable abbrev A0(w0:World)(rows:List (List Int)):Exit->Act->World->Prop:=bodyPostM Fence.wide 5 Tryz.prog Tryz.f169 fun e W'=>∃v',e = .returned v'/\Below w0.heap.size w0 W'/\W'.ownsRow w0.heap.size 276 3 v' rows.length (aF [i6,i6,i6] rows)
set_option maxHeartbeats 4000000 in
theorem X9(hr:gF){W W1 w0:World}{br lC bo bk g cap:Nat}{r:List Int}{x0 y0 x1 y1:Int}{v:Value}{rows:List (List Int)}(h:LoopIn W w0 br lC bo g cap r x0 y0 x1 y1 v rows)(gR:lz r)
   {k0 u0 m:Int} (YF:Boxed W bk 3 (.int .i64 k0)) (hwk:wrap64 k0=k0) (afW:w0.heap.size<=bk) (amW:bk≠g/\bo≠g) (Pw: -8388608<=u0/\u0<=8388608) (hm:0<=m/\m<=1000) (hlen:rows.length<=1000) (vX:gG x0) (K8:gG y0) (H3:gG x1) (X':gG y1)
   (yL:Below W.heap.size W W1) {K:Act->World->Prop} (hK:∀a w,KQ.wpIn Fence.wide 5 Tryz.prog (A0 w0 (rows++dO (qb r 4) x0 y0 x1 y1 k0 (iE r u0 m.toNat))) a w->K a w) {t0 t1 t2 t3 t4 t6 t9 t10 t11 t12 t13 t14 t15 t16 t18 t19 t20 t21 t22 t23 t24 t25 t26 t27 t28 t29 t30 t31 t32 t33 t34 t35 t36 t37 t38 t39 t40 t41 t42 t43 t44 t45 t46 t47 t48 t49 t50 t51 t52 t53 t54 t55 t56 t57 t58 t59 t60 t61 t62 t63 t64 t65 t66 t67 t68 t69 t70 t71 t72 t73 t74 t75 t76 t77 t78 t79 t80 t81 t82 t83 t84 t85 t86 t87 t88 t89 t90 t91 t92 t93 t94 t95 t96 t97 t98 t99 t100 t101 t102 t103 t104 t105 t106 t107 t108 t109 t110 t111 t112 t113 t114 t115 t116 t117 t118 t119 t120 t121 t122 t123 t124 t125 t126 t127 t128 t129 t130 t131 t132 t133 t134 t135 t137 t138 t139 t140 t141 t142 t143 t144 t145 t146 t147 t148 t149 t150 t151 t152 t153 t154 t155 t156 t157 t158 t159:Value} :
   GN.wpIn Fence.wide 5 Tryz.prog (Exit.then K (A0 w0 (rows++dO (qb r 4) x0 y0 x1 y1 k0 (iE r u0 m.toNat))))
     {tmps:=#[t0,t1,t2,t3,t4,.pointer (some ⟨br,0,none⟩),t6,.pointer (some ⟨lC,0,none⟩),.pointer (some ⟨bo,0,none⟩),t9,t10,t11,t12,t13,t14,t15,t16,.pointer (some ⟨bk,0,none⟩),t18,t19,t20,t21,t22,t23,t24,t25,t26,t27,t28,t29,t30,t31,t32,t33,t34,t35,t36,t37,t38,t39,t40,t41,t42,t43,t44,t45,t46,t47,t48,t49,t50,t51,t52,t53,t54,t55,t56,t57,t58,t59,t60,t61,t62,t63,t64,t65,t66,t67,t68,t69,t70,t71,t72,t73,t74,t75,t76,t77,t78,t79,t80,t81,t82,t83,t84,t85,t86,t87,t88,t89,t90,t91,t92,t93,t94,t95,t96,t97,t98,t99,t100,t101,t102,t103,t104,t105,t106,t107,t108,t109,t110,t111,t112,t113,t114,t115,t116,t117,t118,t119,t120,t121,t122,t123,t124,t125,t126,t127,t128,t129,t130,t131,t132,t133,t134,t135,.func (.func 249) #[] #[.pointer (some ⟨W1.heap.size,0,none⟩),.pointer (some ⟨W1.heap.size+1,0,none⟩),.pointer (some ⟨W1.heap.size+1+1,0,none⟩)],t137,t138,t139,t140,t141,t142,t143,t144,t145,t146,t147,t148,t149,t150,t151,t152,t153,t154,t155,t156,t157,t158,t159],defers:=[] } (((W1.alloc (.cells #[.pointer (some ⟨g,0,none⟩)] 319)).alloc (.cells #[.int .i64 u0] 3)).alloc (.cells #[.int .i64 m] 3)):=by
 simp only[KQ,CJ,pT,behind,lA,Tryz.f169,Option.getD,Nat.beq,jG,if_false,if_true]at hK;simp only[GN,CJ,pT,behind,lA,Tryz.f169,Option.getD,Nat.beq,jG,if_false,if_true];obtain⟨i0,hi,Pe,Zz,hz2⟩:=info_parts MR;have wg:(((W1.alloc (.cells #[.pointer (some ⟨g,0,none⟩)] 319)).alloc (.cells #[.int .i64 u0] 3)).alloc (.cells #[.int .i64 m] 3)).heap.size=W1.heap.size+3:=by simp
 have ams:Boxed (((W1.alloc (.cells #[.pointer (some ⟨g,0,none⟩)] 319)).alloc (.cells #[.int .i64 u0] 3)).alloc (.cells #[.int .i64 m] 3)) W1.heap.size 319 (.pointer (some ⟨g,0,none⟩)):=((Boxed.new W1 319 (.pointer (some ⟨g,0,none⟩))).alloc _).alloc _;have afX:Boxed (((W1.alloc (.cells #[.pointer (some ⟨g,0,none⟩)] 319)).alloc (.cells #[.int .i64 u0] 3)).alloc (.cells #[.int .i64 m] 3)) (W1.heap.size+1) 3 (.int .i64 u0):=by
   have:=(Boxed.new (W1.alloc (.cells #[.pointer (some ⟨g,0,none⟩)] 319)) 3 (.int .i64 u0)).alloc (.cells #[.int .i64 m] 3);rwa[World.size_alloc]at this
 have amt:Boxed (((W1.alloc (.cells #[.pointer (some ⟨g,0,none⟩)] 319)).alloc (.cells #[.int .i64 u0] 3)).alloc (.cells #[.int .i64 m] 3)) (W1.heap.size+1+1) 3 (.int .i64 m):=by
   have:=Boxed.new ((W1.alloc (.cells #[.pointer (some ⟨g,0,none⟩)] 319)).alloc (.cells #[.int .i64 u0] 3)) 3 (.int .i64 m);rwa[World.size_alloc,World.size_alloc]at this
 have wh:Below W.heap.size W (((W1.alloc (.cells #[.pointer (some ⟨g,0,none⟩)] 319)).alloc (.cells #[.int .i64 u0] 3)).alloc (.cells #[.int .i64 m] 3)):=((yL.alloc yL.size _).alloc (by have:=yL.size;simp;omega) _).alloc (by have:=yL.size;simp;omega) _;have hle:=yL.size;have hB0:=h.below.size;have l1:=YF.lt;have l2:=h.C0.lt;have l3:=h.GM.lt;have l4:=h.vS.1;have l5:=(sQ.1 h.eo).1;have Vx:LI w0 br lC bo bk W1.heap.size g cap r x0 y0 x1 y1 k0 m rows [] (((W1.alloc (.cells #[.pointer (some ⟨g,0,none⟩)] 319)).alloc (.cells #[.int .i64 u0] 3)).alloc (.cells #[.int .i64 m] 3)):=
   ⟨⟨v,by simpa[dO]using h.on wh⟩,by simpa[hwk]using fQ YF wh,ams,amt,⟨_,afX⟩⟩
 gi_wp2
 refine O3 (n:=5) (gf:=249) (lb:=#[.pointer (some ⟨W1.heap.size,0,none⟩),.pointer (some ⟨W1.heap.size+1,0,none⟩),.pointer (some ⟨W1.heap.size+1+1,0,none⟩)]) rfl (enters_of Tryz.func249 (by kernel_rfl) rfl)
   (Ta:=fun p:Int×Int=>#[.int .i64 p.1,.int .i64 p.2]) (fun _=>rfl) (xs:=iE r u0 m.toNat)
   (LI w0 br lC bo bk W1.heap.size g cap r x0 y0 x1 y1 k0 m rows) (afU (W1.heap.size+1)) (fun A B=>B.heap[W1.heap.size+1]?=A.heap[W1.heap.size+1]?)
   (fun pre A l o o' hI h0 hl ho=>hI.put hl ho (by rw[wg]at h0;omega) (by rw[wg]at h0;omega))
   (fun pre A o hI=>hI.on ((Below.refl _ _).alloc (fz _) _))
   (fun pre A B hI hs=>?stable) (fun A B hs=>?stays) (fun h1 h2=>h2.trans h1) (fun A l o h0=>World.putObj_heap_other (by rw[wg]at h0;omega)) Vx
   (fun p=>{tmps:=#[t0,t1,t2,t3,t4,.pointer (some ⟨br,0,none⟩),t6,.pointer (some ⟨lC,0,none⟩),.pointer (some ⟨bo,0,none⟩),t9,t10,t11,t12,t13,t14,t15,t16,.pointer (some ⟨bk,0,none⟩),.int .i64 p.1,.int .i64 p.2,t20,t21,t22,t23,t24,t25,t26,t27,t28,t29,t30,t31,t32,t33,t34,t35,t36,t37,t38,t39,t40,t41,t42,t43,t44,t45,t46,t47,t48,t49,t50,t51,t52,t53,t54,t55,t56,t57,t58,t59,t60,t61,t62,t63,t64,t65,t66,t67,t68,t69,t70,t71,t72,t73,t74,t75,t76,t77,t78,t79,t80,t81,t82,t83,t84,t85,t86,t87,t88,t89,t90,t91,t92,t93,t94,t95,t96,t97,t98,t99,t100,t101,t102,t103,t104,t105,t106,t107,t108,t109,t110,t111,t112,t113,t114,t115,t116,t117,t118,t119,t120,t121,t122,t123,t124,t125,t126,t127,t128,t129,t130,t131,t132,t133,t134,t135,.func (.func 249) #[] #[.pointer (some ⟨W1.heap.size,0,none⟩),.pointer (some ⟨W1.heap.size+1,0,none⟩),.pointer (some ⟨W1.heap.size+1+1,0,none⟩)],.int .i64 p.1,.int .i64 p.2,t139,t140,t141,t142,t143,t144,t145,t146,t147,t148,t149,t150,t151,t152,t153,t154,t155,t156,t157,t158,t159],defers:=[] }) ?iter ?assign ?body ?done (by omega)
 case stable=>
   rcases hs with hs|⟨u,rfl⟩;exact hI.on hs;exact hI.amq u (by omega) ⟨by omega,by omega,by omega,by omega,by omega⟩
 case stays=>
   intro k o hk ho hc;rcases hs with hs|⟨u,rfl⟩;exact(hs.block k (sQ.1 ho).1).trans ho;exact(KeepsOthers.setCell A _ u).same k o ho hc
 case iter=>
   intro l J A MS h0 hJI hJS hY;have hAu:Boxed A (W1.heap.size+1) 3 (.int .i64 u0):=(MS _ (by rw[wg];omega)).trans afX;exact X5 hr gR Pw hm J A h0 (fun pre B hB=>by
     obtain⟨⟨v',lo⟩,_,hw,hm,hu⟩:=hJI pre B hB;exact⟨⟨lo.wd,hw.cell,hm.cell,lo.vS⟩,hu⟩) hJS hAu hY
 case assign=>
   intro l p A K hK
   gi_wp2
   exact hK
 case body=>
   intro l pre p A hI cu;have hac:=(Ah hr h.wd h.vS gR Pw).1;obtain⟨Rx,hp2⟩:=S8 Pw ⟨by omega,by omega⟩ cu;obtain⟨Mk,hpy⟩:=MP (t:=qb r 4) Rx hp2;obtain⟨⟨v',lo⟩,hkb,hwb,hmb,⟨ub,hub⟩⟩:=id hI;have I3:(rows++dO (qb r 4) x0 y0 x1 y1 k0 pre).length<=2000:=by
     have h1:=yq (qb r 4) x0 y0 x1 y1 k0 pre;have h2:=(dh.1 cu).1;have h3:(iE r u0 m.toNat).length=m.toNat:=by simp[iE]
     rw[ff];omega
   have abb:(4000:Nat)<=maxLen:=by decide
   have hwc:=lo.GM.cell;have h4:=lo.vS.bool 4 rfl;have c0:A.cell? ⟨br,0,none⟩=some (.int .i64 x0):=by simp[World.cell?,lo.eo]
   have c1:A.cell? ⟨br,1,none⟩=some (.int .i64 y0):=by simp[World.cell?,lo.eo]
   have c2:A.cell? ⟨br,2,none⟩=some (.int .i64 x1):=by simp[World.cell?,lo.eo]
   have c3:A.cell? ⟨br,3,none⟩=some (.int .i64 y1):=by simp[World.cell?,lo.eo]
   gi_wp2_with (first
     |(refine⟨trivial,?_⟩;gi_at_call 209;refine(CallsIn.inRound l (callsIn_wide.2 (CH h4 _ _))).mono ?_;rintro e w1 ⟨rfl,rfl⟩)
     |(refine⟨trivial,?_⟩;gi_at_call 168;refine(CallsIn.inRound l (callsIn_wide.2 (IV hr lo.wd vX K8 H3 X' Mk hpy).2)).mono ?_;rintro e w2 ⟨rfl,hbw⟩;have YE:=hI.on hbw;clear hwc h4 c0 c1 c2 c3;obtain⟨⟨v2,iV⟩,Ya,amu,amv,⟨ub2,amw⟩⟩:=id YE;have amX:=iV.C0.cell;have amY:=Ya.cell;have amZ:=Ya.frozen)
     |(gi_at_builtin;refine wpListIn_append_own _ rfl _ _ 272 rfl w0.heap.size 276 i0 (.agg #[.int .i64 0,.int .i64 0,.int .i64 0]) 3 24 Tryz.underlying272 hi Pe Zz hz2 rfl (by decide) _ _ _ rfl (iV.own.alloc _) ⟨w2.heap.size,0,none⟩ 1 1 [.int .i64 (wrap64 (k0+pre.length)),.int .i64 (px (qb r 4) p.1 p.2),.int .i64 (py (qb r 4) p.1 p.2)] rfl rfl (Ai _ _ _ _ _) (by simp[Value.oneCell']) (by omega) (by omega) (by have:=iV.below.size;simp;omega) ?_;intro v3 w3 CL zq _;obtain⟨g',qB,rfl⟩:=ownsRow_succ CL;obtain⟨VC,YJ,VE,uX,amx⟩:=iV.C0.appended (by decide) iV.own iV.below.size iV.VA CL zq;have uP:=VC.cell;have hf1:=VC.frozen;have ab6:=AZ (v3:=.slice (some ⟨g',0,none⟩) ((rows++dO (qb r 4) x0 y0 x1 y1 k0 pre).length+1) qB) iV Ya zq;rw[ff]at ab6;have am0:=ab6.cell;have am1:=ab6.frozen))
   obtain⟨a1,a2,a3⟩:=LI.hit p iV Ya amu amv amw afW (by omega) (by assumption) zq CL (W1.heap.size+3);rw[ff]at a1 a2 a3;exact⟨fun k o hk ho hc=>a1 k o hk ((hbw.block k (sQ.1 ho).1).trans ho) hc,a2.trans (hbw.block _ hub.lt),a3⟩;obtain⟨a1,a2,a3⟩:=LI.amr p YE afW (by omega) (by assumption) (W1.heap.size+3);exact⟨fun k o hk ho hc=>a1 k o hk ((hbw.block k (sQ.1 ho).1).trans ho) hc,a2.trans (hbw.block _ hub.lt),a3⟩
 case done=>
   intro D A hD hI hDf;obtain⟨⟨v',lo⟩,hkb,hwb,hmb,⟨ub,hub⟩⟩:=hI;refine hK _ _ ?_;have hoc:=lo.C0.cell
   gi_wp2
   refine⟨by simp,.inl ⟨_,_,rfl,run_takeDeferred hDf,?_⟩⟩;exact⟨_,results_tmp rfl _ _ _,v',rfl,lo.below.trans (belowK_b (w:=w0) (fz _) A D _ _ (by rw[wg]at hD;omega) hDf rfl rfl),ownsRow_putObj lo.own _ hDf rfl⟩
end
end Go.Proofs.YtohebioanhliiaaGreatDoor.av

/- walk.Within: small functions, its iterator. -/
import Derived.Test.YtohebioanhliiaaGreatDoorFC1
import Derived.Test.YtohebioanhliiaaGreatDoorFG1
import Derived.RangeFuncNested
import Derived.RangeFuncBound
import Derived.Shelf.RegionOpen
import Derived.OwnWalkIn
import Derived.LoopNIn
import Derived.Sort.CutIn
set_option maxRecDepth 100000
set_option linter.unusedVariables false
set_option maxRecDepth 20000
set_option linter.unusedSimpArgs false
namespace Go.Proofs.YtohebioanhliiaaGreatDoor.aN
section
open Go.Sx Go
def kh(k:Nat):Cn:=if Nat.beq k 168 then {kc 168 with post:=[.or (.not (.v R0)) (.and (.and (.le (.v 0) (.v 4)) (.lt (.v 4) (.v 2))) (.and (.le (.v 1) (.v 5)) (.lt (.v 5) (.v 3))))] }else kc k
abbrev small:List Nat:=[65,168,210,211,247,250,251,284,268,207]
noncomputable abbrev CR(i k:Nat):Bool:=P5 (mN PP lK) kh an (small.take i) k
theorem y65:CR 0 65=true:=by kernel_rfl
theorem amB:CR 1 168=true:=by kernel_rfl
theorem amC:CR 2 210=true:=by kernel_rfl
theorem amD:CR 3 211=true:=by kernel_rfl
theorem amE:CR 4 247=true:=by kernel_rfl
theorem amF:CR 5 250=true:=by kernel_rfl
theorem amG:CR 6 251=true:=by kernel_rfl
theorem amH:CR 7 284=true:=by kernel_rfl
theorem amI:CR 8 268=true:=by kernel_rfl
theorem amJ:CR 9 207=true:=by kernel_rfl
theorem ND(X:bY):nj (TT PP) X kh small:=by
 have h0:nj (TT PP) X kh (small.take 0):=fun j hj=>by simp at hj
 have h1:=h0.next (k:=65) rfl (aC aB h0 y65)
 have h2:=h1.next (k:=168) rfl (aC aB h1 amB)
 have h3:=h2.next (k:=210) rfl (aC aB h2 amC)
 have h4:=h3.next (k:=211) rfl (aC aB h3 amD)
 have h5:=h4.next (k:=247) rfl (aC aB h4 amE)
 have h6:=h5.next (k:=250) rfl (aC aB h5 amF)
 have h7:=h6.next (k:=251) rfl (aC aB h6 amG)
 have h8:=h7.next (k:=284) rfl (aC aB h7 amH)
 have h9:=h8.next (k:=268) rfl (aC aB h8 amI)
 have Yx:=h9.next (k:=207) rfl (aC aB h9 amJ)
 exact Yx
end
section
open Go.Sx Go.RowKit Go
variable{w:World}{ds:List DV}{g k:Nat}{w':World}
abbrev X0:bY:=XX fun _=>none
open Classical in
noncomputable def gv(k:Nat)(ds:List DV):List DV:=if h:∃rs,cX (TT PP) X0 k ds rs then Classical.choose h else []
theorem tY{rs:List DV}(h:cX (TT PP) X0 k ds rs):gv k ds=rs:=by
 have hx:∃rs,cX (TT PP) X0 k ds rs:=⟨rs,h⟩;unfold gv;rw[dif_pos hx];exact(Classical.choose_spec hx).Ut h
theorem pW(hk:k∈small)(hp:(kh k).il ds):cX (TT PP) X0 k ds (gv k ds)/\(kh k).iK ds (gv k ds):=by
 obtain⟨rs,h1,h2⟩:=ND X0 k hk ds hp;rw[tY h1];exact⟨h1,h2⟩
theorem ky(hr:gX){s:bX}(hk:k∈small){r:oe}(hl:lV k lK=some r)(hf:r.f=k)(hs:lD k=some s)(hc:s.cons=0){vs:List Value}(hw:Wd w)(ha:EF w s.args vs ds)(hp:(kh k).il ds) :
   Calls PP k vs.toArray w fun e w'=>∃b9,e = .returned (packed (cw s.res b9))/\Below w.heap.size w w'/\fitAll (mK w' w.heap.size) (bP s.res) b9 (gv k ds):=by
 have hT:TT PP k=some ⟨r.f,im PP r,r.sub⟩:=by
   show mN PP lK k=_;simp only[mN,hl]
 have h0:=amK hr;have h:=xn h0 (ct:=⟨s,(kh k).il,fun ds rs=>rs=gv k ds,fun ds hd=>⟨gv k ds,by
   obtain⟨⟨n,hn⟩,_⟩:=pW hk hd;exact tN h0 hs hn,rfl⟩⟩) hT hs hc (fun ds _ hd=>⟨gv k ds,(pW hk hd).1,rfl⟩)
 have B9:k=r.f:=hf.symm;have:=h.2 w vs ds hw ha hp;rw[show(⟨r.f,im PP r,r.sub⟩:iU).f=k from hf]at this;refine this.mono ?_;rintro e w' ⟨b9,iq,e1,e2,e3,_,e5⟩;have e5:iq=gv k ds:=e5;subst e5;exact⟨b9,e1,e2,e3⟩
abbrev wk:List CK:=[i6,i6,i6,i6,.b,i6,i6,i6,.b,.b,i6,i6]
def jX(w:World)(g cap:Nat)(r:List Int):Prop:=g<w.heap.size/\Reads w (.slice (some ⟨g,0,none⟩) 1 cap) 1 (aJ wk [r])/\∃cs z,w.heap[g]?=some (.cells cs 323 z)
theorem jX.fT{cap:Nat}{r:List Int}(h:jX w g cap r)(hs:w.heap.size<=w'.heap.size)(hb:w'.heap[g]?=w.heap[g]?):jX w' g cap r:=
 ⟨Eg h.1 hs,h.2.1.nG fun _ b e=>by simp[Value.ownBlock]at e;subst e;exact hb,by rw[hb];exact h.2.2⟩
theorem jX.below{cap:Nat}{r:List Int}(h:jX w g cap r)(hb:Below w.heap.size w w'):jX w' g cap r:=h.fT hb.size (hb.block g h.1)
theorem jX.cell{cap:Nat}{r:List Int}(h:jX w g cap r){j:Nat}{u:Value}(hu:(bU wk 0 r)[j]?=some u):w.cell? ⟨g,j,none⟩=some u:=by
 obtain⟨_,⟨base,qy,e,_,_,hc⟩,_⟩:=h;cases e;obtain⟨a,ea,hh⟩:=hc j u (by simpa[aJ]using hu);cases ea;have e2:(⟨g,0,none⟩:Addr).add j=⟨g,j,none⟩:=by
   by_cases hj:j=0;subst hj;rfl;simp[Addr.add,hj]
 rw[<- e2];exact hh
structure lH(r:List Int):Prop where
 in_:cR [(-268500000,268500000),(-268500000,268500000),(-268500000,268500000),(-268500000,268500000),(0,1),(0,1),(-1200000,1200000),(-1200000,1200000),(0,1),(0,1),(-1200000,1200000),(-1200000,1200000)] 0 r
 ne:r.getD 2 0≠r.getD 0 0
theorem WV:kh 207=⟨[Pc,Pc,Pc,Pc],[.not (.and (.eq (.v 0) (.v 2)) (.eq (.v 1) (.v 3)))],[wq],[.not (.eq (.get R0 (.c 0) 2) (.get R0 (.c 0) 0))]⟩:=by kernel_rfl
theorem WW:kh 210=⟨[wq],[],[.i 0 2500000],[]⟩:=by kernel_rfl
theorem WX:kh 211=⟨[wq],[],[.i (-1) 1],[]⟩:=by kernel_rfl
theorem afA:kh 250=⟨[wq,.i (-8388608) 8388608],[.not (.eq (.get 0 (.c 0) 2) (.get 0 (.c 0) 0))],[.i (-4611686018427387904) 4611686018427387904,.i 1 549755813888],[]⟩:=by kernel_rfl
theorem WY:kh 251=⟨[wq,.i (-8388608) 8388608],[.not (.eq (.get 0 (.c 0) 2) (.get 0 (.c 0) 0))],[.i (-4611686018427387905) 4611686018427387904],[]⟩:=by kernel_rfl
theorem WZ:kh 168=⟨[.i mn mx,.i mn mx,.i mn mx,.i mn mx,.i mn mx,.i mn mx],[],[.b],[.or (.not (.v R0)) (.and (.and (.le (.v 0) (.v 4)) (.lt (.v 4) (.v 2))) (.and (.le (.v 1) (.v 5)) (.lt (.v 5) (.v 3))))]⟩:=by kernel_rfl
theorem k65:(kh 65).args=[.i mn mx,.i mn mx,.i mn mx,.i mn mx]/\(kh 65).pre=[]/\(kh 65).res=[.b]:=⟨by kernel_rfl,by kernel_rfl,by kernel_rfl⟩
theorem afB:lV 207 lK=some (rowOf 207):=by kernel_rfl
theorem afC:lV 210 lK=some (rowOf 210):=by kernel_rfl
theorem afD:lV 211 lK=some (rowOf 211):=by kernel_rfl
theorem afE:lV 250 lK=some (rowOf 250):=by kernel_rfl
theorem afF:lV 251 lK=some (rowOf 251):=by kernel_rfl
theorem afG:lV 168 lK=some (rowOf 168):=by kernel_rfl
theorem amL:lV 65 lK=some (rowOf 65):=by kernel_rfl
theorem amM:lD 207=some Lq:=by kernel_rfl
theorem amN:lD 210=some Lr:=by kernel_rfl
theorem amO:lD 211=some Ls:=by kernel_rfl
theorem amP:lD 250=some Lt:=by kernel_rfl
theorem amQ:lD 251=some Lu:=by kernel_rfl
theorem amR:lD 168=some Lw:=by kernel_rfl
theorem s65:lD 65=some W0:=by kernel_rfl
def afH:List DV->List Int
 | [.l [r]]=>r
 |_=>[]
def RD:List DV->Int
 | [.i n]=>n
 |_=>0
def amS:List DV->Int×Int
 | [.i n,.i m]=>(n,m)
 |_=>(0,0)
def RE:List DV->Bool
 | [.b x]=>x
 |_=>false
noncomputable def xv(a0 a1 b0 b1:Int):List Int:=afH (gv 207 [.i a0,.i a1,.i b0,.i b1])
noncomputable def lW(r:List Int):Int:=RD (gv 210 [.l [r]])
noncomputable def fQ(r:List Int):Int:=RD (gv 211 [.l [r]])
noncomputable def eJ(r:List Int)(u:Int):Int×Int:=amS (gv 250 [.l [r],.i u])
noncomputable def ka(r:List Int)(u:Int):Int:=RD (gv 251 [.l [r],.i u])
noncomputable def og(x0 y0 x1 y1 x y:Int):Bool:=RE (gv 168 [.i x0,.i y0,.i x1,.i y1,.i x,.i y])
noncomputable def nw(x0 y0 x1 y1:Int):Bool:=RE (gv 65 [.i x0,.i y0,.i x1,.i y1])
theorem Lx{d:DV}(h:wq.has d):∃r,d = .l [r]/\cR [(-268500000,268500000),(-268500000,268500000),(-268500000,268500000),(-268500000,268500000),(0,1),(0,1),(-1200000,1200000),(-1200000,1200000),(0,1),(0,1),(-1200000,1200000),(-1200000,1200000)] 0 r:=by
 cases d with
 | l xs=>
   obtain⟨h1,h2,h3⟩:=h;have h2:=h2 1 rfl
   match xs,h1,h2,h3 with
   | [],h1,_,_=>simp at h1
   | [r],_,_,h3=>exact⟨r,rfl,h3 r (aZ ..)⟩
   |_::_::_,_,h2,_=>simp at h2;omega
 |i n=>exact h.elim
 |b x=>exact h.elim
theorem o0{r:List Int}(h:lH r):wq.has (.l [r]):=⟨by simp,fun y e=>by cases e;simp,fun r' hr=>by simp at hr;subst hr;exact h.in_⟩
section
variable (hr:gX){w:World}(hw:Wd w)
theorem RF(hr:gX){w:World}(hw:Wd w){a0 a1 b0 b1:Int}(h0: -268500000<=a0/\a0<=268500000)(h1: -268500000<=a1/\a1<=268500000)(h2: -268500000<=b0/\b0<=268500000)(h3: -268500000<=b1/\b1<=268500000)(da:¬(a0=b0/\a1=b1)) :
   lH (xv a0 a1 b0 b1)/\Calls PP 207 #[.agg #[.int .i64 a0,.int .i64 a1],.agg #[.int .i64 b0,.int .i64 b1]] w fun e w'=>∃g cap,e = .returned (.pointer (some ⟨g,0,none⟩))/\Below w.heap.size w w'/\w.heap.size<=g/\jX w' g cap (xv a0 a1 b0 b1):=by
 have hp:(kh 207).il [.i a0,.i a1,.i b0,.i b1]:=by
   rw[WV];refine⟨⟨h0,h1,h2,h3,trivial⟩,fun p hp=>?_⟩;obtain rfl:p=_:=iE.1 hp;have:(decide (a0=b0)&&decide (a1=b1))=false:=by
     rw[OI,sO,sO];exact Classical.not_and_iff_not_or_not.1 da
   show(!(decide (a0=b0)&&decide (a1=b1)))=true;rw[this];rfl
 obtain⟨_,hq,vN⟩:=pW (k:=207) (by decide) hp;rw[WV]at hq vN;obtain⟨r,hg,bB⟩:∃r,gv 207 [.i a0,.i a1,.i b0,.i b1]=[.l [r]]/\cR [(-268500000,268500000),(-268500000,268500000),(-268500000,268500000),(-268500000,268500000),(0,1),(0,1),(-1200000,1200000),(-1200000,1200000),(0,1),(0,1),(-1200000,1200000),(-1200000,1200000)] 0 r:=by
   generalize gv 207 [.i a0,.i a1,.i b0,.i b1]=rs at hq
   match rs,hq with
   | [d],hq=>
     obtain⟨r,rfl,h⟩:=Lx hq.1;exact⟨r,rfl,h⟩
 have JK:xv a0 a1 b0 b1=r:=by unfold xv;rw[hg];rfl
 have Oq:=vN _ (iE.2 rfl);rw[hg]at Oq;rw[JK];refine⟨⟨bB,fun e=>?_⟩,?_⟩;have e':(decide (r.getD 2 0=r.getD 0 0))=true:=ja e;have:(!(decide (r.getD 2 0=r.getD 0 0)))=true:=Oq;rw[e']at this;cases this;refine(ky hr (k:=207) (ds:=[.i a0,.i a1,.i b0,.i b1]) (by decide) afB (by kernel_rfl) amM rfl hw (vs:=[.agg #[.int .i64 a0,.int .i64 a1],.agg #[.int .i64 b0,.int .i64 b1]]) ⟨[.int .i64 a0,.int .i64 a1,.int .i64 b0,.int .i64 b1],rfl,rfl,rfl,rfl,rfl,trivial⟩ hp).mono ?_;rintro e w' ⟨b9,rfl,hb,eD⟩;rw[hg]at eD
 match b9,eD with
 | [v],eD=>
   have bR:w'.ownsRow w.heap.size 323 12 v 1 (aJ wk [r]):=eD.1.2;rcases id bR with⟨_,⟨_,h⟩|⟨g,cap,cur,rfl,Ep,hh,_⟩⟩
   omega;exact⟨g,cap,rfl,hb,Ep,(sy.1 hh).1,qa bR,_,_,hh⟩
variable {g cap:Nat}{r:List Int}(HZ:jX w g cap r)(iP:lH r)
theorem D0(hr:gX){w:World}(hw:Wd w){g:Nat}{cap:Nat}{r:List Int}(HZ:jX w g cap r)(iP:lH r):(0<=lW r/\lW r<=2500000)/\Calls PP 210 #[.pointer (some ⟨g,0,none⟩)] w fun e w'=>e = .returned (.int .i64 (lW r))/\Below w.heap.size w w':=by
 have hp:(kh 210).il [.l [r]]:=by rw[WW];exact⟨⟨o0 iP,trivial⟩,fun p hp=>by cases hp⟩
 obtain⟨_,hq,_⟩:=pW (k:=210) (by decide) hp;rw[WW]at hq;obtain⟨n,hg,hn⟩:∃n:Int,gv 210 [.l [r]]=[.i n]/\0<=n/\n<=2500000:=by
   generalize gv 210 [.l [r]]=rs at hq
   match rs,hq with
   | [.i n],hq=>exact⟨n,rfl,hq.1⟩
 have JK:lW r=n:=by unfold lW;rw[hg];rfl
 rw[JK];refine⟨hn,(ky hr (k:=210) (ds:=[.l [r]]) (by decide) afC (by kernel_rfl) amN rfl hw (vs:=[.pointer (some ⟨g,0,none⟩)]) ⟨[.slice (some ⟨g,0,none⟩) 1 cap],rfl,⟨by decide,HZ.2.1⟩,trivial⟩ hp).mono ?_⟩;rintro e w' ⟨b9,rfl,hb,eD⟩;rw[hg]at eD
 match b9,eD with
 | [v],eD=>
   have:v = .int .i64 n:=eD.1;subst this;exact⟨rfl,hb⟩
theorem uQ(hr:gX){w:World}(hw:Wd w){g:Nat}{cap:Nat}{r:List Int}(HZ:jX w g cap r)(iP:lH r):(-1<=fQ r/\fQ r<=1)/\Calls PP 211 #[.pointer (some ⟨g,0,none⟩)] w fun e w'=>e = .returned (.int .i64 (fQ r))/\Below w.heap.size w w':=by
 have hp:(kh 211).il [.l [r]]:=by rw[WX];exact⟨⟨o0 iP,trivial⟩,fun p hp=>by cases hp⟩
 obtain⟨_,hq,_⟩:=pW (k:=211) (by decide) hp;rw[WX]at hq;obtain⟨n,hg,hn⟩:∃n:Int,gv 211 [.l [r]]=[.i n]/\-1<=n/\n<=1:=by
   generalize gv 211 [.l [r]]=rs at hq
   match rs,hq with
   | [.i n],hq=>exact⟨n,rfl,hq.1⟩
 have JK:fQ r=n:=by unfold fQ;rw[hg];rfl
 rw[JK];refine⟨hn,(ky hr (k:=211) (ds:=[.l [r]]) (by decide) afD (by kernel_rfl) amO rfl hw (vs:=[.pointer (some ⟨g,0,none⟩)]) ⟨[.slice (some ⟨g,0,none⟩) 1 cap],rfl,⟨by decide,HZ.2.1⟩,trivial⟩ hp).mono ?_⟩;rintro e w' ⟨b9,rfl,hb,eD⟩;rw[hg]at eD
 match b9,eD with
 | [v],eD=>
   have:v = .int .i64 n:=eD.1;subst this;exact⟨rfl,hb⟩
theorem FW(da:r.getD 2 0≠r.getD 0 0){u:Int}:BE.af (a8.au 0 [.l [r],.i u]) (.not (.eq (.get 0 (.c 0) 2) (.get 0 (.c 0) 0)))=true:=by
 show(!(decide (r.getD 2 0=r.getD 0 0)))=true;rw[decide_eq_false da];rfl
theorem BW(hr:gX){w:World}(hw:Wd w){g:Nat}{cap:Nat}{r:List Int}(HZ:jX w g cap r)(iP:lH r){u:Int}(hu: -8388608<=u/\u<=8388608):(1<=(eJ r u).2/\(eJ r u).2<=549755813888)/\Calls PP 250 #[.pointer (some ⟨g,0,none⟩),.int .i64 u] w fun e w'=>e = .returned (.tuple #[.int .i64 (eJ r u).1,.int .i64 (eJ r u).2])/\Below w.heap.size w w':=by
 have hp:(kh 250).il [.l [r],.i u]:=by
   rw[afA];refine⟨⟨o0 iP,hu,trivial⟩,fun p hp=>?_⟩;obtain rfl:p=_:=iE.1 hp;exact FW iP.ne
 obtain⟨_,hq,_⟩:=pW (k:=250) (by decide) hp;rw[afA]at hq;obtain⟨n,d,hg,hn⟩:∃n d:Int,gv 250 [.l [r],.i u]=[.i n,.i d]/\1<=d/\d<=549755813888:=by
   generalize gv 250 [.l [r],.i u]=rs at hq
   match rs,hq with
   | [.i n,.i d],hq=>exact⟨n,d,rfl,hq.2.1⟩
 have JK:eJ r u=(n,d):=by unfold eJ;rw[hg];rfl
 rw[JK];refine⟨hn,(ky hr (k:=250) (ds:=[.l [r],.i u]) (by decide) afE (by kernel_rfl) amP rfl hw (vs:=[.pointer (some ⟨g,0,none⟩),.int .i64 u]) ⟨[.slice (some ⟨g,0,none⟩) 1 cap,.int .i64 u],rfl,⟨by decide,HZ.2.1⟩,rfl,trivial⟩ hp).mono ?_⟩;rintro e w' ⟨b9,rfl,hb,eD⟩;rw[hg]at eD
 match b9,eD with
 | [v,v'],eD=>
   have:v = .int .i64 n:=eD.1;subst this;have:v' = .int .i64 d:=eD.2.1;subst this;exact⟨rfl,hb⟩
theorem zC(hr:gX){w:World}(hw:Wd w){g:Nat}{cap:Nat}{r:List Int}(HZ:jX w g cap r)(iP:lH r){u:Int}(hu: -8388608<=u/\u<=8388608):(-4611686018427387905<=ka r u/\ka r u<=4611686018427387904)/\Calls PP 251 #[.pointer (some ⟨g,0,none⟩),.int .i64 u] w fun e w'=>e = .returned (.int .i64 (ka r u))/\Below w.heap.size w w':=by
 have hp:(kh 251).il [.l [r],.i u]:=by
   rw[WY];refine⟨⟨o0 iP,hu,trivial⟩,fun p hp=>?_⟩;obtain rfl:p=_:=iE.1 hp;exact FW iP.ne
 obtain⟨_,hq,_⟩:=pW (k:=251) (by decide) hp;rw[WY]at hq;obtain⟨n,hg,hn⟩:∃n:Int,gv 251 [.l [r],.i u]=[.i n]/\-4611686018427387905<=n/\n<=4611686018427387904:=by
   generalize gv 251 [.l [r],.i u]=rs at hq
   match rs,hq with
   | [.i n],hq=>exact⟨n,rfl,hq.1⟩
 have JK:ka r u=n:=by unfold ka;rw[hg];rfl
 rw[JK];refine⟨hn,?_⟩;refine(ky hr (k:=251) (ds:=[.l [r],.i u]) (by decide) afF (by kernel_rfl) amQ rfl hw (vs:=[.pointer (some ⟨g,0,none⟩),.int .i64 u]) ⟨[.slice (some ⟨g,0,none⟩) 1 cap,.int .i64 u],rfl,⟨by decide,HZ.2.1⟩,rfl,trivial⟩ hp).mono ?_;rintro e w' ⟨b9,rfl,hb,eD⟩;rw[hg]at eD
 match b9,eD with
 | [v],eD=>
   have:v = .int .i64 n:=eD.1;subst this;exact⟨rfl,hb⟩
end
def gR(n:Int):Prop:=-9223372036854775808<=n/\n<=9223372036854775807
section
variable (hr:gX){w:World}(hw:Wd w){x0 y0 x1 y1 x y:Int}(h0:gR x0)(h1:gR y0)(h2:gR x1)(h3:gR y1)
theorem BX(hr:gX){w:World}(hw:Wd w){x0:Int}{y0:Int}{x1:Int}{y1:Int}(h0:gR x0)(h1:gR y0)(h2:gR x1)(h3:gR y1):Calls PP 65 #[.agg #[.int .i64 x0,.int .i64 y0,.int .i64 x1,.int .i64 y1]] w fun e w'=>e = .returned (.bool (nw x0 y0 x1 y1))/\Below w.heap.size w w':=by
 have hp:(kh 65).il [.i x0,.i y0,.i x1,.i y1]:=by
   refine⟨?_,fun p hp=>?_⟩;rw[k65.1];exact⟨h0,h1,h2,h3,trivial⟩;rw[k65.2.1]at hp;cases hp
 obtain⟨_,hq,_⟩:=pW (k:=65) (by decide) hp;rw[k65.2.2]at hq;obtain⟨n,hg⟩:∃n:Bool,gv 65 [.i x0,.i y0,.i x1,.i y1]=[.b n]:=by
   generalize gv 65 [.i x0,.i y0,.i x1,.i y1]=rs at hq
   match rs,hq with
   | [.b n],hq=>exact⟨n,rfl⟩
 have JK:nw x0 y0 x1 y1=n:=by unfold nw;rw[hg];rfl
 rw[JK];refine(ky hr (k:=65) (ds:=[.i x0,.i y0,.i x1,.i y1]) (by decide) amL (by kernel_rfl) s65 rfl hw (vs:=[.agg #[.int .i64 x0,.int .i64 y0,.int .i64 x1,.int .i64 y1]]) ⟨[.int .i64 x0,.int .i64 y0,.int .i64 x1,.int .i64 y1],rfl,rfl,rfl,rfl,rfl,trivial⟩ hp).mono ?_;rintro e w' ⟨b9,rfl,hb,eD⟩;rw[hg]at eD
 match b9,eD with
 | [v],eD=>
   have:v = .bool n:=eD.1;subst this;exact⟨rfl,hb⟩
theorem H0(hr:gX){w:World}(hw:Wd w){x0:Int}{y0:Int}{x1:Int}{y1:Int}{x:Int}{y:Int}(h0:gR x0)(h1:gR y0)(h2:gR x1)(h3:gR y1)(h4:gR x)(h5:gR y):(og x0 y0 x1 y1 x y=true->(x0<=x/\x<x1)/\y0<=y/\y<y1)/\Calls PP 168 #[.agg #[.int .i64 x0,.int .i64 y0,.int .i64 x1,.int .i64 y1],.int .i64 x,.int .i64 y] w fun e w'=>e = .returned (.bool (og x0 y0 x1 y1 x y))/\Below w.heap.size w w':=by
 have hp:(kh 168).il [.i x0,.i y0,.i x1,.i y1,.i x,.i y]:=by
   rw[WZ];exact⟨⟨h0,h1,h2,h3,h4,h5,trivial⟩,fun p hp=>by cases hp⟩
 obtain⟨_,hq,vN⟩:=pW (k:=168) (by decide) hp;rw[WZ]at hq vN;obtain⟨n,hg⟩:∃n:Bool,gv 168 [.i x0,.i y0,.i x1,.i y1,.i x,.i y]=[.b n]:=by
   generalize gv 168 [.i x0,.i y0,.i x1,.i y1,.i x,.i y]=rs at hq
   match rs,hq with
   | [.b n],hq=>exact⟨n,rfl⟩
 have JK:og x0 y0 x1 y1 x y=n:=by unfold og;rw[hg];rfl
 have Wa:=vN _ (iE.2 rfl);rw[hg]at Wa;rw[JK];refine⟨fun e=>?_,(ky hr (k:=168) (ds:=[.i x0,.i y0,.i x1,.i y1,.i x,.i y]) (by decide) afG (by kernel_rfl) amR rfl hw (vs:=[.agg #[.int .i64 x0,.int .i64 y0,.int .i64 x1,.int .i64 y1],.int .i64 x,.int .i64 y]) ⟨[.int .i64 x0,.int .i64 y0,.int .i64 x1,.int .i64 y1,.int .i64 x,.int .i64 y],rfl,rfl,rfl,rfl,rfl,rfl,rfl,trivial⟩ hp).mono ?_⟩;subst e;have:(!true||((decide (x0<=x)&&decide (x<x1))&&(decide (y0<=y)&&decide (y<y1))))=true:=Wa;simpa using this;rintro e w' ⟨b9,rfl,hb,eD⟩;rw[hg]at eD
 match b9,eD with
 | [v],eD=>
   have:v = .bool n:=eD.1;subst this;exact⟨rfl,hb⟩
end
end
end Go.Proofs.YtohebioanhliiaaGreatDoor.aN
namespace Go.Proofs.YtohebioanhliiaaGreatDoor.Xa
open Go Go.RowKit
variable {n:Nat}{P:Program}
def Lz(B:Nat)(W W':World):Prop:=∀(k:Nat) (o:Obj),B<=k->W.heap[k]?=some o->o.isCells=false->W'.heap[k]?=some o
theorem NJ{α:Type}{g:Operand}{ps:Array Tmp}{assign body:Code}{Q:Exit->Act->World->Prop}{a:Act}{w:World}
   {gf:Nat} {lb:Array Value} (hg:a.eval g = .func (.func gf) #[] lb) (eg:∀args w,(callFunc gf args).run P w = .ok (.enter gf args) w)
   {RK:α->Array Value} (F4:∀x,(RK x).size=ps.size) {xs:List α} (I:List α->World->Prop) (St Kp:World->World->Prop)
   (hIp:∀pre W l o o',I pre W->w.heap.size<=l->W.heap[l]?=some o->o.isCells=false->I pre (W.putObj l o'))
   (hIa:∀pre W o,I pre W->I pre (W.alloc o))
   (hIs:∀pre A B,I pre A->St A B->I pre B) (W8:∀A B,St A B->Lz w.heap.size A B)
   (hKt:∀ {A B C:World},Kp A B->Kp B C->Kp A C) (hKp:∀(W:World) (l:Nat) (o:Obj),w.heap.size<=l->Kp W (W.putObj l o))
   (h0:I [] w) (afS:α->Act)
   (afT:∀(l:Nat) (J:List α->World->Prop) (W:World),(∀k,k<w.heap.size->W.heap[k]?=w.heap[k]?)->J [] W->(∀pre A,J pre A->I pre A)->(∀pre A B,J pre A->St A B->J pre B)->
     (∀pre x W1,J pre W1->xs[pre.length]?=some x->YieldAt Fence.wide (n-1-1) P l (RK x) W1 fun e W'=>e = .returned (.bool true)/\J (pre++[x]) W'/\Kp W1 W')->
     CallsIn Fence.wide (n-1) P gf (#[.func (.yield l) #[] #[]]++lb) W fun e W'=>(∃v,e = .returned v)/\J xs W')
   (Xl:∀(l:Nat) (x:α) (W:World) (K:Act->World->Prop),K (afS x) W->
     assign.wpIn (Fence.wide.inRound l) (n-1-1) P (Exit.then K (fun _ _ _=>False)) {tmps:=(ps.zip (RK x)).foldl (fun t (p,v)=>t.setIfInBounds p v) a.tmps,defers:=[] } W)
   (Dq:∀(l:Nat) (pre:List α) (x:α) (W:World),I pre W->xs[pre.length]?=some x->body.wpIn (Fence.wide.inRound l) (n-1-1) P (fun e _ W'=>e = .normal/\Lz w.heap.size W W'/\Kp W W'/\I (pre++[x]) W') (afS x) W)
   (afU:∀(D:Nat) (W:World),w.heap.size<=D->I xs W->W.heap[D]?=some (.deferred (some []))->Q .normal {a with defers:={target:=.collected D,args:=#[] }::a.defers} W)
   (hn:1<=n) :
   (Code.rangeFunc g ps assign body).wpIn Fence.wide n P Q a w:=by
 refine wpIn_rangeFunc ?_;intro fn mA;let wA:LoopState->Loop:=fun st=>{state:=st,pending:=none,fn,tmps:=a.tmps,params:=ps,assign,body,defers:=w.heap.size}
 have hL1:((w.alloc (.deferred (some []))).alloc (.loop (wA .ready))).heap[w.heap.size+1]?=some (.loop (wA .ready)):=by
   have:=World.alloc_heap_new (w.alloc (.deferred (some []))) (.loop (wA .ready));rwa[World.size_alloc]at this
 have hK1:((w.alloc (.deferred (some []))).alloc (.loop (wA .ready))).heap[w.heap.size]?=some (.deferred (some [])):=
   (Below.heap_alloc _ _ _ (by simp)).trans (World.alloc_heap_new w _)
 have hI1:I [] ((w.alloc (.deferred (some []))).alloc (.loop (wA .ready))):=hIa _ _ _ (hIa _ _ _ h0);refine⟨w.heap.size+1,[{target:=.collected w.heap.size,args:=#[] }],(w.alloc (.deferred (some []))).alloc (.loop (wA .ready)),{target:=.fn (.func gf) lb,args:=#[.func (.yield (w.heap.size+1)) #[] #[]] },(w.alloc (.deferred (some []))).alloc (.loop (wA .ready)),gf,
   #[.func (.yield (w.heap.size+1)) #[] #[]]++lb,(w.alloc (.deferred (some []))).alloc (.loop (wA .ready)),?_,?_,fun _ _=>trivial,?_,fun _=>hn,?_⟩
 exact run_enterLoop_outer _ _ _ _ _
 . simp only[resolve,hg];simp[go_sem]
 . simp[invoke,go_sem,eg]
 have LB:∀k,k<w.heap.size->((w.alloc (.deferred (some []))).alloc (.loop (wA .ready))).heap[k]?=w.heap[k]? :=fun k hk=>(Below.heap_alloc _ _ k (by simp;omega)).trans (Below.heap_alloc _ _ k hk);generalize(w.alloc (.deferred (some []))).alloc (.loop (wA .ready))=W1 at hL1 hK1 hI1 LB;refine(afT (w.heap.size+1) (fun pre W=>I pre W/\W.heap[w.heap.size+1]?=some (.loop (wA .ready))/\W.heap[w.heap.size]?=some (.deferred (some []))) W1 LB ⟨hI1,hL1,hK1⟩ (fun _ _ h=>h.1) (fun pre A B h s=>⟨hIs _ _ _ h.1 s,W8 _ _ s _ _ (by omega) h.2.1 rfl,W8 _ _ s _ _ (Nat.le_refl _) h.2.2 rfl⟩) ?_).mono ?_;rintro pre x W ⟨hi,hl,hk⟩ hlen;have hy:=run_yield (P:=P) (args:=RK x) hl (F4 x);refine⟨fn,_,assign,body,hy,roundIn_of_wpIn mA (Xl _ x W _ ⟨_,run_beginRound hl rfl,?_⟩)⟩;have cM:w.heap.size+1<W.heap.size:=(Array.getElem?_eq_some_iff.1 hl).1;have Ax:(W.putObj (w.heap.size+1) (.loop (wA .busy))).heap[w.heap.size+1]?=some (.loop (wA .busy)):=World.putObj_heap_same cM;have vq:(W.putObj (w.heap.size+1) (.loop (wA .busy))).heap[w.heap.size]?=some (.deferred (some [])):=(World.putObj_heap_other (by omega)).trans hk;refine wpIn_mono (Dq _ pre x _ (hIp _ _ _ _ _ hi (by omega) hl rfl) hlen) ?_;rintro e a3 W3 ⟨rfl,hs,hkp,Xc⟩;have hl3:=hs _ _ (by omega) Ax rfl;have hk3:=hs _ _ (Nat.le_refl _) vq rfl;have hr:=run_endRound (P:=P) none hl3;exact⟨_,_,hr,rfl,⟨hIp _ _ _ _ _ Xc (by omega) hl3 rfl,World.putObj_heap_same (Array.getElem?_eq_some_iff.1 hl3).1,(World.putObj_heap_other (by omega)).trans hk3⟩,hKt (hKt (hKp _ _ _ (by omega)) hkp) (hKp _ _ _ (by omega))⟩;rintro e W2 ⟨⟨v,rfl⟩,hi,hl,hk⟩;exact⟨none,_,run_endLoop (P:=P) hl (by simp[wA]),afU _ _ (Nat.le_refl _) (hIp _ _ _ _ _ hi (by omega) hl rfl) ((World.putObj_heap_other (by omega)).trans hk)⟩
end Go.Proofs.YtohebioanhliiaaGreatDoor.Xa
namespace Go.Proofs.YtohebioanhliiaaGreatDoor.aN
section
open Go.Sx Go.RowKit Go.Shelf Go
variable{w:World}{g:Nat}{D:Int}{k n:Nat}{t:Bool}{u0:Int}
attribute [local go_sem] Oper.semAt_some
def px(t:Bool)(u v:Int):Int:=if t then v else u
def py(t:Bool)(u v:Int):Int:=if t then u else v
theorem BY(h4:w.cell? ⟨g,4,none⟩=some (.bool t))(u v:Int):Calls Tryz.prog 209 #[.pointer (some ⟨g,0,none⟩),.int .i64 u,.int .i64 v] w fun e w'=>e = .returned (.tuple #[.int .i64 (px t u v),.int .i64 (py t u v)])/\w'=w:=by
 unfold px py;go_enter Tryz.func209,Tryz.ntmps209
 go_wp2
 all_goals first|(go_ret2;exact⟨rfl,rfl⟩)|skip
 all_goals simp_all
theorem NF(g:Nat)(u m:Int):Calls Tryz.prog 212 #[.pointer (some ⟨g,0,none⟩),.int .i64 u,.int .i64 m] w fun e w'=>e = .returned (.func (.func 249) #[] #[.pointer (some ⟨w.heap.size,0,none⟩),.pointer (some ⟨w.heap.size+1,0,none⟩),.pointer (some ⟨w.heap.size+1+1,0,none⟩)])/\w'=((w.alloc (.cells #[.pointer (some ⟨g,0,none⟩)] 319)).alloc (.cells #[.int .i64 u] 3)).alloc (.cells #[.int .i64 m] 3):=by
 go_enter Tryz.func212,Tryz.ntmps212
 go_wp2
 all_goals first|(go_ret;exact⟨rfl,rfl⟩)|skip
def qq(r:List Int)(i:Nat):Int:=r.getD i 0
def qb(r:List Int)(i:Nat):Bool:=decide (r.getD i 0≠0)
theorem jX.int{cap:Nat}{r:List Int}(h:jX w g cap r)(j:Nat)(hj:wk[j]?=some i6):w.cell? ⟨g,j,none⟩=some (.int .i64 (qq r j)):=by
 refine h.cell ?_;rw[jv wk 0 r j,hj,fR];rfl
theorem jX.bool{cap:Nat}{r:List Int}(h:jX w g cap r)(j:Nat)(hj:wk[j]?=some .b):w.cell? ⟨g,j,none⟩=some (.bool (qb r j)):=by
 refine h.cell ?_;rw[jv wk 0 r j,hj,fR];rfl
def up1(d whole add:Int)(x:Int×Int):Int×Int:=
 (wrap64 (x.1+whole+wrap64 (x.2+add)/d),wrap64 (x.2+add)%d)
noncomputable def jQ(r:List Int)(u0:Int):Nat->Int×Int×Int
 |0=>(u0,ka r u0,wrap64 ((eJ r u0).1-wrap64 (ka r u0*(eJ r u0).2)))
 | i+1=>
   let d:=(eJ r u0).2
   let a:=wrap64 (256*wrap64 (qq r 3-qq r 1))
   (wrap64 ((jQ r u0 i).1+fQ r),up1 d (wrap64 (a.tdiv d)) (a.tmod d) (jQ r u0 i).2)
noncomputable def iL(r:List Int)(u0:Int)(m:Nat):List (Int×Int):=(List.range m).map fun i=>((jQ r u0 i).1,(jQ r u0 i).2.1)
def afI(bu:Nat)(A B:World):Prop:=Below A.heap.size A B\/∃v,B=A.setCell ⟨bu,0,none⟩ v
structure amT(A:World)(bw bm g cap:Nat)(r:List Int)(m:Int):Prop where
 wd:Wd A
 hw:A.cell? ⟨bw,0,none⟩=some (.pointer (some ⟨g,0,none⟩))
 hm:A.cell? ⟨bm,0,none⟩=some (.int .i64 m)
 vz:jX A g cap r
theorem JL(r:List Int)(u0:Int)(k:Nat):iL r u0 (k+1)=iL r u0 k++[((jQ r u0 k).1,(jQ r u0 k).2.1)]:=by
 unfold iL;rw[List.range_succ,qI];rfl
theorem W4{R j q:Int}(hD:1<=D)(hq:j*D=q)(h0:0<=R-q)(h1:R-q<D):R/D=j/\R%D=R-q:=by
 have h2:R=(R-q)+D*j:=by rw[<- hq,mY j D];omega
 have h3:(R-q)/D=0:=Int.ediv_eq_zero_of_lt h0 h1;have h4:(R-q)%D=R-q:=Int.emod_eq_of_lt h0 h1;constructor;rw[h2,Int.add_mul_ediv_left _ _ (by omega),h3];omega;rw[h2,Int.add_mul_emod_self_left,<- h2,h4]
theorem up_mul(j D:Int):(j+1)*D=j*D+D:=by rw[Int.add_mul,Int.one_mul]
theorem RG(j D:Int):(j-1)*D=j*D-D:=by rw[Int.sub_mul,Int.one_mul]
theorem wrap_wrap(a b:Int):wrap64 (wrap64 a+b)=wrap64 (a+b):=by unfold wrap64;omega
theorem NG(a:Int):wrap64 (wrap64 a-1)=wrap64 (a-1):=by unfold wrap64;omega
theorem fV{a:Int}(h0: -9223372036854775808<=a)(h1:a<=9223372036854775807):wrap64 a=a:=by unfold wrap64;omega
theorem FX(a:Int): -9223372036854775808<=wrap64 a/\wrap64 a<=9223372036854775807:=by unfold wrap64;omega
theorem int_eq{a b:Int}(h:a=b):Value.int .i64 a=Value.int .i64 b:=congrArg _ h
theorem NH{a:Int}(h:a<0)(hD:1<=D):(-intOf (Value.int .i64 (a+D))).toNat<(-intOf (Value.int .i64 a)).toNat:=by
 show(-(a+D)).toNat<(-a).toNat;omega
theorem W6{a:Int}(h:D<=a)(hD:1<=D):(intOf (Value.int .i64 (a-D))).toNat<(intOf (Value.int .i64 a)).toNat:=by
 show(a-D).toNat<a.toNat;omega
theorem abq{m:Nat}(h:k<m):m-(intOf (Value.int .i64 ((k:Int)+1))).toNat<m-(intOf (Value.int .i64 (k:Int))).toNat:=by
 show m-((k:Int)+1).toNat<m-(k:Int).toNat;omega
theorem RH{r:List Int}(Ob: -8388608<=u0/\u0<=8388608)(ha:gR (ka r u0)){p:Int×Int}(h:(iL r u0 n)[k]?=some p):gR p.1/\gR p.2:=by
 have:p=((jQ r u0 k).1,(jQ r u0 k).2.1):=by
   unfold iL at h;rw[iS]at h;obtain⟨j,hj,rfl⟩:=bN.1 h;have:=dw.1 hj;obtain⟨cM,e⟩:=this;rw[List.getElem_range]at e;rw[e]
 subst this;cases k with
 |zero=>exact⟨⟨by show -9223372036854775808<=u0;omega,by show u0<=9223372036854775807;omega⟩,ha⟩
 |succ k=>exact⟨FX _,FX _⟩
theorem Ly{u v:Int}(hu:gR u)(hv:gR v):gR (px t u v)/\gR (py t u v):=by
 cases t;exact⟨hu,hv⟩;exact⟨hv,hu⟩
theorem fY{w':World}{B:Nat}{t:TypeId}{v:Value}(h:Boxed w B t v)(hb:Below w.heap.size w w'):Boxed w' B t v:=(hb.block B h.lt).trans h
theorem W7(hr:gX){l bw bu bm cap:Nat}{r:List Int}{m:Int}(iP:lH r)(Ob: -8388608<=u0/\u0<=8388608)(hm:0<=m/\m<=1000)(J:List (Int×Int)->World->Prop)(W:World)(h0:J [] W)
   (hJ:∀pre A,J pre A->amT A bw bm g cap r m/\∃v,Boxed A bu 3 v) (W8:∀pre A B,J pre A->afI bu A B->J pre B) (mv:Boxed W bu 3 (.int .i64 u0))
   (hY:∀pre x W1,J pre W1->(iL r u0 m.toNat)[pre.length]?=some x->YieldAt Fence.wide (n-1) Tryz.prog l #[.int .i64 x.1,.int .i64 x.2] W1 fun e W'=>e = .returned (.bool true)/\J (pre++[x]) W'/\W'.heap[bu]?=W1.heap[bu]?) :
   CallsIn Fence.wide n Tryz.prog 249 #[.func (.yield l) #[] #[],.pointer (some ⟨bw,0,none⟩),.pointer (some ⟨bu,0,none⟩),.pointer (some ⟨bm,0,none⟩)] W fun e W'=>(∃v,e = .returned v)/\J (iL r u0 m.toNat) W':=by
 refine callsIn_of_wp Tryz.func249 rfl trivial ?_;simp only[Tryz.ntmps249,List.size_toArray,pf,List.length_nil,Nat.reduceAdd,Nat.reduceSub,Array.replicate_succ,Array.replicate_zero,List.push_toArray,List.append_toArray,nM,sR];obtain⟨⟨JM,hw0,ur,abr⟩,_⟩:=hJ _ _ h0;have hu1:=mv.cell;have hd:=(BW hr JM abr iP Ob).1;have Cc:(eJ r u0).2≠0:=by omega
 gi_wp2_with (first
   |(refine⟨trivial,fun hh=>(by cases hh),?_⟩;gi_at_call 250;refine(callsIn_wide.2 (BW hr JM abr iP Ob).2).mono ?_;rintro e w1 ⟨rfl,yb⟩;have hJ1:=W8 _ _ _ h0 (Or.inl yb);have YR:=fY mv yb;clear hw0 ur hu1;obtain⟨⟨wd1,hw1,wE,W9⟩,_⟩:=hJ _ _ hJ1;have hu1:=YR.cell)
   |(refine⟨trivial,fun hh=>(by cases hh),?_⟩;gi_at_call 251;refine(callsIn_wide.2 (zC hr wd1 W9 iP Ob).2).mono ?_;rintro e w2 ⟨rfl,vL⟩;have hJ2:=W8 _ _ _ hJ1 (Or.inl vL);have YS:=fY YR vL;clear hw1 wE hu1;obtain⟨⟨wd2,hw2,H6,RI⟩,_⟩:=hJ _ _ hJ2;have hu2:=YS.cell;have Uc:=RI.int 3 rfl;have uu:=RI.int 1 rfl))
 have Ud:Tryz.prog.follows .mixedOrders=true:=by kernel_rfl
 gi_region
 all_goals gi_wp2
 gi_loopw [7,8,42] (fun v t i wr=>∃k:Nat,k<=m.toNat/\v = .int .i64 (jQ r u0 k).2.1/\t = .int .i64 (jQ r u0 k).2.2/\i = .int .i64 (k:Int)/\J (iL r u0 k) wr/\Boxed wr bu 3 (.int .i64 (jQ r u0 k).1)) (fun _ _ i _=>m.toNat-(intOf i).toNat)
 case atStart=>exact⟨0,Nat.zero_le _,rfl,rfl,rfl,W8 _ _ _ hJ2 (Or.inl ((Below.refl _ _).drew)),YS⟩
 case round=>
   obtain⟨k,hk,rfl,rfl,rfl,hJr,hxr⟩:=hrel;clear hJ1 hJ2 YR YS yb vL hw2 H6 W9 RI wd1 wd2 uu Uc hu2 mv h0 JM abr;obtain⟨⟨wdr,JK,hmr,amU⟩,_⟩:=hJ _ _ hJr;have hur:=hxr.cell;rcases oH k m.toNat with cM|my
   . have Mj:(k:Int)<m:=by omega
     obtain⟨fn,tmps,assign,body,hy,hR⟩:=hY (iL r u0 k) ((jQ r u0 k).1,(jQ r u0 k).2.1) wr hJr (by simp[iL,cM]);dsimp only at hy
     gi_wp2
     refine⟨fun hh=>(by cases hh),?_⟩;refine hR.mono ?_;clear hR hy hur JK hmr amU wdr;rintro e W3 ⟨rfl,hJ3,hbu⟩;have hx3:Boxed W3 bu 3 (.int .i64 (jQ r u0 k).1):=hbu.trans hxr;clear hbu hxr hJr;have abt:=W8 _ _ _ hJ3 (Or.inl ((Below.refl _ _).drew));obtain⟨⟨wd3,hw3,_,afJ⟩,_⟩:=hJ _ _ abt;have hu3:=hx3.cell;have hf3:=hx3.frozen;have amV:W3.cell? ⟨bw,0,none⟩=some (.pointer (some ⟨g,0,none⟩)):=hw3
     gi_wp2
     gi_region_with_o (refine⟨trivial,fun hh=>(by cases hh),?_⟩;gi_at_call 211;refine(callsIn_wide.2 (uQ hr wd3 afJ iP).2).mono ?_;rintro e w4 ⟨rfl,hb4⟩;have hJ4:=W8 _ _ _ abt (Or.inl hb4);have hx4:=fY (w:=W3.drew) hx3 hb4;have hu4:=hx4.cell;have hf4:=hx4.frozen)
     all_goals gi_wp2
     all_goals (
       generalize hW5:w4.setCell ⟨bu,0,none⟩ (.int .i64 (wrap64 ((jQ r u0 k).1+fQ r)))=W5;have hJ5:J (iL r u0 (k+1)) W5:=by rw[JL,<- hW5];exact W8 _ _ _ hJ4 (Or.inr ⟨_,rfl⟩)
       have hx5:Boxed W5 bu 3 (.int .i64 (wrap64 ((jQ r u0 k).1+fQ r))):=by rw[<- hW5];exact hx4.set _
       have F9:(jQ r u0 (k+1)).1=wrap64 ((jQ r u0 k).1+fQ r):=rfl;have MA:(jQ r u0 (k+1)).2.1=wrap64 ((jQ r u0 k).2.1+wrap64 ((wrap64 (256*wrap64 (qq r 3-qq r 1))).tdiv (eJ r u0).2)+wrap64 ((jQ r u0 k).2.2+(wrap64 (256*wrap64 (qq r 3-qq r 1))).tmod (eJ r u0).2)/(eJ r u0).2):=rfl;have hs3:(jQ r u0 (k+1)).2.2=wrap64 ((jQ r u0 k).2.2+(wrap64 (256*wrap64 (qq r 3-qq r 1))).tmod (eJ r u0).2)%(eJ r u0).2:=rfl;clear hW5 hJ4 hx4 hu4 hf4 hb4 abt hJ3 hx3 hu3 hf3 hw3 amV wd3 afJ;have hR0:=FX ((jQ r u0 k).2.2+(wrap64 (256*wrap64 (qq r 3-qq r 1))).tmod (eJ r u0).2);generalize wrap64 ((jQ r u0 k).2.2+(wrap64 (256*wrap64 (qq r 3-qq r 1))).tmod (eJ r u0).2)=R1 at *;generalize(jQ r u0 k).2.1+wrap64 ((wrap64 (256*wrap64 (qq r 3-qq r 1))).tdiv (eJ r u0).2)=V1 at *
       gi_loopw [7,8] (fun v t wr=>wr=W5/\∃j q:Int,j*(eJ r u0).2=q/\v = .int .i64 (wrap64 (V1+j))/\t = .int .i64 (R1-q)/\(q=0\/0<=R1-q)/\R1-q<=R1) (fun _ t _=>(intOf t).toNat)
       case atStart=>exact⟨rfl,0,0,by rw[Int.zero_mul],by rw[Int.add_zero],by rw[Int.sub_zero],Or.inl rfl,by omega⟩
       case round=>
         obtain⟨rfl,j,q,hq,rfl,rfl,hj,hle⟩:=hrel;rcases Int.lt_or_le (R1-q) (eJ r u0).2 with ZI|amW
         . have hn2:¬ (eJ r u0).2<=R1-q:=by omega
           gi_wp2
           gi_loopw [7,8] (fun v t wr'=>wr'=wr/\∃j q:Int,j*(eJ r u0).2=q/\v = .int .i64 (wrap64 (V1+j))/\t = .int .i64 (R1-q)/\R1-q<(eJ r u0).2/\-9223372036854775808<=R1-q) (fun _ t _=>(-(intOf t)).toNat)
           case atStart=>exact⟨rfl,j,q,hq,rfl,rfl,ZI,by omega⟩
           case round=>
             obtain⟨rfl,j2,q2,vN,rfl,rfl,Ax,vL⟩:=hrel;rcases Int.lt_or_le (R1-q2) 0 with amX|nF
             . have e:wrap64 (R1-q2+(eJ r u0).2)=R1-q2+(eJ r u0).2:=fV (by omega) (by omega)
               gi_wp2
               go_roundw
               case rel=>exact⟨trivial,j2-1,q2-(eJ r u0).2,by rw[RG,vN],int_eq (by rw[NG];congr 1;omega),int_eq (by omega),by omega,by omega⟩
               case measure=>exact NH amX (by omega)
             . have hp3:¬ R1-q2<0:=by omega
               obtain⟨e1,e2⟩:=W4 (by omega) vN nF Ax
               gi_wp2
               go_roundw
               case rel=>exact⟨k+1,by omega,int_eq (by rw[MA,e1]),int_eq (by rw[hs3,e2]),int_eq (by omega),hJ5,by rw[F9];exact hx5⟩
               case measure=>exact abq cM
         . have hp2:0<=R1-q:=by omega
           have e:wrap64 (R1-q-(eJ r u0).2)=R1-q-(eJ r u0).2:=fV (by omega) (by omega)
           gi_wp2
           go_roundw
           case rel=>exact⟨trivial,j+1,q+(eJ r u0).2,by rw[up_mul,hq],int_eq (by rw[wrap_wrap];congr 1;omega),int_eq (by omega),by omega,by omega⟩
           case measure=>exact W6 amW (by omega))
   . have anu:¬ (k:Int)<m:=by omega
     gi_wp2
     go_end0
     have:k=m.toNat:=by omega
     subst this;exact⟨⟨_,rfl⟩,hJr⟩
end
section
open Go.Sx Go.RowKit Go.Shelf Go Xa
variable{B:Nat}{v:Value}{W:World}{n:Nat}{t:TypeId}{cs:Array Value}{e:TypeId}{g sz:Nat}{t':TypeId}{w:World}{z:Nat×Nat}
attribute [local go_sem] Oper.semAt_some
def lI(n:Nat):Code->Bool
 |.region k _ _=>Nat.beq k n
 |.seq a _=>lI n a
 |_=>false
def behind(n:Nat):Nat->Code->Code
 |0,c=>c
 | f+1,c=>if lI n c then c else match c with
   |.seq _ b=>behind n f b
   |c=>c
noncomputable def pZ:Code:=behind 23 40 (Tryz.f169.body.getD .skip)
structure LoopIn(W w0:World)(br lL bo g cap:Nat)(r:List Int)(x0 y0 x1 y1:Int)(v:Value)(rows:List (List Int)):Prop where
 JM:Wd w0
 below:Below w0.heap.size w0 W
 Up:w0.heap.size<=bo
 Cg:Boxed W bo 272 v
 own:W.ownsRow w0.heap.size 276 3 v rows.length (aJ [i6,i6,i6] rows)
 FY:Boxed W lL 319 (.pointer (some ⟨g,0,none⟩))
 vz:jX W g cap r
 eQ:W.heap[br]?=some (.cells #[.int .i64 x0,.int .i64 y0,.int .i64 x1,.int .i64 y1] 54 (0,0))
def abu(K:Act->World->Prop):Exit->Act->World->Prop
 |.normal,a,w=>K a w
 |_,_,_=>False
theorem p8{F:Fence}{P:Program}{c:Code}{K:Act->World->Prop}{Q:Exit->Act->World->Prop}{a:Act}(h:c.wpIn F n P (abu K) a w):c.wpIn F n P (Exit.then K Q) a w:=
 wpIn_mono h fun e a w hq=>by
   cases e with
   |normal=>exact hq
   |_=>exact hq.elim
theorem NI{w':World}{xs:List Value}(h:w.ownsRow B e sz v n xs)(hb:Below w.heap.size w w'):w'.ownsRow B e sz v n xs:=by
 obtain⟨hl,h|⟨g,cap,cur,e1,hg,hh,rest⟩⟩:=h;exact⟨hl,.inl h⟩;exact⟨hl,.inr ⟨g,cap,cur,e1,hg,(hb.block g (sy.1 hh).1).trans hh,rest⟩⟩
section
variable {W W' w0:World}{br lL bo g cap:Nat}{r:List Int}{x0 y0 x1 y1:Int}{v:Value}{rows:List (List Int)}
theorem LoopIn.wd(h:LoopIn W w0 br lL bo g cap r x0 y0 x1 y1 v rows):Wd W:=BZ _ _ h.JM h.below
theorem LoopIn.on(h:LoopIn W w0 br lL bo g cap r x0 y0 x1 y1 v rows)(hb:Below W.heap.size W W'):LoopIn W' w0 br lL bo g cap r x0 y0 x1 y1 v rows:=
 ⟨h.JM,h.below.trans (hb.mono h.below.size),h.Up,fY h.Cg hb,NI h.own hb,fY h.FY hb,h.vz.below hb,(hb.block br (sy.1 h.eQ).1).trans h.eQ⟩
theorem LoopIn.grown(h:LoopIn W w0 br lL bo g cap r x0 y0 x1 y1 v rows){row:Option Nat}(hg:W.grownBy W' row)(hn:∀k,row=some k->w0.heap.size<=k/\k≠bo/\k≠lL/\k≠g/\k≠br/\v.ownBlock≠some k):LoopIn W' w0 br lL bo g cap r x0 y0 x1 y1 v rows:=by
 refine⟨h.JM,h.below.grown hg h.below.size fun k e=>(hn k e).1,h.Up,h.Cg.kept hg fun e=>(hn bo e.symm).2.1 rfl,h.own.kept hg ?_,h.FY.kept hg fun e=>(hn lL e.symm).2.2.1 rfl,h.vz.fT hg.size (hg.block g h.vz.1 fun e=>(hn g e.symm).2.2.2.1 rfl),(hg.block br (sy.1 h.eQ).1 fun e=>(hn br e.symm).2.2.2.2.1 rfl).trans h.eQ⟩;rcases h.own.2 with⟨rfl,_⟩|⟨g',_,_,rfl,_⟩;exact .inl rfl;refine .inr fun e=>?_;exact(hn g' (by rw[<- e];rfl)).2.2.2.2.2 rfl
end
noncomputable def gO(t:Bool)(x0 y0 x1 y1 k0:Int)(i:Nat)(p:Int×Int):List (List Int):=
 if og x0 y0 x1 y1 (px t p.1 p.2) (py t p.1 p.2)then [[wrap64 (k0+i),px t p.1 p.2,py t p.1 p.2]]else []
noncomputable def eG(t:Bool)(x0 y0 x1 y1 k0:Int):List (Int×Int)->List (List Int):=fun ps=>(List.range ps.length).flatMap fun i=>gO t x0 y0 x1 y1 k0 i (ps.getD i (0,0))
theorem vA(t:Bool)(x0 y0 x1 y1 k0:Int)(ps:List (Int×Int))(p:Int×Int):eG t x0 y0 x1 y1 k0 (ps++[p])=eG t x0 y0 x1 y1 k0 ps++gO t x0 y0 x1 y1 k0 ps.length p:=by
 unfold eG;rw[fE,List.length_singleton,List.range_succ,List.flatMap_append];congr 1;simp only[List.flatMap];congr 1;refine zF fun i hi=>?_;have hi:=tk.1 hi;simp only[cm,p9 hi];simp
theorem RJ{α β:Type}{f:α->List β}(hf:∀x,(f x).length<=1):∀l:List α,(l.flatMap f).length<=l.length:=by
 intro l;induction l with
 |nil=>simp
 | cons x l ih=>
   have:=hf x;simp only[List.flatMap_cons,fE,pf];omega
theorem H2(t:Bool)(x0 y0 x1 y1 k0:Int)(i:Nat)(p:Int×Int):(gO t x0 y0 x1 y1 k0 i p).length<=1:=by
 unfold gO;generalize og x0 y0 x1 y1 (px t p.1 p.2) (py t p.1 p.2)=b;cases b;exact Nat.zero_le _;exact ga _
theorem xF(t:Bool)(x0 y0 x1 y1 k0:Int)(ps:List (Int×Int)):(eG t x0 y0 x1 y1 k0 ps).length<=ps.length:=by
 have:=RJ (f:=fun i=>gO t x0 y0 x1 y1 k0 i (ps.getD i (0,0))) (fun i=>H2 ..) (List.range ps.length);rwa[List.length_range]at this
structure LI(w0:World)(br lL bo bk n1 g cap:Nat)(r:List Int)(x0 y0 x1 y1 k0 m:Int)(rows:List (List Int))(pre:List (Int×Int))(W:World):Prop where
 lo:∃v,LoopIn W w0 br lL bo g cap r x0 y0 x1 y1 v (rows++eG (qb r 4) x0 y0 x1 y1 k0 pre)
 hk:Boxed W bk 3 (.int .i64 (wrap64 (k0+pre.length)))
 hw:Boxed W n1 319 (.pointer (some ⟨g,0,none⟩))
 hm:Boxed W (n1+1+1) 3 (.int .i64 m)
 hu:∃u,Boxed W (n1+1) 3 u
section
variable {w0 W W':World}{br lL bo bk n1 g cap:Nat}{r:List Int}{x0 y0 x1 y1 k0 m:Int}{rows:List (List Int)}{pre:List (Int×Int)}
theorem LI.on(h:LI w0 br lL bo bk n1 g cap r x0 y0 x1 y1 k0 m rows pre W)(hb:Below W.heap.size W W'):LI w0 br lL bo bk n1 g cap r x0 y0 x1 y1 k0 m rows pre W':=by
 obtain⟨⟨v,lo⟩,hk,hw,hm,⟨u,hu⟩⟩:=h;exact⟨⟨v,lo.on hb⟩,fY hk hb,fY hw hb,fY hm hb,⟨u,fY hu hb⟩⟩
theorem LI.put(h:LI w0 br lL bo bk n1 g cap r x0 y0 x1 y1 k0 m rows pre W){l:Nat}{o o':Obj}(hl:W.heap[l]?=some o)(ho:o.isCells=false)(h0:w0.heap.size<=l)(hg:g<l):LI w0 br lL bo bk n1 g cap r x0 y0 x1 y1 k0 m rows pre (W.putObj l o'):=by
 obtain⟨⟨v,lo⟩,hk,hw,hm,⟨u,hu⟩⟩:=h;have iM:=grownBy_putObj' W l o';have ne:∀ {B:Nat} {t:TypeId} {x:Value},Boxed W B t x->B≠l:=fun hb e=>by
   subst e;rw[show W.heap[_]?=_ from hb]at hl;cases hl;cases ho
 have ne':∀ {B:Nat} {t:TypeId} {x:Value},Boxed W B t x->some B≠some l:=fun hb e=>ne hb (by cases e;rfl);refine⟨⟨v,lo.grown iM fun k e=>?_⟩,hk.kept iM (ne' hk),hw.kept iM (ne' hw),hm.kept iM (ne' hm),⟨u,hu.kept iM (ne' hu)⟩⟩;cases e;refine⟨h0,fun e=>ne lo.Cg e.symm,fun e=>ne lo.FY e.symm,by omega,fun e=>?_,fun e=>?_⟩;subst e;rw[lo.eQ]at hl;cases hl;cases ho;rcases lo.own.2 with⟨rfl,_⟩|⟨g',_,cur,rfl,_,hh,_⟩;cases e;cases e;rw[hh]at hl;cases hl;cases ho
theorem LI.amY(h:LI w0 br lL bo bk n1 g cap r x0 y0 x1 y1 k0 m rows pre W)(u':Value)(h0:w0.heap.size<=n1)(hn:n1+1≠bo/\n1+1≠lL/\n1+1≠g/\n1+1≠br/\n1+1≠bk):LI w0 br lL bo bk n1 g cap r x0 y0 x1 y1 k0 m rows pre (W.setCell ⟨n1+1,0,none⟩ u'):=by
 obtain⟨⟨v,lo⟩,hk,hw,hm,⟨u,hu⟩⟩:=h;have iM:=grownBy_setCell' W (n1+1) u';refine⟨⟨v,lo.grown iM fun k e=>?_⟩,hk.other (Ne.symm hn.2.2.2.2) _,hw.other (by omega) _,hm.other (by omega) _,⟨u',hu.set _⟩⟩;cases e;exact⟨by omega,hn.1,hn.2.1,hn.2.2.1,hn.2.2.2.1,fun e=>hu.not_row (by decide) lo.own e.symm⟩
end
theorem mD{xs:List Value}(h:W.heap[g]?=some (.cells cs t z))(hte:t≠e)(hr:W.ownsRow B e sz v n xs):some g≠v.ownBlock:=by
 rcases hr.2 with⟨rfl,_⟩|⟨g',cap,cur,rfl,_,Ep,_⟩;simp[Value.ownBlock];intro e';obtain rfl:g=g':=by simpa[Value.ownBlock]using e'
 rw[h]at Ep;cases Ep;exact hte rfl
theorem mR{B':Nat}{v':Value}(h:Boxed W B t v)(h':Boxed W B' t' v')(ht:t≠t'):B≠B':=fun e=>by
 subst e;have:=(show W.heap[B]?=_ from h).symm.trans h';simp at this;exact ht this.2
theorem fa(h:Boxed W B t v)(h':W.heap[g]?=some (.cells cs t' z))(ht:t≠t'):B≠g:=fun e=>by
 subst e;have:=(show W.heap[B]?=_ from h).symm.trans h';simp at this;exact ht this.2.1
theorem H3(ks:List CK):∀(a b:List (List Int)),aJ ks (a++b)=aJ ks a++aJ ks b:=by
 intro a;induction a with
 |nil=>intro b;rfl
 |cons x a ih=>intro b;simp[aJ,ih]
theorem zE(W:World)(a b c:Value)(t:TypeId)(j:Nat)(u:Value)(h: [a,b,c][j]?=some u):(W.alloc (.cells #[a,b,c] t)).cell? ((⟨W.heap.size,0,none⟩:Addr).add j)=some u:=by
 have hn:=World.alloc_heap_new W (.cells #[a,b,c] t)
 match j,h with
 | 0,h=>
   cases h;rw[show(⟨W.heap.size,0,none⟩:Addr).add 0=⟨W.heap.size,0,none⟩from rfl];unfold World.cell?;dsimp only;rw[hn];rfl
 | 1,h=>
   cases h;rw[show(⟨W.heap.size,0,none⟩:Addr).add 1=⟨W.heap.size,1,none⟩from rfl];unfold World.cell?;dsimp only;rw[hn];rfl
 | 2,h=>
   cases h;rw[show(⟨W.heap.size,0,none⟩:Addr).add 2=⟨W.heap.size,2,none⟩from rfl];unfold World.cell?;dsimp only;rw[hn];rfl
 |j+3,h=>simp at h
section
variable {w0 w2 w3:World}{br lL bo bk n1 g cap:Nat}{r:List Int}{x0 y0 x1 y1 k0 m:Int}{rows:List (List Int)}{pre:List (Int×Int)}{v2 v3 kv ub:Value}{D1:List (List Int)}{tmp:Obj}{news:List Value}
theorem Ak(jb:LoopIn w2 w0 br lL bo g cap r x0 y0 x1 y1 v2 D1)(hk:Boxed w2 bk 3 kv)(qZ:(w2.alloc tmp).grownBy w3 v2.ownBlock):Boxed (w3.setCell ⟨bo,0,none⟩ v3) bk 3 kv:=
 ((hk.alloc tmp).kept qZ (hk.not_row (by decide) jb.own)).other (mR hk jb.Cg (by decide)) _
theorem LI.hit(p:Int×Int)(jb:LoopIn w2 w0 br lL bo g cap r x0 y0 x1 y1 v2 (rows++eG (qb r 4) x0 y0 x1 y1 k0 pre))(hk:Boxed w2 bk 3 (.int .i64 (wrap64 (k0+pre.length))))(hw:Boxed w2 n1 319 (.pointer (some ⟨g,0,none⟩)))(hm:Boxed w2 (n1+1+1) 3 (.int .i64 m))(hu:Boxed w2 (n1+1) 3 ub)
   (hB:w0.heap.size<=bk) (hbn:bk<n1) (hp:og x0 y0 x1 y1 (px (qb r 4) p.1 p.2) (py (qb r 4) p.1 p.2)=true)
   (qZ:(w2.alloc tmp).grownBy w3 v2.ownBlock) (bR:w3.ownsRow w0.heap.size 276 3 v3 ((rows++eG (qb r 4) x0 y0 x1 y1 k0 pre).length+1) (aJ [i6,i6,i6] (rows++eG (qb r 4) x0 y0 x1 y1 k0 pre)++[.int .i64 (wrap64 (k0+pre.length)),.int .i64 (px (qb r 4) p.1 p.2),.int .i64 (py (qb r 4) p.1 p.2)])) (B:Nat) :
   Xa.Lz B w2 ((w3.setCell ⟨bo,0,none⟩ v3).setCell ⟨bk,0,none⟩ (.int .i64 (wrap64 (wrap64 (k0+pre.length)+1))))/\((w3.setCell ⟨bo,0,none⟩ v3).setCell ⟨bk,0,none⟩ (.int .i64 (wrap64 (wrap64 (k0+pre.length)+1)))).heap[n1+1]?=w2.heap[n1+1]?/\
   LI w0 br lL bo bk n1 g cap r x0 y0 x1 y1 k0 m rows (pre++[p]) ((w3.setCell ⟨bo,0,none⟩ v3).setCell ⟨bk,0,none⟩ (.int .i64 (wrap64 (wrap64 (k0+pre.length)+1)))):=by
 have vK:=jb.below.size;obtain⟨Ur,XP,Ux,vq,vL⟩:=jb.Cg.appended (by decide) jb.own vK jb.Up bR qZ;obtain⟨csg,zg,pn⟩:=jb.vz.2.2;have kb:=Ak (v3:=v3) jb hk qZ;have kw:Boxed (w3.setCell ⟨bo,0,none⟩ v3) n1 319 _:=((hw.alloc tmp).kept qZ (hw.not_row (by decide) jb.own)).other (mR hw jb.Cg (by decide)) _;have km:=Ak (v3:=v3) jb hm qZ;have ku:=Ak (v3:=v3) jb hu qZ;have kwy:Boxed (w3.setCell ⟨bo,0,none⟩ v3) lL 319 _:=((jb.FY.alloc tmp).kept qZ (jb.FY.not_row (by decide) jb.own)).other (mR jb.FY jb.Cg (by decide)) _;have F6:∀k,k<w2.heap.size->some k≠v2.ownBlock->k≠bo->(w3.setCell ⟨bo,0,none⟩ v3).heap[k]?=w2.heap[k]? :=fun k hk h1 h2=>
   (Below.heap_setCell _ _ _ k h2).trans ((qZ.block k (by simp;omega) h1).trans (Below.heap_alloc _ _ _ hk))
 have sB:=F6 br (sy.1 jb.eQ).1 (mD jb.eQ (by decide) jb.own) (Ne.symm (fa jb.Cg jb.eQ (by decide)));have hgg:=F6 g jb.vz.1 (mD pn (by decide) jb.own) (Ne.symm (fa jb.Cg pn (by decide)));have hbl:Below w0.heap.size w0 (w3.setCell ⟨bo,0,none⟩ v3):=jb.below.trans vL;have iw:rows++eG (qb r 4) x0 y0 x1 y1 k0 (pre++[p])=(rows++eG (qb r 4) x0 y0 x1 y1 k0 pre)++[[wrap64 (k0+pre.length),px (qb r 4) p.1 p.2,py (qb r 4) p.1 p.2]]:=by
   rw[vA,<- OJ];unfold gO;rw[if_pos hp]
 have lo3:LoopIn (w3.setCell ⟨bo,0,none⟩ v3) w0 br lL bo g cap r x0 y0 x1 y1 v3 (rows++eG (qb r 4) x0 y0 x1 y1 k0 (pre++[p])):=by
   refine⟨jb.JM,hbl,jb.Up,XP,?_,kwy,jb.vz.fT vq.size hgg,sB.trans jb.eQ⟩;rw[iw,H3,fE];exact Ux
 have hg4:=grownBy_setCell' (w3.setCell ⟨bo,0,none⟩ v3) bk (.int .i64 (wrap64 (wrap64 (k0+pre.length)+1)));have lo4:=lo3.grown hg4 fun k e=>by
   cases e;refine⟨hB,mR kb XP (by decide),mR kb kwy (by decide),fa kb (hgg.trans pn) (by decide),fa kb (sB.trans jb.eQ) (by decide),fun e=>kb.not_row (by decide) Ux e.symm⟩
 refine⟨fun k o _ ho hc=>(KeepsOthers.setCell _ _ _).same k o (vq.same k o ho hc) hc,?_,⟨v3,lo4⟩,?_,kw.other (by omega) _,km.other (by omega) _,⟨ub,ku.other (by omega) _⟩⟩;rw[Below.heap_setCell _ _ _ _ (by show n1+1≠bk;omega)];exact(show _=_ from ku).trans (show _=_ from hu).symm;have:=kb.set (.int .i64 (wrap64 (wrap64 (k0+pre.length)+1)));rw[fE,List.length_singleton];have e:wrap64 (k0+((pre.length+1:Nat):Int))=wrap64 (wrap64 (k0+pre.length)+1):=by rw[wrap_wrap];congr 1;omega
 rw[e];exact this
theorem LI.amZ(p:Int×Int)(h:LI w0 br lL bo bk n1 g cap r x0 y0 x1 y1 k0 m rows pre w2)(hB:w0.heap.size<=bk)(hbn:bk<n1)(hp:og x0 y0 x1 y1 (px (qb r 4) p.1 p.2) (py (qb r 4) p.1 p.2)=false)(B:Nat) :
   Xa.Lz B w2 (w2.setCell ⟨bk,0,none⟩ (.int .i64 (wrap64 (wrap64 (k0+pre.length)+1))))/\(w2.setCell ⟨bk,0,none⟩ (.int .i64 (wrap64 (wrap64 (k0+pre.length)+1)))).heap[n1+1]?=w2.heap[n1+1]?/\
   LI w0 br lL bo bk n1 g cap r x0 y0 x1 y1 k0 m rows (pre++[p]) (w2.setCell ⟨bk,0,none⟩ (.int .i64 (wrap64 (wrap64 (k0+pre.length)+1)))):=by
 obtain⟨⟨v2,jb⟩,hk,hw,hm,⟨ub,hu⟩⟩:=h;obtain⟨csg,zg,pn⟩:=jb.vz.2.2;have hg4:=grownBy_setCell' w2 bk (.int .i64 (wrap64 (wrap64 (k0+pre.length)+1)));have lo4:=jb.grown hg4 fun k e=>by
   cases e;exact⟨hB,mR hk jb.Cg (by decide),mR hk jb.FY (by decide),fa hk pn (by decide),fa hk jb.eQ (by decide),fun e=>hk.not_row (by decide) jb.own e.symm⟩
 have iw:eG (qb r 4) x0 y0 x1 y1 k0 (pre++[p])=eG (qb r 4) x0 y0 x1 y1 k0 pre:=by
   rw[vA];unfold gO;rw[hp];exact vM _
 refine⟨fun k o _ ho hc=>(KeepsOthers.setCell _ _ _).same k o ho hc,Below.heap_setCell _ _ _ _ (by show n1+1≠bk;omega),⟨v2,by rw[iw];exact lo4⟩,?_,hw.other (by omega) _,hm.other (by omega) _,⟨ub,hu.other (by omega) _⟩⟩;have:=hk.set (.int .i64 (wrap64 (wrap64 (k0+pre.length)+1)));rw[fE,List.length_singleton];have e:wrap64 (k0+((pre.length+1:Nat):Int))=wrap64 (wrap64 (k0+pre.length)+1):=by rw[wrap_wrap];congr 1;omega
 rw[e];exact this
end
end
section
open Go.Sx Go.RowKit Go.Shelf Go Xa
attribute [local go_sem] Oper.semAt_some
def B0:Code->Code×Code
 |.seq _ (.seq (.seq _ b) c)=>(b,c)
 |c=>(c,c)
noncomputable def FZ:Code:=(B0 pZ).1
noncomputable def JN:Code:=(B0 pZ).2
theorem LA:(Tryz.prog.info? 276).map (fun i=>(i.zero,i.size,i.bytes))=some (some (.agg #[.int .i64 0,.int .i64 0,.int .i64 0]),3,24):=by kernel_rfl
noncomputable abbrev Al(w0:World)(rows:List (List Int)):Exit->Act->World->Prop:=bodyPostM Fence.wide 5 Tryz.prog Tryz.f169 fun e W'=>∃v',e = .returned v'/\Below w0.heap.size w0 W'/\W'.ownsRow w0.heap.size 276 3 v' rows.length (aJ [i6,i6,i6] rows)
set_option maxHeartbeats 4000000 in
theorem Xb(hr:gX){W W1 w0:World}{br lL bo bk g cap:Nat}{r:List Int}{x0 y0 x1 y1:Int}{v:Value}{rows:List (List Int)}(h:LoopIn W w0 br lL bo g cap r x0 y0 x1 y1 v rows)(iP:lH r)
   {k0 u0 m:Int} (XK:Boxed W bk 3 (.int .i64 k0)) (hwk:wrap64 k0=k0) (afK:w0.heap.size<=bk) (anv:bk≠g/\bo≠g) (Ob: -8388608<=u0/\u0<=8388608) (hm:0<=m/\m<=1000) (hlen:rows.length<=1000) (sA:gR x0) (J2:gR y0) (P4:gR x1) (Xc:gR y1)
   (yb:Below W.heap.size W W1) {K:Act->World->Prop} (hK:∀a w,JN.wpIn Fence.wide 5 Tryz.prog (Al w0 (rows++eG (qb r 4) x0 y0 x1 y1 k0 (iL r u0 m.toNat))) a w->K a w) {t0 t1 t2 t3 t4 t6 t9 t10 t11 t12 t13 t14 t15 t16 t18 t19 t20 t21 t22 t23 t24 t25 t26 t27 t28 t29 t30 t31 t32 t33 t34 t35 t36 t37 t38 t39 t40 t41 t42 t43 t44 t45 t46 t47 t48 t49 t50 t51 t52 t53 t54 t55 t56 t57 t58 t59 t60 t61 t62 t63 t64 t65 t66 t67 t68 t69 t70 t71 t72 t73 t74 t75 t76 t77 t78 t79 t80 t81 t82 t83 t84 t85 t86 t87 t88 t89 t90 t91 t92 t93 t94 t95 t96 t97 t98 t99 t100 t101 t102 t103 t104 t105 t106 t107 t108 t109 t110 t111 t112 t113 t114 t115 t116 t117 t118 t119 t120 t121 t122 t123 t124 t125 t126 t127 t128 t129 t130 t131 t132 t133 t134 t135 t137 t138 t139 t140 t141 t142 t143 t144 t145 t146 t147 t148 t149 t150 t151 t152 t153 t154 t155 t156 t157 t158 t159:Value} :
   FZ.wpIn Fence.wide 5 Tryz.prog (Exit.then K (Al w0 (rows++eG (qb r 4) x0 y0 x1 y1 k0 (iL r u0 m.toNat))))
     {tmps:=#[t0,t1,t2,t3,t4,.pointer (some ⟨br,0,none⟩),t6,.pointer (some ⟨lL,0,none⟩),.pointer (some ⟨bo,0,none⟩),t9,t10,t11,t12,t13,t14,t15,t16,.pointer (some ⟨bk,0,none⟩),t18,t19,t20,t21,t22,t23,t24,t25,t26,t27,t28,t29,t30,t31,t32,t33,t34,t35,t36,t37,t38,t39,t40,t41,t42,t43,t44,t45,t46,t47,t48,t49,t50,t51,t52,t53,t54,t55,t56,t57,t58,t59,t60,t61,t62,t63,t64,t65,t66,t67,t68,t69,t70,t71,t72,t73,t74,t75,t76,t77,t78,t79,t80,t81,t82,t83,t84,t85,t86,t87,t88,t89,t90,t91,t92,t93,t94,t95,t96,t97,t98,t99,t100,t101,t102,t103,t104,t105,t106,t107,t108,t109,t110,t111,t112,t113,t114,t115,t116,t117,t118,t119,t120,t121,t122,t123,t124,t125,t126,t127,t128,t129,t130,t131,t132,t133,t134,t135,.func (.func 249) #[] #[.pointer (some ⟨W1.heap.size,0,none⟩),.pointer (some ⟨W1.heap.size+1,0,none⟩),.pointer (some ⟨W1.heap.size+1+1,0,none⟩)],t137,t138,t139,t140,t141,t142,t143,t144,t145,t146,t147,t148,t149,t150,t151,t152,t153,t154,t155,t156,t157,t158,t159],defers:=[] } (((W1.alloc (.cells #[.pointer (some ⟨g,0,none⟩)] 319)).alloc (.cells #[.int .i64 u0] 3)).alloc (.cells #[.int .i64 m] 3)):=by
 simp only[JN,B0,pZ,behind,lI,Tryz.f169,Option.getD,Nat.beq,jU,if_false,if_true]at hK;simp only[FZ,B0,pZ,behind,lI,Tryz.f169,Option.getD,Nat.beq,jU,if_false,if_true];obtain⟨i0,hi,NW,YH,hz2⟩:=info_parts LA;have vK:(((W1.alloc (.cells #[.pointer (some ⟨g,0,none⟩)] 319)).alloc (.cells #[.int .i64 u0] 3)).alloc (.cells #[.int .i64 m] 3)).heap.size=W1.heap.size+3:=by simp
 have am0:Boxed (((W1.alloc (.cells #[.pointer (some ⟨g,0,none⟩)] 319)).alloc (.cells #[.int .i64 u0] 3)).alloc (.cells #[.int .i64 m] 3)) W1.heap.size 319 (.pointer (some ⟨g,0,none⟩)):=((Boxed.new W1 319 (.pointer (some ⟨g,0,none⟩))).alloc _).alloc _;have afL:Boxed (((W1.alloc (.cells #[.pointer (some ⟨g,0,none⟩)] 319)).alloc (.cells #[.int .i64 u0] 3)).alloc (.cells #[.int .i64 m] 3)) (W1.heap.size+1) 3 (.int .i64 u0):=by
   have:=(Boxed.new (W1.alloc (.cells #[.pointer (some ⟨g,0,none⟩)] 319)) 3 (.int .i64 u0)).alloc (.cells #[.int .i64 m] 3);rwa[World.size_alloc]at this
 have am1:Boxed (((W1.alloc (.cells #[.pointer (some ⟨g,0,none⟩)] 319)).alloc (.cells #[.int .i64 u0] 3)).alloc (.cells #[.int .i64 m] 3)) (W1.heap.size+1+1) 3 (.int .i64 m):=by
   have:=Boxed.new ((W1.alloc (.cells #[.pointer (some ⟨g,0,none⟩)] 319)).alloc (.cells #[.int .i64 u0] 3)) 3 (.int .i64 m);rwa[World.size_alloc,World.size_alloc]at this
 have vL:Below W.heap.size W (((W1.alloc (.cells #[.pointer (some ⟨g,0,none⟩)] 319)).alloc (.cells #[.int .i64 u0] 3)).alloc (.cells #[.int .i64 m] 3)):=((yb.alloc yb.size _).alloc (by have:=yb.size;simp;omega) _).alloc (by have:=yb.size;simp;omega) _;have hle:=yb.size;have hB0:=h.below.size;have l1:=XK.lt;have l2:=h.Cg.lt;have l3:=h.FY.lt;have l4:=h.vz.1;have l5:=(sy.1 h.eQ).1;have Ul:LI w0 br lL bo bk W1.heap.size g cap r x0 y0 x1 y1 k0 m rows [] (((W1.alloc (.cells #[.pointer (some ⟨g,0,none⟩)] 319)).alloc (.cells #[.int .i64 u0] 3)).alloc (.cells #[.int .i64 m] 3)):=
   ⟨⟨v,by simpa[eG]using h.on vL⟩,by simpa[hwk]using fY XK vL,am0,am1,⟨_,afL⟩⟩
 gi_wp2
 refine NJ (n:=5) (gf:=249) (lb:=#[.pointer (some ⟨W1.heap.size,0,none⟩),.pointer (some ⟨W1.heap.size+1,0,none⟩),.pointer (some ⟨W1.heap.size+1+1,0,none⟩)]) rfl (enters_of Tryz.func249 (by kernel_rfl) rfl)
   (RK:=fun p:Int×Int=>#[.int .i64 p.1,.int .i64 p.2]) (fun _=>rfl) (xs:=iL r u0 m.toNat)
   (LI w0 br lL bo bk W1.heap.size g cap r x0 y0 x1 y1 k0 m rows) (afI (W1.heap.size+1)) (fun A B=>B.heap[W1.heap.size+1]?=A.heap[W1.heap.size+1]?)
   (fun pre A l o o' hI h0 hl ho=>hI.put hl ho (by rw[vK]at h0;omega) (by rw[vK]at h0;omega))
   (fun pre A o hI=>hI.on ((Below.refl _ _).alloc (ga _) _))
   (fun pre A B hI hs=>?stable) (fun A B hs=>?stays) (fun h1 h2=>h2.trans h1) (fun A l o h0=>World.putObj_heap_other (by rw[vK]at h0;omega)) Ul
   (fun p=>{tmps:=#[t0,t1,t2,t3,t4,.pointer (some ⟨br,0,none⟩),t6,.pointer (some ⟨lL,0,none⟩),.pointer (some ⟨bo,0,none⟩),t9,t10,t11,t12,t13,t14,t15,t16,.pointer (some ⟨bk,0,none⟩),.int .i64 p.1,.int .i64 p.2,t20,t21,t22,t23,t24,t25,t26,t27,t28,t29,t30,t31,t32,t33,t34,t35,t36,t37,t38,t39,t40,t41,t42,t43,t44,t45,t46,t47,t48,t49,t50,t51,t52,t53,t54,t55,t56,t57,t58,t59,t60,t61,t62,t63,t64,t65,t66,t67,t68,t69,t70,t71,t72,t73,t74,t75,t76,t77,t78,t79,t80,t81,t82,t83,t84,t85,t86,t87,t88,t89,t90,t91,t92,t93,t94,t95,t96,t97,t98,t99,t100,t101,t102,t103,t104,t105,t106,t107,t108,t109,t110,t111,t112,t113,t114,t115,t116,t117,t118,t119,t120,t121,t122,t123,t124,t125,t126,t127,t128,t129,t130,t131,t132,t133,t134,t135,.func (.func 249) #[] #[.pointer (some ⟨W1.heap.size,0,none⟩),.pointer (some ⟨W1.heap.size+1,0,none⟩),.pointer (some ⟨W1.heap.size+1+1,0,none⟩)],.int .i64 p.1,.int .i64 p.2,t139,t140,t141,t142,t143,t144,t145,t146,t147,t148,t149,t150,t151,t152,t153,t154,t155,t156,t157,t158,t159],defers:=[] }) ?iter ?assign ?body ?done (by omega)
 case stable=>
   rcases hs with hs|⟨u,rfl⟩;exact hI.on hs;exact hI.amY u (by omega) ⟨by omega,by omega,by omega,by omega,by omega⟩
 case stays=>
   intro k o hk ho hc;rcases hs with hs|⟨u,rfl⟩;exact(hs.block k (sy.1 ho).1).trans ho;exact(KeepsOthers.setCell A _ u).same k o ho hc
 case iter=>
   intro l J A LB h0 hJI hJS hY;have hAu:Boxed A (W1.heap.size+1) 3 (.int .i64 u0):=(LB _ (by rw[vK];omega)).trans afL;exact W7 hr iP Ob hm J A h0 (fun pre B hB=>by
     obtain⟨⟨v',lo⟩,_,hw,hm,hu⟩:=hJI pre B hB;exact⟨⟨lo.wd,hw.cell,hm.cell,lo.vz⟩,hu⟩) hJS hAu hY
 case assign=>
   intro l p A K hK
   gi_wp2
   exact hK
 case body=>
   intro l pre p A hI cM;have hac:=(zC hr h.wd h.vz iP Ob).1;obtain⟨Nf,hp2⟩:=RH Ob ⟨by omega,by omega⟩ cM;obtain⟨hpx,hpy⟩:=Ly (t:=qb r 4) Nf hp2;obtain⟨⟨v',lo⟩,hkb,hwb,hmb,⟨ub,hub⟩⟩:=id hI;have C6:(rows++eG (qb r 4) x0 y0 x1 y1 k0 pre).length<=2000:=by
     have h1:=xF (qb r 4) x0 y0 x1 y1 k0 pre;have h2:=(dw.1 cM).1;have h3:(iL r u0 m.toNat).length=m.toNat:=by simp[iL]
     rw[fE];omega
   have aaF:(4000:Nat)<=maxLen:=by decide
   have hwc:=lo.FY.cell;have h4:=lo.vz.bool 4 rfl;have c0:A.cell? ⟨br,0,none⟩=some (.int .i64 x0):=by simp[World.cell?,lo.eQ]
   have c1:A.cell? ⟨br,1,none⟩=some (.int .i64 y0):=by simp[World.cell?,lo.eQ]
   have c2:A.cell? ⟨br,2,none⟩=some (.int .i64 x1):=by simp[World.cell?,lo.eQ]
   have c3:A.cell? ⟨br,3,none⟩=some (.int .i64 y1):=by simp[World.cell?,lo.eQ]
   gi_wp2_with (first
     |(refine⟨trivial,?_⟩;gi_at_call 209;refine(CallsIn.inRound l (callsIn_wide.2 (BY h4 _ _))).mono ?_;rintro e w1 ⟨rfl,rfl⟩)
     |(refine⟨trivial,?_⟩;gi_at_call 168;refine(CallsIn.inRound l (callsIn_wide.2 (H0 hr lo.wd sA J2 P4 Xc hpx hpy).2)).mono ?_;rintro e w2 ⟨rfl,hbw⟩;have XJ:=hI.on hbw;clear hwc h4 c0 c1 c2 c3;obtain⟨⟨v2,jb⟩,Xe,am2,am3,⟨ub2,am4⟩⟩:=id XJ;have anw:=jb.Cg.cell;have anx:=Xe.cell;have anz:=Xe.frozen)
     |(gi_at_builtin;refine wpListIn_append_own _ rfl _ _ 272 rfl w0.heap.size 276 i0 (.agg #[.int .i64 0,.int .i64 0,.int .i64 0]) 3 24 Tryz.underlying272 hi NW YH hz2 rfl (by decide) _ _ _ rfl (jb.own.alloc _) ⟨w2.heap.size,0,none⟩ 1 1 [.int .i64 (wrap64 (k0+pre.length)),.int .i64 (px (qb r 4) p.1 p.2),.int .i64 (py (qb r 4) p.1 p.2)] rfl rfl (zE _ _ _ _ _) (by simp[Value.oneCell']) (by omega) (by omega) (by have:=jb.below.size;simp;omega) ?_;intro v3 w3 B2 yL _;obtain⟨g',qy,rfl⟩:=ownsRow_succ B2;obtain⟨Ur,XP,Ux,vq,am5⟩:=jb.Cg.appended (by decide) jb.own jb.below.size jb.Up B2 yL;have uu:=Ur.cell;have hf1:=Ur.frozen;have abv:=Ak (v3:=.slice (some ⟨g',0,none⟩) ((rows++eG (qb r 4) x0 y0 x1 y1 k0 pre).length+1) qy) jb Xe yL;rw[fE]at abv;have anA:=abv.cell;have anB:=abv.frozen))
   obtain⟨a1,a2,a3⟩:=LI.hit p jb Xe am2 am3 am4 afK (by omega) (by assumption) yL B2 (W1.heap.size+3);rw[fE]at a1 a2 a3;exact⟨fun k o hk ho hc=>a1 k o hk ((hbw.block k (sy.1 ho).1).trans ho) hc,a2.trans (hbw.block _ hub.lt),a3⟩;obtain⟨a1,a2,a3⟩:=LI.amZ p XJ afK (by omega) (by assumption) (W1.heap.size+3);exact⟨fun k o hk ho hc=>a1 k o hk ((hbw.block k (sy.1 ho).1).trans ho) hc,a2.trans (hbw.block _ hub.lt),a3⟩
 case done=>
   intro D A hD hI hDf;obtain⟨⟨v',lo⟩,hkb,hwb,hmb,⟨ub,hub⟩⟩:=hI;refine hK _ _ ?_;have hoc:=lo.Cg.cell
   gi_wp2
   refine⟨by simp,.inl ⟨_,_,rfl,run_takeDeferred hDf,?_⟩⟩;exact⟨_,results_tmp rfl _ _ _,v',rfl,lo.below.trans (belowK_b (w:=w0) (ga _) A D _ _ (by rw[vK]at hD;omega) hDf rfl rfl),ownsRow_putObj lo.own _ hDf rfl⟩
end
end Go.Proofs.YtohebioanhliiaaGreatDoor.aN

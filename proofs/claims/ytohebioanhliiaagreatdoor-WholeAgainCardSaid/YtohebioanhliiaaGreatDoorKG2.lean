/- walk.Within: small functions, its iterator. -/
import Derived.Test.YtohebioanhliiaaGreatDoorKB2
import Derived.Test.YtohebioanhliiaaGreatDoorKC1
import Derived.Test.YtohebioanhliiaaGreatDoorKG1
import Derived.Test.YtohebioanhliiaaGreatDoorChecked
import Derived.KernelRfl
import Derived.RangeFuncNested
import Derived.RangeFuncBox
import Derived.RangeFuncBound
import Derived.RangeFuncCalls
import Derived.RangeFuncLeaves
import Derived.Shelf.Abstract
import Derived.Shelf.RegionOpen
import Derived.WalkKit
import Derived.OwnWalkIn
import Derived.TacticsInMore
import Derived.LoopNIn
import Derived.LoopIn
import Derived.Maps.AppendAt
import Derived.Sort.CutIn
set_option maxRecDepth 100000
set_option linter.unusedVariables false
set_option maxRecDepth 20000
set_option linter.unusedSimpArgs false
namespace Go.Proofs.YtohebioanhliiaaGreatDoor.aD
open Go.Sx Go
def kh(k:Nat):Cn:=if Nat.beq k 168 then {kc 168 with post:=[.or (.not (.v R0)) (.and (.and (.le (.v 0) (.v 4)) (.lt (.v 4) (.v 2))) (.and (.le (.v 1) (.v 5)) (.lt (.v 5) (.v 3))))] }else kc k
abbrev small:List Nat:=[65,168,210,211,247,250,251,284,268,207]
noncomputable abbrev z8(i k:Nat):Bool:=Ms (kD Tryz.prog jF) kh an (small.take i) k
theorem y65:z8 0 65=true:=by kernel_rfl
theorem ajO:z8 1 168=true:=by kernel_rfl
theorem ajP:z8 2 210=true:=by kernel_rfl
theorem ajQ:z8 3 211=true:=by kernel_rfl
theorem ajR:z8 4 247=true:=by kernel_rfl
theorem ajS:z8 5 250=true:=by kernel_rfl
theorem ajT:z8 6 251=true:=by kernel_rfl
theorem ajU:z8 7 284=true:=by kernel_rfl
theorem ajV:z8 8 268=true:=by kernel_rfl
theorem ajW:z8 9 207=true:=by kernel_rfl
theorem J4(X:bA):mE (TT Tryz.prog) X kh small:=by
 have h0:mE (TT Tryz.prog) X kh (small.take 0):=fun j hj=>by simp at hj
 have h1:=h0.next (k:=65) rfl (av au h0 y65)
 have h2:=h1.next (k:=168) rfl (av au h1 ajO)
 have h3:=h2.next (k:=210) rfl (av au h2 ajP)
 have h4:=h3.next (k:=211) rfl (av au h3 ajQ)
 have h5:=h4.next (k:=247) rfl (av au h4 ajR)
 have h6:=h5.next (k:=250) rfl (av au h5 ajS)
 have h7:=h6.next (k:=251) rfl (av au h6 ajT)
 have h8:=h7.next (k:=284) rfl (av au h7 ajU)
 have h9:=h8.next (k:=268) rfl (av au h8 ajV)
 have M4:=h9.next (k:=207) rfl (av au h9 ajW)
 exact M4
end Go.Proofs.YtohebioanhliiaaGreatDoor.aD
namespace Go.Proofs.YtohebioanhliiaaGreatDoor.aD
open Go.Sx Go.RowKit Go
abbrev X0:bA:=XX fun _=>none
open Classical in
noncomputable def gv(k:Nat)(ds:List DV):List DV:=if h:∃rs,bK (TT Tryz.prog) X0 k ds rs then Classical.choose h else []
theorem qW{k:Nat}{ds rs:List DV}(h:bK (TT Tryz.prog) X0 k ds rs):gv k ds=rs:=by
 have hx:∃rs,bK (TT Tryz.prog) X0 k ds rs:=⟨rs,h⟩;unfold gv;rw[dif_pos hx];exact(Classical.choose_spec hx).AR h
theorem ni{k:Nat}(hk:k∈small){ds:List DV}(hp:(kh k).fS ds):bK (TT Tryz.prog) X0 k ds (gv k ds)/\(kh k).fX ds (gv k ds):=by
 obtain⟨rs,h1,h2⟩:=J4 X0 k hk ds hp;rw[qW h1];exact⟨h1,h2⟩
theorem iV(hr:jz){k:Nat}{s:bN}(hk:k∈small){r:lN}(hl:jP k jF=some r)(hf:r.f=k)(hs:iD k=some s)(hc:s.cons=0){w:World}{vs:List Value}{ds:List DV}(hw:Wd w)(ha:xJ w s.args vs ds)(hp:(kh k).fS ds) :
   Calls Tryz.prog k vs.toArray w fun e w'=>∃bP,e = .returned (packed (bT s.res bP))/\Below w.heap.size w w'/\fitAll (jO w' w.heap.size) (bD s.res) bP (gv k ds):=by
 have hT:TT Tryz.prog k=some ⟨r.f,fT Tryz.prog r,r.sub⟩:=by
   show kD Tryz.prog jF k=_;simp only[kD,hl]
 have h0:=ajX hr;have h:=ua h0 (ct:=⟨s,(kh k).fS,fun ds rs=>rs=gv k ds,fun ds hd=>⟨gv k ds,by
   obtain⟨⟨n,hn⟩,_⟩:=ni hk hd;exact qL h0 hs hn,rfl⟩⟩) hT hs hc (fun ds _ hd=>⟨gv k ds,(ni hk hd).1,rfl⟩)
 have zd:k=r.f:=hf.symm;have:=h.2 w vs ds hw ha hp;rw[show(⟨r.f,fT Tryz.prog r,r.sub⟩:gR).f=k from hf]at this
 refine this.mono ?_;rintro e w' ⟨bP,fH,e1,e2,e3,_,e5⟩;have e5:fH=gv k ds:=e5;subst e5;exact⟨bP,e1,e2,e3⟩
abbrev wk:List CK:=[i6,i6,i6,i6,.b,i6,i6,i6,.b,.b,i6,i6]
def kG(w:World)(g cap:Nat)(r:List Int):Prop:=g<w.heap.size/\Reads w (.slice (some ⟨g,0,none⟩) 1 cap) 1 (aA wk [r])/\∃cs z,w.heap[g]?=some (.cells cs 323 z)
theorem kG.fG{w w':World}{g cap:Nat}{r:List Int}(h:kG w g cap r)(hs:w.heap.size<=w'.heap.size)(hb:w'.heap[g]?=w.heap[g]?):kG w' g cap r:=
 ⟨Nat.lt_of_lt_of_le h.1 hs,h.2.1.lk fun _ b e=>by simp[Value.ownBlock]at e;subst e;exact hb,by rw[hb];exact h.2.2⟩
theorem kG.below{w w':World}{g cap:Nat}{r:List Int}(h:kG w g cap r)(hb:Below w.heap.size w w'):kG w' g cap r:=h.fG hb.size (hb.block g h.1)
theorem kG.cell{w:World}{g cap:Nat}{r:List Int}(h:kG w g cap r){j:Nat}{u:Value}(hu:(bL wk 0 r)[j]?=some u):w.cell? ⟨g,j,none⟩=some u:=by
 obtain⟨_,⟨base,nN,e,_,_,hc⟩,_⟩:=h;cases e;obtain⟨a,ea,hh⟩:=hc j u (by simpa[aA]using hu)
 cases ea;have e2:(⟨g,0,none⟩:Addr).add j=⟨g,j,none⟩:=by
   by_cases hj:j=0
   . subst hj;rfl
   . simp[Addr.add,hj]
 rw[<- e2];exact hh
structure mG(r:List Int):Prop where
 YT:cn [(-268500000,268500000),(-268500000,268500000),(-268500000,268500000),(-268500000,268500000),(0,1),(0,1),(-1200000,1200000),(-1200000,1200000),(0,1),(0,1),(-1200000,1200000),(-1200000,1200000)] 0 r
 ne:r.getD 2 0≠r.getD 0 0
theorem SK:kh 207=⟨[Pc,Pc,Pc,Pc],[.not (.and (.eq (.v 0) (.v 2)) (.eq (.v 1) (.v 3)))],[tj],[.not (.eq (.get R0 (.c 0) 2) (.get R0 (.c 0) 0))]⟩:=by kernel_rfl
theorem SL:kh 210=⟨[tj],[],[.i 0 2500000],[]⟩:=by kernel_rfl
theorem SM:kh 211=⟨[tj],[],[.i (-1) 1],[]⟩:=by kernel_rfl
theorem acS:kh 250=⟨[tj,.i (-8388608) 8388608],[.not (.eq (.get 0 (.c 0) 2) (.get 0 (.c 0) 0))],[.i (-4611686018427387904) 4611686018427387904,.i 1 549755813888],[]⟩:=by kernel_rfl
theorem SN:kh 251=⟨[tj,.i (-8388608) 8388608],[.not (.eq (.get 0 (.c 0) 2) (.get 0 (.c 0) 0))],[.i (-4611686018427387905) 4611686018427387904],[]⟩:=by kernel_rfl
theorem SO:kh 168=⟨[.i mn mx,.i mn mx,.i mn mx,.i mn mx,.i mn mx,.i mn mx],[],[.b],[.or (.not (.v R0)) (.and (.and (.le (.v 0) (.v 4)) (.lt (.v 4) (.v 2))) (.and (.le (.v 1) (.v 5)) (.lt (.v 5) (.v 3))))]⟩:=by kernel_rfl
theorem k65:(kh 65).args=[.i mn mx,.i mn mx,.i mn mx,.i mn mx]/\(kh 65).pre=[]/\(kh 65).res=[.b]:=⟨by kernel_rfl,by kernel_rfl,by kernel_rfl⟩
theorem acT:jP 207 jF=some (rowOf 207):=by kernel_rfl
theorem acU:jP 210 jF=some (rowOf 210):=by kernel_rfl
theorem acV:jP 211 jF=some (rowOf 211):=by kernel_rfl
theorem acW:jP 250 jF=some (rowOf 250):=by kernel_rfl
theorem acX:jP 251 jF=some (rowOf 251):=by kernel_rfl
theorem acY:jP 168 jF=some (rowOf 168):=by kernel_rfl
theorem ajY:jP 65 jF=some (rowOf 65):=by kernel_rfl
theorem ajZ:iD 207=some HZ:=by kernel_rfl
theorem aj0:iD 210=some H0:=by kernel_rfl
theorem aj1:iD 211=some H2:=by kernel_rfl
theorem aj2:iD 250=some H3:=by kernel_rfl
theorem aj3:iD 251=some H4:=by kernel_rfl
theorem aj4:iD 168=some H5:=by kernel_rfl
theorem s65:iD 65=some SP:=by kernel_rfl
def acZ:List DV->List Int
 | [.l [r]]=>r
 |_=>[]
def NJ:List DV->Int
 | [.i n]=>n
 |_=>0
def aj5:List DV->Int×Int
 | [.i n,.i m]=>(n,m)
 |_=>(0,0)
def NL:List DV->Bool
 | [.b x]=>x
 |_=>false
noncomputable def ui(a0 a1 b0 b1:Int):List Int:=acZ (gv 207 [.i a0,.i a1,.i b0,.i b1])
noncomputable def jQ(r:List Int):Int:=NJ (gv 210 [.l [r]])
noncomputable def eT(r:List Int):Int:=NJ (gv 211 [.l [r]])
noncomputable def dy(r:List Int)(u:Int):Int×Int:=aj5 (gv 250 [.l [r],.i u])
noncomputable def iO(r:List Int)(u:Int):Int:=NJ (gv 251 [.l [r],.i u])
noncomputable def lO(x0 y0 x1 y1 x y:Int):Bool:=NL (gv 168 [.i x0,.i y0,.i x1,.i y1,.i x,.i y])
noncomputable def kV(x0 y0 x1 y1:Int):Bool:=NL (gv 65 [.i x0,.i y0,.i x1,.i y1])
theorem H6{d:DV}(h:tj.has d):∃r,d = .l [r]/\cn [(-268500000,268500000),(-268500000,268500000),(-268500000,268500000),(-268500000,268500000),(0,1),(0,1),(-1200000,1200000),(-1200000,1200000),(0,1),(0,1),(-1200000,1200000),(-1200000,1200000)] 0 r:=by
 cases d with
 | l xs=>
   obtain⟨h1,h2,h3⟩:=h;have h2:=h2 1 rfl
   match xs,h1,h2,h3 with
   | [],h1,_,_=>simp at h1
   | [r],_,_,h3=>exact⟨r,rfl,h3 r (aO ..)⟩
   |_::_::_,_,h2,_=>simp at h2;omega
 |i n=>exact h.elim
 |b x=>exact h.elim
theorem mH{r:List Int}(h:mG r):tj.has (.l [r]):=⟨by simp,fun y e=>by cases e;simp,fun r' hr=>by simp at hr;subst hr;exact h.YT⟩
section
variable (hr:jz){w:World}(hw:Wd w)
theorem NM(hr:jz){w:World}(hw:Wd w){a0 a1 b0 b1:Int}(h0: -268500000<=a0/\a0<=268500000)(h1: -268500000<=a1/\a1<=268500000)(h2: -268500000<=b0/\b0<=268500000)(h3: -268500000<=b1/\b1<=268500000)(cx:¬(a0=b0/\a1=b1)) :
   mG (ui a0 a1 b0 b1)/\Calls Tryz.prog 207 #[.agg #[.int .i64 a0,.int .i64 a1],.agg #[.int .i64 b0,.int .i64 b1]] w fun e w'=>∃g cap,e = .returned (.pointer (some ⟨g,0,none⟩))/\Below w.heap.size w w'/\w.heap.size<=g/\kG w' g cap (ui a0 a1 b0 b1):=by
 have hp:(kh 207).fS [.i a0,.i a1,.i b0,.i b1]:=by
   rw[SK];refine⟨⟨h0,h1,h2,h3,trivial⟩,fun p hp=>?_⟩
   obtain rfl:p=_:=List.mem_singleton.1 hp;have:(decide (a0=b0)&&decide (a1=b1))=false:=by
     rw[Bool.and_eq_false_iff,decide_eq_false_iff_not,decide_eq_false_iff_not];exact Classical.not_and_iff_not_or_not.1 cx
   show(!(decide (a0=b0)&&decide (a1=b1)))=true;rw[this];rfl
 obtain⟨_,hq,uW⟩:=ni (k:=207) (by decide) hp
 rw[SK]at hq uW;obtain⟨r,hg,bc⟩:∃r,gv 207 [.i a0,.i a1,.i b0,.i b1]=[.l [r]]/\cn [(-268500000,268500000),(-268500000,268500000),(-268500000,268500000),(-268500000,268500000),(0,1),(0,1),(-1200000,1200000),(-1200000,1200000),(0,1),(0,1),(-1200000,1200000),(-1200000,1200000)] 0 r:=by
   generalize gv 207 [.i a0,.i a1,.i b0,.i b1]=rs at hq
   match rs,hq with
   | [d],hq=>
     obtain⟨r,rfl,h⟩:=H6 hq.1;exact⟨r,rfl,h⟩
 have Gn:ui a0 a1 b0 b1=r:=by unfold ui;rw[hg];rfl
 have KM:=uW _ (List.mem_singleton.2 rfl);rw[hg]at KM;rw[Gn];refine⟨⟨bc,fun e=>?_⟩,?_⟩
 . have e':(decide (r.getD 2 0=r.getD 0 0))=true:=decide_eq_true e;have:(!(decide (r.getD 2 0=r.getD 0 0)))=true:=KM;rw[e']at this;cases this
 . refine(iV hr (k:=207) (ds:=[.i a0,.i a1,.i b0,.i b1]) (by decide) acT (by kernel_rfl) ajZ rfl hw (vs:=[.agg #[.int .i64 a0,.int .i64 a1],.agg #[.int .i64 b0,.int .i64 b1]]) ⟨[.int .i64 a0,.int .i64 a1,.int .i64 b0,.int .i64 b1],rfl,rfl,rfl,rfl,rfl,trivial⟩ hp).mono ?_
   rintro e w' ⟨bP,rfl,hb,dr⟩;rw[hg]at dr
   match bP,dr with
   | [v],dr=>
     have bG:w'.ownsRow w.heap.size 323 12 v 1 (aA wk [r]):=dr.1.2;rcases id bG with⟨_,⟨_,h⟩|⟨g,cap,cur,rfl,Bx,hh,_⟩⟩
     . omega
     . exact⟨g,cap,rfl,hb,Bx,(Array.getElem?_eq_some_iff.1 hh).1,nq bG,_,_,hh⟩
variable {g cap:Nat}{r:List Int}(J5:kG w g cap r)(gF:mG r)
theorem Be(hr:jz){w:World}(hw:Wd w){g:Nat}{cap:Nat}{r:List Int}(J5:kG w g cap r)(gF:mG r):(0<=jQ r/\jQ r<=2500000)/\Calls Tryz.prog 210 #[.pointer (some ⟨g,0,none⟩)] w fun e w'=>e = .returned (.int .i64 (jQ r))/\Below w.heap.size w w':=by
 have hp:(kh 210).fS [.l [r]]:=by rw[SL];exact⟨⟨mH gF,trivial⟩,fun p hp=>by cases hp⟩
 obtain⟨_,hq,_⟩:=ni (k:=210) (by decide) hp
 rw[SL]at hq;obtain⟨n,hg,hn⟩:∃n:Int,gv 210 [.l [r]]=[.i n]/\0<=n/\n<=2500000:=by
   generalize gv 210 [.l [r]]=rs at hq
   match rs,hq with
   | [.i n],hq=>exact⟨n,rfl,hq.1⟩
 have Gn:jQ r=n:=by unfold jQ;rw[hg];rfl
 rw[Gn];refine⟨hn,(iV hr (k:=210) (ds:=[.l [r]]) (by decide) acU (by kernel_rfl) aj0 rfl hw (vs:=[.pointer (some ⟨g,0,none⟩)]) ⟨[.slice (some ⟨g,0,none⟩) 1 cap],rfl,⟨by decide,J5.2.1⟩,trivial⟩ hp).mono ?_⟩
 rintro e w' ⟨bP,rfl,hb,dr⟩;rw[hg]at dr
 match bP,dr with
 | [v],dr=>
   have:v = .int .i64 n:=dr.1;subst this;exact⟨rfl,hb⟩
theorem rU(hr:jz){w:World}(hw:Wd w){g:Nat}{cap:Nat}{r:List Int}(J5:kG w g cap r)(gF:mG r):(-1<=eT r/\eT r<=1)/\Calls Tryz.prog 211 #[.pointer (some ⟨g,0,none⟩)] w fun e w'=>e = .returned (.int .i64 (eT r))/\Below w.heap.size w w':=by
 have hp:(kh 211).fS [.l [r]]:=by rw[SM];exact⟨⟨mH gF,trivial⟩,fun p hp=>by cases hp⟩
 obtain⟨_,hq,_⟩:=ni (k:=211) (by decide) hp
 rw[SM]at hq;obtain⟨n,hg,hn⟩:∃n:Int,gv 211 [.l [r]]=[.i n]/\-1<=n/\n<=1:=by
   generalize gv 211 [.l [r]]=rs at hq
   match rs,hq with
   | [.i n],hq=>exact⟨n,rfl,hq.1⟩
 have Gn:eT r=n:=by unfold eT;rw[hg];rfl
 rw[Gn];refine⟨hn,(iV hr (k:=211) (ds:=[.l [r]]) (by decide) acV (by kernel_rfl) aj1 rfl hw (vs:=[.pointer (some ⟨g,0,none⟩)]) ⟨[.slice (some ⟨g,0,none⟩) 1 cap],rfl,⟨by decide,J5.2.1⟩,trivial⟩ hp).mono ?_⟩
 rintro e w' ⟨bP,rfl,hb,dr⟩;rw[hg]at dr
 match bP,dr with
 | [v],dr=>
   have:v = .int .i64 n:=dr.1;subst this;exact⟨rfl,hb⟩
theorem CO(cx:r.getD 2 0≠r.getD 0 0){u:Int}:BE.ae (aM.ar 0 [.l [r],.i u]) (.not (.eq (.get 0 (.c 0) 2) (.get 0 (.c 0) 0)))=true:=by
 show(!(decide (r.getD 2 0=r.getD 0 0)))=true;rw[decide_eq_false cx];rfl
theorem yX(hr:jz){w:World}(hw:Wd w){g:Nat}{cap:Nat}{r:List Int}(J5:kG w g cap r)(gF:mG r){u:Int}(hu: -8388608<=u/\u<=8388608):(1<=(dy r u).2/\(dy r u).2<=549755813888)/\Calls Tryz.prog 250 #[.pointer (some ⟨g,0,none⟩),.int .i64 u] w fun e w'=>e = .returned (.tuple #[.int .i64 (dy r u).1,.int .i64 (dy r u).2])/\Below w.heap.size w w':=by
 have hp:(kh 250).fS [.l [r],.i u]:=by
   rw[acS];refine⟨⟨mH gF,hu,trivial⟩,fun p hp=>?_⟩
   obtain rfl:p=_:=List.mem_singleton.1 hp;exact CO gF.ne
 obtain⟨_,hq,_⟩:=ni (k:=250) (by decide) hp
 rw[acS]at hq;obtain⟨n,d,hg,hn⟩:∃n d:Int,gv 250 [.l [r],.i u]=[.i n,.i d]/\1<=d/\d<=549755813888:=by
   generalize gv 250 [.l [r],.i u]=rs at hq
   match rs,hq with
   | [.i n,.i d],hq=>exact⟨n,d,rfl,hq.2.1⟩
 have Gn:dy r u=(n,d):=by unfold dy;rw[hg];rfl
 rw[Gn];refine⟨hn,(iV hr (k:=250) (ds:=[.l [r],.i u]) (by decide) acW (by kernel_rfl) aj2 rfl hw (vs:=[.pointer (some ⟨g,0,none⟩),.int .i64 u]) ⟨[.slice (some ⟨g,0,none⟩) 1 cap,.int .i64 u],rfl,⟨by decide,J5.2.1⟩,rfl,trivial⟩ hp).mono ?_⟩
 rintro e w' ⟨bP,rfl,hb,dr⟩;rw[hg]at dr
 match bP,dr with
 | [v,v'],dr=>
   have:v = .int .i64 n:=dr.1;subst this;have:v' = .int .i64 d:=dr.2.1;subst this;exact⟨rfl,hb⟩
theorem wq(hr:jz){w:World}(hw:Wd w){g:Nat}{cap:Nat}{r:List Int}(J5:kG w g cap r)(gF:mG r){u:Int}(hu: -8388608<=u/\u<=8388608):(-4611686018427387905<=iO r u/\iO r u<=4611686018427387904)/\Calls Tryz.prog 251 #[.pointer (some ⟨g,0,none⟩),.int .i64 u] w fun e w'=>e = .returned (.int .i64 (iO r u))/\Below w.heap.size w w':=by
 have hp:(kh 251).fS [.l [r],.i u]:=by
   rw[SN];refine⟨⟨mH gF,hu,trivial⟩,fun p hp=>?_⟩
   obtain rfl:p=_:=List.mem_singleton.1 hp;exact CO gF.ne
 obtain⟨_,hq,_⟩:=ni (k:=251) (by decide) hp
 rw[SN]at hq;obtain⟨n,hg,hn⟩:∃n:Int,gv 251 [.l [r],.i u]=[.i n]/\-4611686018427387905<=n/\n<=4611686018427387904:=by
   generalize gv 251 [.l [r],.i u]=rs at hq
   match rs,hq with
   | [.i n],hq=>exact⟨n,rfl,hq.1⟩
 have Gn:iO r u=n:=by unfold iO;rw[hg];rfl
 rw[Gn];refine⟨hn,?_⟩;refine(iV hr (k:=251) (ds:=[.l [r],.i u]) (by decide) acX (by kernel_rfl) aj3 rfl hw (vs:=[.pointer (some ⟨g,0,none⟩),.int .i64 u]) ⟨[.slice (some ⟨g,0,none⟩) 1 cap,.int .i64 u],rfl,⟨by decide,J5.2.1⟩,rfl,trivial⟩ hp).mono ?_
 rintro e w' ⟨bP,rfl,hb,dr⟩;rw[hg]at dr
 match bP,dr with
 | [v],dr=>
   have:v = .int .i64 n:=dr.1;subst this;exact⟨rfl,hb⟩
end
def gG(n:Int):Prop:=-9223372036854775808<=n/\n<=9223372036854775807
section
variable (hr:jz){w:World}(hw:Wd w){x0 y0 x1 y1 x y:Int}(h0:gG x0)(h1:gG y0)(h2:gG x1)(h3:gG y1)
theorem yY(hr:jz){w:World}(hw:Wd w){x0:Int}{y0:Int}{x1:Int}{y1:Int}(h0:gG x0)(h1:gG y0)(h2:gG x1)(h3:gG y1):Calls Tryz.prog 65 #[.agg #[.int .i64 x0,.int .i64 y0,.int .i64 x1,.int .i64 y1]] w fun e w'=>e = .returned (.bool (kV x0 y0 x1 y1))/\Below w.heap.size w w':=by
 have hp:(kh 65).fS [.i x0,.i y0,.i x1,.i y1]:=by
   refine⟨?_,fun p hp=>?_⟩
   . rw[k65.1];exact⟨h0,h1,h2,h3,trivial⟩
   . rw[k65.2.1]at hp;cases hp
 obtain⟨_,hq,_⟩:=ni (k:=65) (by decide) hp
 rw[k65.2.2]at hq;obtain⟨n,hg⟩:∃n:Bool,gv 65 [.i x0,.i y0,.i x1,.i y1]=[.b n]:=by
   generalize gv 65 [.i x0,.i y0,.i x1,.i y1]=rs at hq
   match rs,hq with
   | [.b n],hq=>exact⟨n,rfl⟩
 have Gn:kV x0 y0 x1 y1=n:=by unfold kV;rw[hg];rfl
 rw[Gn];refine(iV hr (k:=65) (ds:=[.i x0,.i y0,.i x1,.i y1]) (by decide) ajY (by kernel_rfl) s65 rfl hw (vs:=[.agg #[.int .i64 x0,.int .i64 y0,.int .i64 x1,.int .i64 y1]]) ⟨[.int .i64 x0,.int .i64 y0,.int .i64 x1,.int .i64 y1],rfl,rfl,rfl,rfl,rfl,trivial⟩ hp).mono ?_
 rintro e w' ⟨bP,rfl,hb,dr⟩;rw[hg]at dr
 match bP,dr with
 | [v],dr=>
   have:v = .bool n:=dr.1;subst this;exact⟨rfl,hb⟩
theorem EA(hr:jz){w:World}(hw:Wd w){x0:Int}{y0:Int}{x1:Int}{y1:Int}{x:Int}{y:Int}(h0:gG x0)(h1:gG y0)(h2:gG x1)(h3:gG y1)(h4:gG x)(h5:gG y):(lO x0 y0 x1 y1 x y=true->(x0<=x/\x<x1)/\y0<=y/\y<y1)/\Calls Tryz.prog 168 #[.agg #[.int .i64 x0,.int .i64 y0,.int .i64 x1,.int .i64 y1],.int .i64 x,.int .i64 y] w fun e w'=>e = .returned (.bool (lO x0 y0 x1 y1 x y))/\Below w.heap.size w w':=by
 have hp:(kh 168).fS [.i x0,.i y0,.i x1,.i y1,.i x,.i y]:=by
   rw[SO];exact⟨⟨h0,h1,h2,h3,h4,h5,trivial⟩,fun p hp=>by cases hp⟩
 obtain⟨_,hq,uW⟩:=ni (k:=168) (by decide) hp
 rw[SO]at hq uW;obtain⟨n,hg⟩:∃n:Bool,gv 168 [.i x0,.i y0,.i x1,.i y1,.i x,.i y]=[.b n]:=by
   generalize gv 168 [.i x0,.i y0,.i x1,.i y1,.i x,.i y]=rs at hq
   match rs,hq with
   | [.b n],hq=>exact⟨n,rfl⟩
 have Gn:lO x0 y0 x1 y1 x y=n:=by unfold lO;rw[hg];rfl
 have hq3:=uW _ (List.mem_singleton.2 rfl);rw[hg]at hq3;rw[Gn];refine⟨fun e=>?_,(iV hr (k:=168) (ds:=[.i x0,.i y0,.i x1,.i y1,.i x,.i y]) (by decide) acY (by kernel_rfl) aj4 rfl hw (vs:=[.agg #[.int .i64 x0,.int .i64 y0,.int .i64 x1,.int .i64 y1],.int .i64 x,.int .i64 y]) ⟨[.int .i64 x0,.int .i64 y0,.int .i64 x1,.int .i64 y1,.int .i64 x,.int .i64 y],rfl,rfl,rfl,rfl,rfl,rfl,rfl,trivial⟩ hp).mono ?_⟩
 . subst e;have:(!true||((decide (x0<=x)&&decide (x<x1))&&(decide (y0<=y)&&decide (y<y1))))=true:=hq3;simpa using this
 . rintro e w' ⟨bP,rfl,hb,dr⟩;rw[hg]at dr
   match bP,dr with
   | [v],dr=>
     have:v = .bool n:=dr.1;subst this;exact⟨rfl,hb⟩
end
end Go.Proofs.YtohebioanhliiaaGreatDoor.aD
namespace Go.Proofs.YtohebioanhliiaaGreatDoor.SX
open Go Go.RowKit
variable {n:Nat}{P:Program}
def H8(B:Nat)(W W':World):Prop:=∀(k:Nat) (o:Obj),B<=k->W.heap[k]?=some o->o.isCells=false->W'.heap[k]?=some o
theorem J'{α:Type}{g:Operand}{ps:Array Tmp}{assign body:Code}{Q:Exit->Act->World->Prop}{a:Act}{w:World}
   {gf:Nat} {lb:Array Value} (hg:a.eval g = .func (.func gf) #[] lb) (eg:∀args w,(callFunc gf args).run P w = .ok (.enter gf args) w)
   {NR:α->Array Value} (CU:∀x,(NR x).size=ps.size) {xs:List α} (I:List α->World->Prop) (St Kp:World->World->Prop)
   (hIp:∀pre W l o o',I pre W->w.heap.size<=l->W.heap[l]?=some o->o.isCells=false->I pre (W.putObj l o'))
   (hIa:∀pre W o,I pre W->I pre (W.alloc o))
   (hIs:∀pre A B,I pre A->St A B->I pre B) (SU:∀A B,St A B->H8 w.heap.size A B)
   (hKt:∀ {A B C:World},Kp A B->Kp B C->Kp A C) (hKp:∀(W:World) (l:Nat) (o:Obj),w.heap.size<=l->Kp W (W.putObj l o))
   (h0:I [] w) (ac':α->Act)
   (ada:∀(l:Nat) (J:List α->World->Prop) (W:World),(∀k,k<w.heap.size->W.heap[k]?=w.heap[k]?)->J [] W->(∀pre A,J pre A->I pre A)->(∀pre A B,J pre A->St A B->J pre B)->
     (∀pre x W1,J pre W1->xs[pre.length]?=some x->YieldAt Fence.wide (n-1-1) P l (NR x) W1 fun e W'=>e = .returned (.bool true)/\J (pre++[x]) W'/\Kp W1 W')->
     CallsIn Fence.wide (n-1) P gf (#[.func (.yield l) #[] #[]]++lb) W fun e W'=>(∃v,e = .returned v)/\J xs W')
   (S7:∀(l:Nat) (x:α) (W:World) (K:Act->World->Prop),K (ac' x) W->
     assign.wpIn (Fence.wide.inRound l) (n-1-1) P (Exit.then K (fun _ _ _=>False)) {tmps:=(ps.zip (NR x)).foldl (fun t (p,v)=>t.setIfInBounds p v) a.tmps,defers:=[] } W)
   (AJ:∀(l:Nat) (pre:List α) (x:α) (W:World),I pre W->xs[pre.length]?=some x->body.wpIn (Fence.wide.inRound l) (n-1-1) P (fun e _ W'=>e = .normal/\H8 w.heap.size W W'/\Kp W W'/\I (pre++[x]) W') (ac' x) W)
   (adb:∀(D:Nat) (W:World),w.heap.size<=D->I xs W->W.heap[D]?=some (.deferred (some []))->Q .normal {a with defers:={target:=.collected D,args:=#[] }::a.defers} W)
   (hn:1<=n) :
   (Code.rangeFunc g ps assign body).wpIn Fence.wide n P Q a w:=by
 refine wpIn_rangeFunc ?_;intro fn ki;let tt:LoopState->Loop:=fun st=>{state:=st,pending:=none,fn,tmps:=a.tmps,params:=ps,assign,body,defers:=w.heap.size}
 have hL1:((w.alloc (.deferred (some []))).alloc (.loop (tt .ready))).heap[w.heap.size+1]?=some (.loop (tt .ready)):=by
   have:=World.alloc_heap_new (w.alloc (.deferred (some []))) (.loop (tt .ready));rwa[World.size_alloc]at this
 have hK1:((w.alloc (.deferred (some []))).alloc (.loop (tt .ready))).heap[w.heap.size]?=some (.deferred (some [])):=
   (Below.heap_alloc _ _ _ (by simp)).trans (World.alloc_heap_new w _)
 have hI1:I [] ((w.alloc (.deferred (some []))).alloc (.loop (tt .ready))):=hIa _ _ _ (hIa _ _ _ h0);refine⟨w.heap.size+1,[{target:=.collected w.heap.size,args:=#[] }],(w.alloc (.deferred (some []))).alloc (.loop (tt .ready)),{target:=.fn (.func gf) lb,args:=#[.func (.yield (w.heap.size+1)) #[] #[]] },(w.alloc (.deferred (some []))).alloc (.loop (tt .ready)),gf,
   #[.func (.yield (w.heap.size+1)) #[] #[]]++lb,(w.alloc (.deferred (some []))).alloc (.loop (tt .ready)),?_,?_,fun _ _=>trivial,?_,fun _=>hn,?_⟩
 . exact run_enterLoop_outer _ _ _ _ _
 . simp only[resolve,hg];simp[go_sem]
 . simp[invoke,go_sem,eg]
 have H':∀k,k<w.heap.size->((w.alloc (.deferred (some []))).alloc (.loop (tt .ready))).heap[k]?=w.heap[k]? :=fun k hk=>(Below.heap_alloc _ _ k (by simp;omega)).trans (Below.heap_alloc _ _ k hk)
 generalize(w.alloc (.deferred (some []))).alloc (.loop (tt .ready))=W1 at hL1 hK1 hI1 H';refine(ada (w.heap.size+1) (fun pre W=>I pre W/\W.heap[w.heap.size+1]?=some (.loop (tt .ready))/\W.heap[w.heap.size]?=some (.deferred (some []))) W1 H' ⟨hI1,hL1,hK1⟩ (fun _ _ h=>h.1) (fun pre A B h s=>⟨hIs _ _ _ h.1 s,SU _ _ s _ _ (by omega) h.2.1 rfl,SU _ _ s _ _ (Nat.le_refl _) h.2.2 rfl⟩) ?_).mono ?_
 . rintro pre x W ⟨hi,hl,hk⟩ hlen;have hy:=run_yield (P:=P) (args:=NR x) hl (CU x);refine⟨fn,_,assign,body,hy,roundIn_of_wpIn ki (S7 _ x W _ ⟨_,run_beginRound hl rfl,?_⟩)⟩;have cQ:w.heap.size+1<W.heap.size:=(Array.getElem?_eq_some_iff.1 hl).1;have xh:(W.putObj (w.heap.size+1) (.loop (tt .busy))).heap[w.heap.size+1]?=some (.loop (tt .busy)):=World.putObj_heap_same cQ;have s9:(W.putObj (w.heap.size+1) (.loop (tt .busy))).heap[w.heap.size]?=some (.deferred (some [])):=(World.putObj_heap_other (by omega)).trans hk
   refine wpIn_mono (AJ _ pre x _ (hIp _ _ _ _ _ hi (by omega) hl rfl) hlen) ?_
   rintro e a3 W3 ⟨rfl,hs,Zz,SZ⟩;have hl3:=hs _ _ (by omega) xh rfl
   have hk3:=hs _ _ (Nat.le_refl _) s9 rfl;have hr:=run_endRound (P:=P) none hl3;exact⟨_,_,hr,rfl,⟨hIp _ _ _ _ _ SZ (by omega) hl3 rfl,World.putObj_heap_same (Array.getElem?_eq_some_iff.1 hl3).1,(World.putObj_heap_other (by omega)).trans hk3⟩,hKt (hKt (hKp _ _ _ (by omega)) Zz) (hKp _ _ _ (by omega))⟩
 . rintro e W2 ⟨⟨v,rfl⟩,hi,hl,hk⟩;exact⟨none,_,run_endLoop (P:=P) hl (by simp[tt]),adb _ _ (Nat.le_refl _) (hIp _ _ _ _ _ hi (by omega) hl rfl) ((World.putObj_heap_other (by omega)).trans hk)⟩
end Go.Proofs.YtohebioanhliiaaGreatDoor.SX
namespace Go.Proofs.YtohebioanhliiaaGreatDoor.aD
open Go.Sx Go.RowKit Go.Shelf Go
attribute [local go_sem] Oper.semAt_some
def px(t:Bool)(u v:Int):Int:=if t then v else u
def py(t:Bool)(u v:Int):Int:=if t then u else v
theorem yZ{w:World}{g:Nat}{t:Bool}(h4:w.cell? ⟨g,4,none⟩=some (.bool t))(u v:Int):Calls Tryz.prog 209 #[.pointer (some ⟨g,0,none⟩),.int .i64 u,.int .i64 v] w fun e w'=>e = .returned (.tuple #[.int .i64 (px t u v),.int .i64 (py t u v)])/\w'=w:=by
 unfold px py;go_enter Tryz.func209,Tryz.ntmps209
 go_wp2
 all_goals first|(go_ret2;exact⟨rfl,rfl⟩)|skip
 all_goals simp_all
theorem J6{w:World}(g:Nat)(u m:Int):Calls Tryz.prog 212 #[.pointer (some ⟨g,0,none⟩),.int .i64 u,.int .i64 m] w fun e w'=>e = .returned (.func (.func 249) #[] #[.pointer (some ⟨w.heap.size,0,none⟩),.pointer (some ⟨w.heap.size+1,0,none⟩),.pointer (some ⟨w.heap.size+1+1,0,none⟩)])/\w'=((w.alloc (.cells #[.pointer (some ⟨g,0,none⟩)] 319)).alloc (.cells #[.int .i64 u] 3)).alloc (.cells #[.int .i64 m] 3):=by
 go_enter Tryz.func212,Tryz.ntmps212
 go_wp2
 all_goals first|(go_ret;exact⟨rfl,rfl⟩)|skip
def qq(r:List Int)(i:Nat):Int:=r.getD i 0
def qb(r:List Int)(i:Nat):Bool:=decide (r.getD i 0≠0)
theorem kG.int{w:World}{g cap:Nat}{r:List Int}(h:kG w g cap r)(j:Nat)(hj:wk[j]?=some i6):w.cell? ⟨g,j,none⟩=some (.int .i64 (qq r j)):=by
 refine h.cell ?_;rw[gZ wk 0 r j,hj,Nat.zero_add];rfl
theorem kG.bool{w:World}{g cap:Nat}{r:List Int}(h:kG w g cap r)(j:Nat)(hj:wk[j]?=some .b):w.cell? ⟨g,j,none⟩=some (.bool (qb r j)):=by
 refine h.cell ?_;rw[gZ wk 0 r j,hj,Nat.zero_add];rfl
def up1(d whole add:Int)(x:Int×Int):Int×Int:=
 (wrap64 (x.1+whole+wrap64 (x.2+add)/d),wrap64 (x.2+add)%d)
noncomputable def iE(r:List Int)(u0:Int):Nat->Int×Int×Int
 |0=>(u0,iO r u0,wrap64 ((dy r u0).1-wrap64 (iO r u0*(dy r u0).2)))
 | i+1=>
   let d:=(dy r u0).2
   let a:=wrap64 (256*wrap64 (qq r 3-qq r 1))
   (wrap64 ((iE r u0 i).1+eT r),up1 d (wrap64 (a.tdiv d)) (a.tmod d) (iE r u0 i).2)
noncomputable def gm(r:List Int)(u0:Int)(m:Nat):List (Int×Int):=(List.range m).map fun i=>((iE r u0 i).1,(iE r u0 i).2.1)
def ac0(bu:Nat)(A B:World):Prop:=Below A.heap.size A B\/∃v,B=A.setCell ⟨bu,0,none⟩ v
structure aj6(A:World)(bw bm g cap:Nat)(r:List Int)(m:Int):Prop where
 wd:Wd A
 hw:A.cell? ⟨bw,0,none⟩=some (.pointer (some ⟨g,0,none⟩))
 hm:A.cell? ⟨bm,0,none⟩=some (.int .i64 m)
 sF:kG A g cap r
theorem Gp(r:List Int)(u0:Int)(k:Nat):gm r u0 (k+1)=gm r u0 k++[((iE r u0 k).1,(iE r u0 k).2.1)]:=by
 unfold gm;rw[List.range_succ,List.map_append];rfl
theorem SQ{R D j q:Int}(hD:1<=D)(hq:j*D=q)(h0:0<=R-q)(h1:R-q<D):R/D=j/\R%D=R-q:=by
 have h2:R=(R-q)+D*j:=by rw[<- hq,Int.mul_comm j D];omega
 have h3:(R-q)/D=0:=Int.ediv_eq_zero_of_lt h0 h1;have h4:(R-q)%D=R-q:=Int.emod_eq_of_lt h0 h1;constructor
 . rw[h2,Int.add_mul_ediv_left _ _ (by omega),h3];omega
 . rw[h2,Int.add_mul_emod_self_left,<- h2,h4]
theorem up_mul(j D:Int):(j+1)*D=j*D+D:=by rw[Int.add_mul,Int.one_mul]
theorem NN(j D:Int):(j-1)*D=j*D-D:=by rw[Int.sub_mul,Int.one_mul]
theorem wrap_wrap(a b:Int):wrap64 (wrap64 a+b)=wrap64 (a+b):=by unfold wrap64;omega
theorem J7(a:Int):wrap64 (wrap64 a-1)=wrap64 (a-1):=by unfold wrap64;omega
theorem eX{a:Int}(h0: -9223372036854775808<=a)(h1:a<=9223372036854775807):wrap64 a=a:=by unfold wrap64;omega
theorem CP(a:Int): -9223372036854775808<=wrap64 a/\wrap64 a<=9223372036854775807:=by unfold wrap64;omega
theorem int_eq{a b:Int}(h:a=b):Value.int .i64 a=Value.int .i64 b:=congrArg _ h
theorem J8{a D:Int}(h:a<0)(hD:1<=D):(-intOf (Value.int .i64 (a+D))).toNat<(-intOf (Value.int .i64 a)).toNat:=by
 show(-(a+D)).toNat<(-a).toNat;omega
theorem SR{a D:Int}(h:D<=a)(hD:1<=D):(intOf (Value.int .i64 (a-D))).toNat<(intOf (Value.int .i64 a)).toNat:=by
 show(a-D).toNat<a.toNat;omega
theorem Xa{m k:Nat}(h:k<m):m-(intOf (Value.int .i64 ((k:Int)+1))).toNat<m-(intOf (Value.int .i64 (k:Int))).toNat:=by
 show m-((k:Int)+1).toNat<m-(k:Int).toNat;omega
theorem NO{r:List Int}{u0:Int}(Ky: -8388608<=u0/\u0<=8388608)(ha:gG (iO r u0)){n k:Nat}{p:Int×Int}(h:(gm r u0 n)[k]?=some p):gG p.1/\gG p.2:=by
 have:p=((iE r u0 k).1,(iE r u0 k).2.1):=by
   unfold gm at h;rw[List.getElem?_map]at h;obtain⟨j,hj,rfl⟩:=bB.1 h;have:=cT.1 hj;obtain⟨cQ,e⟩:=this;rw[List.getElem_range]at e;rw[e]
 subst this;cases k with
 |zero=>exact⟨⟨by show -9223372036854775808<=u0;omega,by show u0<=9223372036854775807;omega⟩,ha⟩
 |succ k=>exact⟨CP _,CP _⟩
theorem H7{t:Bool}{u v:Int}(hu:gG u)(hv:gG v):gG (px t u v)/\gG (py t u v):=by
 cases t
 . exact⟨hu,hv⟩
 . exact⟨hv,hu⟩
theorem fb{w w':World}{B:Nat}{t:TypeId}{v:Value}(h:Boxed w B t v)(hb:Below w.heap.size w w'):Boxed w' B t v:=(hb.block B h.lt).trans h
theorem SS(hr:jz){n l bw bu bm g cap:Nat}{r:List Int}{u0 m:Int}(gF:mG r)(Ky: -8388608<=u0/\u0<=8388608)(hm:0<=m/\m<=1000)(J:List (Int×Int)->World->Prop)(W:World)(h0:J [] W)
   (hJ:∀pre A,J pre A->aj6 A bw bm g cap r m/\∃v,Boxed A bu 3 v) (SU:∀pre A B,J pre A->ac0 bu A B->J pre B) (ke:Boxed W bu 3 (.int .i64 u0))
   (hY:∀pre x W1,J pre W1->(gm r u0 m.toNat)[pre.length]?=some x->YieldAt Fence.wide (n-1) Tryz.prog l #[.int .i64 x.1,.int .i64 x.2] W1 fun e W'=>e = .returned (.bool true)/\J (pre++[x]) W'/\W'.heap[bu]?=W1.heap[bu]?) :
   CallsIn Fence.wide n Tryz.prog 249 #[.func (.yield l) #[] #[],.pointer (some ⟨bw,0,none⟩),.pointer (some ⟨bu,0,none⟩),.pointer (some ⟨bm,0,none⟩)] W fun e W'=>(∃v,e = .returned v)/\J (gm r u0 m.toNat) W':=by
 refine callsIn_of_wp Tryz.func249 rfl trivial ?_;simp only[Tryz.ntmps249,List.size_toArray,List.length_cons,List.length_nil,Nat.reduceAdd,Nat.reduceSub,Array.replicate_succ,Array.replicate_zero,List.push_toArray,List.append_toArray,List.nil_append,List.cons_append];obtain⟨⟨Gq,hw0,tw,Xb⟩,_⟩:=hJ _ _ h0;have hu1:=ke.cell;have hd:=(yX hr Gq Xb gF Ky).1;have zh:(dy r u0).2≠0:=by omega
 gi_wp2_with (first
   |(refine⟨trivial,fun hh=>(by cases hh),?_⟩;gi_at_call 250;refine(callsIn_wide.2 (yX hr Gq Xb gF Ky).2).mono ?_;rintro e w1 ⟨rfl,uR⟩;have hJ1:=SU _ _ _ h0 (Or.inl uR);have Up:=fb ke uR;clear hw0 tw hu1;obtain⟨⟨wd1,Yu,wx,SW⟩,_⟩:=hJ _ _ hJ1;have hu1:=Up.cell)
   |(refine⟨trivial,fun hh=>(by cases hh),?_⟩;gi_at_call 251;refine(callsIn_wide.2 (wq hr wd1 SW gF Ky).2).mono ?_;rintro e w2 ⟨rfl,sR⟩;have hJ2:=SU _ _ _ hJ1 (Or.inl sR);have Uq:=fb Up sR;clear Yu wx hu1;obtain⟨⟨wd2,YK,EE,NP⟩,_⟩:=hJ _ _ hJ2;have hu2:=Uq.cell;have Qb:=NP.int 3 rfl;have rA:=NP.int 1 rfl))
 have Qc:Tryz.prog.follows .mixedOrders=true:=by kernel_rfl
 gi_region
 all_goals gi_wp2
 gi_loopw [7,8,42] (fun v t i wr=>∃k:Nat,k<=m.toNat/\v = .int .i64 (iE r u0 k).2.1/\t = .int .i64 (iE r u0 k).2.2/\i = .int .i64 (k:Int)/\J (gm r u0 k) wr/\Boxed wr bu 3 (.int .i64 (iE r u0 k).1)) (fun _ _ i _=>m.toNat-(intOf i).toNat)
 case atStart=>exact⟨0,Nat.zero_le _,rfl,rfl,rfl,SU _ _ _ hJ2 (Or.inl ((Below.refl _ _).drew)),Uq⟩
 case round=>
   obtain⟨k,hk,rfl,rfl,rfl,hJr,hxr⟩:=hrel;clear hJ1 hJ2 Up Uq uR sR YK EE SW NP wd1 wd2 rA Qb hu2 ke h0 Gq Xb;obtain⟨⟨wdr,Gn,hmr,aj7⟩,_⟩:=hJ _ _ hJr;have hur:=hxr.cell;rcases Nat.lt_or_ge k m.toNat with cQ|sS
   . have IV:(k:Int)<m:=by omega
     obtain⟨fn,tmps,assign,body,hy,hR⟩:=hY (gm r u0 k) ((iE r u0 k).1,(iE r u0 k).2.1) wr hJr (by simp[gm,cQ])
     dsimp only at hy
     gi_wp2
     refine⟨fun hh=>(by cases hh),?_⟩
     refine hR.mono ?_;clear hR hy hur Gn hmr aj7 wdr;rintro e W3 ⟨rfl,hJ3,hbu⟩;have hx3:Boxed W3 bu 3 (.int .i64 (iE r u0 k).1):=hbu.trans hxr;clear hbu hxr hJr;have Xc:=SU _ _ _ hJ3 (Or.inl ((Below.refl _ _).drew));obtain⟨⟨wd3,hw3,_,ac1⟩,_⟩:=hJ _ _ Xc;have hu3:=hx3.cell;have hf3:=hx3.frozen;have aj8:W3.cell? ⟨bw,0,none⟩=some (.pointer (some ⟨g,0,none⟩)):=hw3
     gi_wp2
     gi_region_with_o (refine⟨trivial,fun hh=>(by cases hh),?_⟩;gi_at_call 211;refine(callsIn_wide.2 (rU hr wd3 ac1 gF).2).mono ?_;rintro e w4 ⟨rfl,YU⟩;have hJ4:=SU _ _ _ Xc (Or.inl YU);have hx4:=fb (w:=W3.drew) hx3 YU;have hu4:=hx4.cell;have hf4:=hx4.frozen)
     all_goals gi_wp2
     all_goals (
       generalize hW5:w4.setCell ⟨bu,0,none⟩ (.int .i64 (wrap64 ((iE r u0 k).1+eT r)))=W5;have hJ5:J (gm r u0 (k+1)) W5:=by rw[Gp,<- hW5];exact SU _ _ _ hJ4 (Or.inr ⟨_,rfl⟩)
       have hx5:Boxed W5 bu 3 (.int .i64 (wrap64 ((iE r u0 k).1+eT r))):=by rw[<- hW5];exact hx4.set _
       have CY:(iE r u0 (k+1)).1=wrap64 ((iE r u0 k).1+eT r):=rfl;have Jb:(iE r u0 (k+1)).2.1=wrap64 ((iE r u0 k).2.1+wrap64 ((wrap64 (256*wrap64 (qq r 3-qq r 1))).tdiv (dy r u0).2)+wrap64 ((iE r u0 k).2.2+(wrap64 (256*wrap64 (qq r 3-qq r 1))).tmod (dy r u0).2)/(dy r u0).2):=rfl;have hs3:(iE r u0 (k+1)).2.2=wrap64 ((iE r u0 k).2.2+(wrap64 (256*wrap64 (qq r 3-qq r 1))).tmod (dy r u0).2)%(dy r u0).2:=rfl;clear hW5 hJ4 hx4 hu4 hf4 YU Xc hJ3 hx3 hu3 hf3 hw3 aj8 wd3 ac1;have hR0:=CP ((iE r u0 k).2.2+(wrap64 (256*wrap64 (qq r 3-qq r 1))).tmod (dy r u0).2);generalize wrap64 ((iE r u0 k).2.2+(wrap64 (256*wrap64 (qq r 3-qq r 1))).tmod (dy r u0).2)=R1 at *;generalize(iE r u0 k).2.1+wrap64 ((wrap64 (256*wrap64 (qq r 3-qq r 1))).tdiv (dy r u0).2)=V1 at *
       gi_loopw [7,8] (fun v t wr=>wr=W5/\∃j q:Int,j*(dy r u0).2=q/\v = .int .i64 (wrap64 (V1+j))/\t = .int .i64 (R1-q)/\(q=0\/0<=R1-q)/\R1-q<=R1) (fun _ t _=>(intOf t).toNat)
       case atStart=>exact⟨rfl,0,0,by rw[Int.zero_mul],by rw[Int.add_zero],by rw[Int.sub_zero],Or.inl rfl,by omega⟩
       case round=>
         obtain⟨rfl,j,q,hq,rfl,rfl,hj,hle⟩:=hrel;rcases Int.lt_or_le (R1-q) (dy r u0).2 with Vi|aj9
         . have hn2:¬ (dy r u0).2<=R1-q:=by omega
           gi_wp2
           gi_loopw [7,8] (fun v t wr'=>wr'=wr/\∃j q:Int,j*(dy r u0).2=q/\v = .int .i64 (wrap64 (V1+j))/\t = .int .i64 (R1-q)/\R1-q<(dy r u0).2/\-9223372036854775808<=R1-q) (fun _ t _=>(-(intOf t)).toNat)
           case atStart=>exact⟨rfl,j,q,hq,rfl,rfl,Vi,by omega⟩
           case round=>
             obtain⟨rfl,j2,q2,uW,rfl,rfl,xh,sR⟩:=hrel;rcases Int.lt_or_le (R1-q2) 0 with aj'|lh
             . have e:wrap64 (R1-q2+(dy r u0).2)=R1-q2+(dy r u0).2:=eX (by omega) (by omega)
               gi_wp2
               go_roundw
               case rel=>exact⟨trivial,j2-1,q2-(dy r u0).2,by rw[NN,uW],int_eq (by rw[J7];congr 1;omega),int_eq (by omega),by omega,by omega⟩
               case measure=>exact J8 aj' (by omega)
             . have hp3:¬ R1-q2<0:=by omega
               obtain⟨e1,e2⟩:=SQ (by omega) uW lh xh
               gi_wp2
               go_roundw
               case rel=>exact⟨k+1,by omega,int_eq (by rw[Jb,e1]),int_eq (by rw[hs3,e2]),int_eq (by omega),hJ5,by rw[CY];exact hx5⟩
               case measure=>exact Xa cQ
         . have hp2:0<=R1-q:=by omega
           have e:wrap64 (R1-q-(dy r u0).2)=R1-q-(dy r u0).2:=eX (by omega) (by omega)
           gi_wp2
           go_roundw
           case rel=>exact⟨trivial,j+1,q+(dy r u0).2,by rw[up_mul,hq],int_eq (by rw[wrap_wrap];congr 1;omega),int_eq (by omega),by omega,by omega⟩
           case measure=>exact SR aj9 (by omega))
   . have akF:¬ (k:Int)<m:=by omega
     gi_wp2
     go_end0
     have:k=m.toNat:=by omega
     subst this;exact⟨⟨_,rfl⟩,hJr⟩
end Go.Proofs.YtohebioanhliiaaGreatDoor.aD
namespace Go.Proofs.YtohebioanhliiaaGreatDoor.aD
open Go.Sx Go.RowKit Go.Shelf Go SX
attribute [local go_sem] Oper.semAt_some
def jD(n:Nat):Code->Bool
 |.region k _ _=>Nat.beq k n
 |.seq a _=>jD n a
 |_=>false
def behind(n:Nat):Nat->Code->Code
 |0,c=>c
 | f+1,c=>if jD n c then c else match c with
   |.seq _ b=>behind n f b
   |c=>c
noncomputable def nj:Code:=behind 23 40 (Tryz.f169.body.getD .skip)
structure LoopIn(W w0:World)(br jG bo g cap:Nat)(r:List Int)(x0 y0 x1 y1:Int)(v:Value)(rows:List (List Int)):Prop where
 Gq:Wd w0
 below:Below w0.heap.size w0 W
 Qq:w0.heap.size<=bo
 zn:Boxed W bo 272 v
 own:W.ownsRow w0.heap.size 276 3 v rows.length (aA [i6,i6,i6] rows)
 CQ:Boxed W jG 319 (.pointer (some ⟨g,0,none⟩))
 sF:kG W g cap r
 dH:W.heap[br]?=some (.cells #[.int .i64 x0,.int .i64 y0,.int .i64 x1,.int .i64 y1] 54 (0,0))
def Xe(K:Act->World->Prop):Exit->Act->World->Prop
 |.normal,a,w=>K a w
 |_,_,_=>False
theorem np{F:Fence}{n:Nat}{P:Program}{c:Code}{K:Act->World->Prop}{Q:Exit->Act->World->Prop}{a:Act}{w:World}(h:c.wpIn F n P (Xe K) a w):c.wpIn F n P (Exit.then K Q) a w:=
 wpIn_mono h fun e a w hq=>by
   cases e with
   |normal=>exact hq
   |_=>exact hq.elim
theorem J9{w w':World}{B:Nat}{e:TypeId}{sz n:Nat}{v:Value}{xs:List Value}(h:w.ownsRow B e sz v n xs)(hb:Below w.heap.size w w'):w'.ownsRow B e sz v n xs:=by
 obtain⟨hl,h|⟨g,cap,cur,e1,hg,hh,rest⟩⟩:=h
 . exact⟨hl,.inl h⟩
 . exact⟨hl,.inr ⟨g,cap,cur,e1,hg,(hb.block g (Array.getElem?_eq_some_iff.1 hh).1).trans hh,rest⟩⟩
section
variable {W W' w0:World}{br jG bo g cap:Nat}{r:List Int}{x0 y0 x1 y1:Int}{v:Value}{rows:List (List Int)}
theorem LoopIn.wd(h:LoopIn W w0 br jG bo g cap r x0 y0 x1 y1 v rows):Wd W:=y2 _ _ h.Gq h.below
theorem LoopIn.on(h:LoopIn W w0 br jG bo g cap r x0 y0 x1 y1 v rows)(hb:Below W.heap.size W W'):LoopIn W' w0 br jG bo g cap r x0 y0 x1 y1 v rows:=
 ⟨h.Gq,h.below.trans (hb.mono h.below.size),h.Qq,fb h.zn hb,J9 h.own hb,fb h.CQ hb,h.sF.below hb,(hb.block br (Array.getElem?_eq_some_iff.1 h.dH).1).trans h.dH⟩
theorem LoopIn.grown(h:LoopIn W w0 br jG bo g cap r x0 y0 x1 y1 v rows){row:Option Nat}(hg:W.grownBy W' row)(hn:∀k,row=some k->w0.heap.size<=k/\k≠bo/\k≠jG/\k≠g/\k≠br/\v.ownBlock≠some k):LoopIn W' w0 br jG bo g cap r x0 y0 x1 y1 v rows:=by
 refine⟨h.Gq,h.below.grown hg h.below.size fun k e=>(hn k e).1,h.Qq,h.zn.kept hg fun e=>(hn bo e.symm).2.1 rfl,h.own.kept hg ?_,h.CQ.kept hg fun e=>(hn jG e.symm).2.2.1 rfl,h.sF.fG hg.size (hg.block g h.sF.1 fun e=>(hn g e.symm).2.2.2.1 rfl),(hg.block br (Array.getElem?_eq_some_iff.1 h.dH).1 fun e=>(hn br e.symm).2.2.2.2.1 rfl).trans h.dH⟩
 rcases h.own.2 with⟨rfl,_⟩|⟨g',_,_,rfl,_⟩
 . exact .inl rfl
 . refine .inr fun e=>?_
   exact(hn g' (by rw[<- e];rfl)).2.2.2.2.2 rfl
end
noncomputable def fx(t:Bool)(x0 y0 x1 y1 k0:Int)(i:Nat)(p:Int×Int):List (List Int):=
 if lO x0 y0 x1 y1 (px t p.1 p.2) (py t p.1 p.2)then [[wrap64 (k0+i),px t p.1 p.2,py t p.1 p.2]]else []
noncomputable def dw(t:Bool)(x0 y0 x1 y1 k0:Int):List (Int×Int)->List (List Int):=fun ps=>(List.range ps.length).flatMap fun i=>fx t x0 y0 x1 y1 k0 i (ps.getD i (0,0))
theorem sG(t:Bool)(x0 y0 x1 y1 k0:Int)(ps:List (Int×Int))(p:Int×Int):dw t x0 y0 x1 y1 k0 (ps++[p])=dw t x0 y0 x1 y1 k0 ps++fx t x0 y0 x1 y1 k0 ps.length p:=by
 unfold dw;rw[eH,List.length_singleton,List.range_succ,List.flatMap_append];congr 1
 . simp only[List.flatMap];congr 1;refine List.map_congr_left fun i hi=>?_
   have hi:=List.mem_range.1 hi;simp only[cH,List.getElem?_append_left hi]
 . simp
theorem NQ{α β:Type}{f:α->List β}(hf:∀x,(f x).length<=1):∀l:List α,(l.flatMap f).length<=l.length:=by
 intro l;induction l with
 |nil=>simp
 | cons x l ih=>
   have:=hf x;simp only[List.flatMap_cons,eH,List.length_cons];omega
theorem EB(t:Bool)(x0 y0 x1 y1 k0:Int)(i:Nat)(p:Int×Int):(fx t x0 y0 x1 y1 k0 i p).length<=1:=by
 unfold fx;generalize lO x0 y0 x1 y1 (px t p.1 p.2) (py t p.1 p.2)=b;cases b
 . exact Nat.zero_le _
 . exact Nat.le_refl _
theorem ux(t:Bool)(x0 y0 x1 y1 k0:Int)(ps:List (Int×Int)):(dw t x0 y0 x1 y1 k0 ps).length<=ps.length:=by
 have:=NQ (f:=fun i=>fx t x0 y0 x1 y1 k0 i (ps.getD i (0,0))) (fun i=>EB ..) (List.range ps.length)
 rwa[List.length_range]at this
structure LI(w0:World)(br jG bo bk n1 g cap:Nat)(r:List Int)(x0 y0 x1 y1 k0 m:Int)(rows:List (List Int))(pre:List (Int×Int))(W:World):Prop where
 lo:∃v,LoopIn W w0 br jG bo g cap r x0 y0 x1 y1 v (rows++dw (qb r 4) x0 y0 x1 y1 k0 pre)
 hk:Boxed W bk 3 (.int .i64 (wrap64 (k0+pre.length)))
 hw:Boxed W n1 319 (.pointer (some ⟨g,0,none⟩))
 hm:Boxed W (n1+1+1) 3 (.int .i64 m)
 hu:∃u,Boxed W (n1+1) 3 u
section
variable {w0 W W':World}{br jG bo bk n1 g cap:Nat}{r:List Int}{x0 y0 x1 y1 k0 m:Int}{rows:List (List Int)}{pre:List (Int×Int)}
theorem LI.on(h:LI w0 br jG bo bk n1 g cap r x0 y0 x1 y1 k0 m rows pre W)(hb:Below W.heap.size W W'):LI w0 br jG bo bk n1 g cap r x0 y0 x1 y1 k0 m rows pre W':=by
 obtain⟨⟨v,lo⟩,hk,hw,hm,⟨u,hu⟩⟩:=h;exact⟨⟨v,lo.on hb⟩,fb hk hb,fb hw hb,fb hm hb,⟨u,fb hu hb⟩⟩
theorem LI.put(h:LI w0 br jG bo bk n1 g cap r x0 y0 x1 y1 k0 m rows pre W){l:Nat}{o o':Obj}(hl:W.heap[l]?=some o)(ho:o.isCells=false)(h0:w0.heap.size<=l)(hg:g<l):LI w0 br jG bo bk n1 g cap r x0 y0 x1 y1 k0 m rows pre (W.putObj l o'):=by
 obtain⟨⟨v,lo⟩,hk,hw,hm,⟨u,hu⟩⟩:=h;have gn:=grownBy_putObj' W l o';have ne:∀ {B:Nat} {t:TypeId} {x:Value},Boxed W B t x->B≠l:=fun hb e=>by
   subst e;rw[show W.heap[_]?=_ from hb]at hl;cases hl;cases ho
 have ne':∀ {B:Nat} {t:TypeId} {x:Value},Boxed W B t x->some B≠some l:=fun hb e=>ne hb (by cases e;rfl)
 refine⟨⟨v,lo.grown gn fun k e=>?_⟩,hk.kept gn (ne' hk),hw.kept gn (ne' hw),hm.kept gn (ne' hm),⟨u,hu.kept gn (ne' hu)⟩⟩
 cases e;refine⟨h0,fun e=>ne lo.zn e.symm,fun e=>ne lo.CQ e.symm,by omega,fun e=>?_,fun e=>?_⟩
 . subst e;rw[lo.dH]at hl;cases hl;cases ho
 . rcases lo.own.2 with⟨rfl,_⟩|⟨g',_,cur,rfl,_,hh,_⟩
   . cases e
   . cases e;rw[hh]at hl;cases hl;cases ho
theorem LI.aka(h:LI w0 br jG bo bk n1 g cap r x0 y0 x1 y1 k0 m rows pre W)(u':Value)(h0:w0.heap.size<=n1)(hn:n1+1≠bo/\n1+1≠jG/\n1+1≠g/\n1+1≠br/\n1+1≠bk):LI w0 br jG bo bk n1 g cap r x0 y0 x1 y1 k0 m rows pre (W.setCell ⟨n1+1,0,none⟩ u'):=by
 obtain⟨⟨v,lo⟩,hk,hw,hm,⟨u,hu⟩⟩:=h;have gn:=grownBy_setCell' W (n1+1) u';refine⟨⟨v,lo.grown gn fun k e=>?_⟩,hk.other (Ne.symm hn.2.2.2.2) _,hw.other (by omega) _,hm.other (by omega) _,⟨u',hu.set _⟩⟩
 cases e;exact⟨by omega,hn.1,hn.2.1,hn.2.2.1,hn.2.2.2.1,fun e=>hu.not_row (by decide) lo.own e.symm⟩
end
theorem kp{W:World}{g:Nat}{cs:Array Value}{t e:TypeId}{z:Nat×Nat}{B sz n:Nat}{v:Value}{xs:List Value}(h:W.heap[g]?=some (.cells cs t z))(hte:t≠e)(hr:W.ownsRow B e sz v n xs):some g≠v.ownBlock:=by
 rcases hr.2 with⟨rfl,_⟩|⟨g',cap,cur,rfl,_,Bx,_⟩
 . simp[Value.ownBlock]
 . intro e';obtain rfl:g=g':=by simpa[Value.ownBlock]using e'
   rw[h]at Bx;cases Bx;exact hte rfl
theorem kH{W:World}{B B':Nat}{t t':TypeId}{v v':Value}(h:Boxed W B t v)(h':Boxed W B' t' v')(ht:t≠t'):B≠B':=fun e=>by
 subst e;have:=(show W.heap[B]?=_ from h).symm.trans h'
 simp at this;exact ht this.2
theorem dV{W:World}{B g:Nat}{t t':TypeId}{v:Value}{cs:Array Value}{z:Nat×Nat}(h:Boxed W B t v)(h':W.heap[g]?=some (.cells cs t' z))(ht:t≠t'):B≠g:=fun e=>by
 subst e;have:=(show W.heap[B]?=_ from h).symm.trans h'
 simp at this;exact ht this.2.1
theorem EC(ks:List CK):∀(a b:List (List Int)),aA ks (a++b)=aA ks a++aA ks b:=by
 intro a;induction a with
 |nil=>intro b;rfl
 |cons x a ih=>intro b;simp[aA,ih]
theorem wv(W:World)(a b c:Value)(t:TypeId)(j:Nat)(u:Value)(h: [a,b,c][j]?=some u):(W.alloc (.cells #[a,b,c] t)).cell? ((⟨W.heap.size,0,none⟩:Addr).add j)=some u:=by
 have hn:=World.alloc_heap_new W (.cells #[a,b,c] t)
 match j,h with
 | 0,h=>
   cases h;rw[show(⟨W.heap.size,0,none⟩:Addr).add 0=⟨W.heap.size,0,none⟩from rfl]
   unfold World.cell?;dsimp only;rw[hn];rfl
 | 1,h=>
   cases h;rw[show(⟨W.heap.size,0,none⟩:Addr).add 1=⟨W.heap.size,1,none⟩from rfl]
   unfold World.cell?;dsimp only;rw[hn];rfl
 | 2,h=>
   cases h;rw[show(⟨W.heap.size,0,none⟩:Addr).add 2=⟨W.heap.size,2,none⟩from rfl]
   unfold World.cell?;dsimp only;rw[hn];rfl
 |j+3,h=>simp at h
section
variable {w0 w2 w3:World}{br jG bo bk n1 g cap:Nat}{r:List Int}{x0 y0 x1 y1 k0 m:Int}{rows:List (List Int)}{pre:List (Int×Int)}{v2 v3 kv ub:Value}{Bf:List (List Int)}{tmp:Obj}{news:List Value}
theorem xa(gH:LoopIn w2 w0 br jG bo g cap r x0 y0 x1 y1 v2 Bf)(hk:Boxed w2 bk 3 kv)(ov:(w2.alloc tmp).grownBy w3 v2.ownBlock):Boxed (w3.setCell ⟨bo,0,none⟩ v3) bk 3 kv:=
 ((hk.alloc tmp).kept ov (hk.not_row (by decide) gH.own)).other (kH hk gH.zn (by decide)) _
theorem LI.hit(p:Int×Int)(gH:LoopIn w2 w0 br jG bo g cap r x0 y0 x1 y1 v2 (rows++dw (qb r 4) x0 y0 x1 y1 k0 pre))(hk:Boxed w2 bk 3 (.int .i64 (wrap64 (k0+pre.length))))(hw:Boxed w2 n1 319 (.pointer (some ⟨g,0,none⟩)))(hm:Boxed w2 (n1+1+1) 3 (.int .i64 m))(hu:Boxed w2 (n1+1) 3 ub)
   (hB:w0.heap.size<=bk) (hbn:bk<n1) (hp:lO x0 y0 x1 y1 (px (qb r 4) p.1 p.2) (py (qb r 4) p.1 p.2)=true)
   (ov:(w2.alloc tmp).grownBy w3 v2.ownBlock) (bG:w3.ownsRow w0.heap.size 276 3 v3 ((rows++dw (qb r 4) x0 y0 x1 y1 k0 pre).length+1) (aA [i6,i6,i6] (rows++dw (qb r 4) x0 y0 x1 y1 k0 pre)++[.int .i64 (wrap64 (k0+pre.length)),.int .i64 (px (qb r 4) p.1 p.2),.int .i64 (py (qb r 4) p.1 p.2)])) (B:Nat) :
   SX.H8 B w2 ((w3.setCell ⟨bo,0,none⟩ v3).setCell ⟨bk,0,none⟩ (.int .i64 (wrap64 (wrap64 (k0+pre.length)+1))))/\((w3.setCell ⟨bo,0,none⟩ v3).setCell ⟨bk,0,none⟩ (.int .i64 (wrap64 (wrap64 (k0+pre.length)+1)))).heap[n1+1]?=w2.heap[n1+1]?/\
   LI w0 br jG bo bk n1 g cap r x0 y0 x1 y1 k0 m rows (pre++[p]) ((w3.setCell ⟨bo,0,none⟩ v3).setCell ⟨bk,0,none⟩ (.int .i64 (wrap64 (wrap64 (k0+pre.length)+1)))):=by
 have sQ:=gH.below.size;obtain⟨Qt,Tz,Qy,s9,sR⟩:=gH.zn.appended (by decide) gH.own sQ gH.Qq bG ov
 obtain⟨csg,zg,mL⟩:=gH.sF.2.2;have kb:=xa (v3:=v3) gH hk ov;have kw:Boxed (w3.setCell ⟨bo,0,none⟩ v3) n1 319 _:=((hw.alloc tmp).kept ov (hw.not_row (by decide) gH.own)).other (kH hw gH.zn (by decide)) _
 have km:=xa (v3:=v3) gH hm ov;have ku:=xa (v3:=v3) gH hu ov;have kwy:Boxed (w3.setCell ⟨bo,0,none⟩ v3) jG 319 _:=((gH.CQ.alloc tmp).kept ov (gH.CQ.not_row (by decide) gH.own)).other (kH gH.CQ gH.zn (by decide)) _
 have CW:∀k,k<w2.heap.size->some k≠v2.ownBlock->k≠bo->(w3.setCell ⟨bo,0,none⟩ v3).heap[k]?=w2.heap[k]? :=fun k hk h1 h2=>
   (Below.heap_setCell _ _ _ k h2).trans ((ov.block k (by simp;omega) h1).trans (Below.heap_alloc _ _ _ hk))
 have pI:=CW br (Array.getElem?_eq_some_iff.1 gH.dH).1 (kp gH.dH (by decide) gH.own) (Ne.symm (dV gH.zn gH.dH (by decide)))
 have hgg:=CW g gH.sF.1 (kp mL (by decide) gH.own) (Ne.symm (dV gH.zn mL (by decide)))
 have hbl:Below w0.heap.size w0 (w3.setCell ⟨bo,0,none⟩ v3):=gH.below.trans sR;have fU:rows++dw (qb r 4) x0 y0 x1 y1 k0 (pre++[p])=(rows++dw (qb r 4) x0 y0 x1 y1 k0 pre)++[[wrap64 (k0+pre.length),px (qb r 4) p.1 p.2,py (qb r 4) p.1 p.2]]:=by
   rw[sG,<- List.append_assoc];unfold fx;rw[if_pos hp]
 have lo3:LoopIn (w3.setCell ⟨bo,0,none⟩ v3) w0 br jG bo g cap r x0 y0 x1 y1 v3 (rows++dw (qb r 4) x0 y0 x1 y1 k0 (pre++[p])):=by
   refine⟨gH.Gq,hbl,gH.Qq,Tz,?_,kwy,gH.sF.fG s9.size hgg,pI.trans gH.dH⟩;rw[fU,EC,eH];exact Qy
 have hg4:=grownBy_setCell' (w3.setCell ⟨bo,0,none⟩ v3) bk (.int .i64 (wrap64 (wrap64 (k0+pre.length)+1)));have lo4:=lo3.grown hg4 fun k e=>by
   cases e;refine⟨hB,kH kb Tz (by decide),kH kb kwy (by decide),dV kb (hgg.trans mL) (by decide),dV kb (pI.trans gH.dH) (by decide),fun e=>kb.not_row (by decide) Qy e.symm⟩
 refine⟨fun k o _ ho hc=>(KeepsOthers.setCell _ _ _).same k o (s9.same k o ho hc) hc,?_,⟨v3,lo4⟩,?_,kw.other (by omega) _,km.other (by omega) _,⟨ub,ku.other (by omega) _⟩⟩
 . rw[Below.heap_setCell _ _ _ _ (by show n1+1≠bk;omega)]
   exact(show _=_ from ku).trans (show _=_ from hu).symm
 . have:=kb.set (.int .i64 (wrap64 (wrap64 (k0+pre.length)+1)));rw[eH,List.length_singleton];have e:wrap64 (k0+((pre.length+1:Nat):Int))=wrap64 (wrap64 (k0+pre.length)+1):=by rw[wrap_wrap];congr 1;omega
   rw[e];exact this
theorem LI.akb(p:Int×Int)(h:LI w0 br jG bo bk n1 g cap r x0 y0 x1 y1 k0 m rows pre w2)(hB:w0.heap.size<=bk)(hbn:bk<n1)(hp:lO x0 y0 x1 y1 (px (qb r 4) p.1 p.2) (py (qb r 4) p.1 p.2)=false)(B:Nat) :
   SX.H8 B w2 (w2.setCell ⟨bk,0,none⟩ (.int .i64 (wrap64 (wrap64 (k0+pre.length)+1))))/\(w2.setCell ⟨bk,0,none⟩ (.int .i64 (wrap64 (wrap64 (k0+pre.length)+1)))).heap[n1+1]?=w2.heap[n1+1]?/\
   LI w0 br jG bo bk n1 g cap r x0 y0 x1 y1 k0 m rows (pre++[p]) (w2.setCell ⟨bk,0,none⟩ (.int .i64 (wrap64 (wrap64 (k0+pre.length)+1)))):=by
 obtain⟨⟨v2,gH⟩,hk,hw,hm,⟨ub,hu⟩⟩:=h;obtain⟨csg,zg,mL⟩:=gH.sF.2.2;have hg4:=grownBy_setCell' w2 bk (.int .i64 (wrap64 (wrap64 (k0+pre.length)+1)));have lo4:=gH.grown hg4 fun k e=>by
   cases e;exact⟨hB,kH hk gH.zn (by decide),kH hk gH.CQ (by decide),dV hk mL (by decide),dV hk gH.dH (by decide),fun e=>hk.not_row (by decide) gH.own e.symm⟩
 have fU:dw (qb r 4) x0 y0 x1 y1 k0 (pre++[p])=dw (qb r 4) x0 y0 x1 y1 k0 pre:=by
   rw[sG];unfold fx;rw[hp];exact List.append_nil _
 refine⟨fun k o _ ho hc=>(KeepsOthers.setCell _ _ _).same k o ho hc,Below.heap_setCell _ _ _ _ (by show n1+1≠bk;omega),⟨v2,by rw[fU];exact lo4⟩,?_,hw.other (by omega) _,hm.other (by omega) _,⟨ub,hu.other (by omega) _⟩⟩
 have:=hk.set (.int .i64 (wrap64 (wrap64 (k0+pre.length)+1)));rw[eH,List.length_singleton];have e:wrap64 (k0+((pre.length+1:Nat):Int))=wrap64 (wrap64 (k0+pre.length)+1):=by rw[wrap_wrap];congr 1;omega
 rw[e];exact this
end
end Go.Proofs.YtohebioanhliiaaGreatDoor.aD
namespace Go.Proofs.YtohebioanhliiaaGreatDoor.aD
open Go.Sx Go.RowKit Go.Shelf Go SX
attribute [local go_sem] Oper.semAt_some
def y5:Code->Code×Code
 |.seq _ (.seq (.seq _ b) c)=>(b,c)
 |c=>(c,c)
noncomputable def CR:Code:=(y5 nj).1
noncomputable def Gr:Code:=(y5 nj).2
theorem H9:(Tryz.prog.info? 276).map (fun i=>(i.zero,i.size,i.bytes))=some (some (.agg #[.int .i64 0,.int .i64 0,.int .i64 0]),3,24):=by kernel_rfl
noncomputable abbrev xb(w0:World)(rows:List (List Int)):Exit->Act->World->Prop:=bodyPostM Fence.wide 5 Tryz.prog Tryz.f169 fun e W'=>∃v',e = .returned v'/\Below w0.heap.size w0 W'/\W'.ownsRow w0.heap.size 276 3 v' rows.length (aA [i6,i6,i6] rows)
set_option maxHeartbeats 4000000 in
theorem SY(hr:jz){W W1 w0:World}{br jG bo bk g cap:Nat}{r:List Int}{x0 y0 x1 y1:Int}{v:Value}{rows:List (List Int)}(h:LoopIn W w0 br jG bo g cap r x0 y0 x1 y1 v rows)(gF:mG r)
   {k0 u0 m:Int} (Tv:Boxed W bk 3 (.int .i64 k0)) (hwk:wrap64 k0=k0) (ac2:w0.heap.size<=bk) (akG:bk≠g/\bo≠g) (Ky: -8388608<=u0/\u0<=8388608) (hm:0<=m/\m<=1000) (hlen:rows.length<=1000) (pZ:gG x0) (GH:gG y0) (Mr:gG x1) (SZ:gG y1)
   (uR:Below W.heap.size W W1) {K:Act->World->Prop} (hK:∀a w,Gr.wpIn Fence.wide 5 Tryz.prog (xb w0 (rows++dw (qb r 4) x0 y0 x1 y1 k0 (gm r u0 m.toNat))) a w->K a w) {t0 t1 t2 t3 t4 t6 t9 t10 t11 t12 t13 t14 t15 t16 t18 t19 t20 t21 t22 t23 t24 t25 t26 t27 t28 t29 t30 t31 t32 t33 t34 t35 t36 t37 t38 t39 t40 t41 t42 t43 t44 t45 t46 t47 t48 t49 t50 t51 t52 t53 t54 t55 t56 t57 t58 t59 t60 t61 t62 t63 t64 t65 t66 t67 t68 t69 t70 t71 t72 t73 t74 t75 t76 t77 t78 t79 t80 t81 t82 t83 t84 t85 t86 t87 t88 t89 t90 t91 t92 t93 t94 t95 t96 t97 t98 t99 t100 t101 t102 t103 t104 t105 t106 t107 t108 t109 t110 t111 t112 t113 t114 t115 t116 t117 t118 t119 t120 t121 t122 t123 t124 t125 t126 t127 t128 t129 t130 t131 t132 t133 t134 t135 t137 t138 t139 t140 t141 t142 t143 t144 t145 t146 t147 t148 t149 t150 t151 t152 t153 t154 t155 t156 t157 t158 t159:Value} :
   CR.wpIn Fence.wide 5 Tryz.prog (Exit.then K (xb w0 (rows++dw (qb r 4) x0 y0 x1 y1 k0 (gm r u0 m.toNat))))
     {tmps:=#[t0,t1,t2,t3,t4,.pointer (some ⟨br,0,none⟩),t6,.pointer (some ⟨jG,0,none⟩),.pointer (some ⟨bo,0,none⟩),t9,t10,t11,t12,t13,t14,t15,t16,.pointer (some ⟨bk,0,none⟩),t18,t19,t20,t21,t22,t23,t24,t25,t26,t27,t28,t29,t30,t31,t32,t33,t34,t35,t36,t37,t38,t39,t40,t41,t42,t43,t44,t45,t46,t47,t48,t49,t50,t51,t52,t53,t54,t55,t56,t57,t58,t59,t60,t61,t62,t63,t64,t65,t66,t67,t68,t69,t70,t71,t72,t73,t74,t75,t76,t77,t78,t79,t80,t81,t82,t83,t84,t85,t86,t87,t88,t89,t90,t91,t92,t93,t94,t95,t96,t97,t98,t99,t100,t101,t102,t103,t104,t105,t106,t107,t108,t109,t110,t111,t112,t113,t114,t115,t116,t117,t118,t119,t120,t121,t122,t123,t124,t125,t126,t127,t128,t129,t130,t131,t132,t133,t134,t135,.func (.func 249) #[] #[.pointer (some ⟨W1.heap.size,0,none⟩),.pointer (some ⟨W1.heap.size+1,0,none⟩),.pointer (some ⟨W1.heap.size+1+1,0,none⟩)],t137,t138,t139,t140,t141,t142,t143,t144,t145,t146,t147,t148,t149,t150,t151,t152,t153,t154,t155,t156,t157,t158,t159],defers:=[] } (((W1.alloc (.cells #[.pointer (some ⟨g,0,none⟩)] 319)).alloc (.cells #[.int .i64 u0] 3)).alloc (.cells #[.int .i64 m] 3)):=by
 simp only[Gr,y5,nj,behind,jD,Tryz.f169,Option.getD,Nat.beq,Bool.false_eq_true,if_false,if_true]at hK;simp only[CR,y5,nj,behind,jD,Tryz.f169,Option.getD,Nat.beq,Bool.false_eq_true,if_false,if_true];obtain⟨i0,hi,Kl,Uf,hz2⟩:=info_parts H9;have sQ:(((W1.alloc (.cells #[.pointer (some ⟨g,0,none⟩)] 319)).alloc (.cells #[.int .i64 u0] 3)).alloc (.cells #[.int .i64 m] 3)).heap.size=W1.heap.size+3:=by simp
 have akc:Boxed (((W1.alloc (.cells #[.pointer (some ⟨g,0,none⟩)] 319)).alloc (.cells #[.int .i64 u0] 3)).alloc (.cells #[.int .i64 m] 3)) W1.heap.size 319 (.pointer (some ⟨g,0,none⟩)):=((Boxed.new W1 319 (.pointer (some ⟨g,0,none⟩))).alloc _).alloc _;have ac3:Boxed (((W1.alloc (.cells #[.pointer (some ⟨g,0,none⟩)] 319)).alloc (.cells #[.int .i64 u0] 3)).alloc (.cells #[.int .i64 m] 3)) (W1.heap.size+1) 3 (.int .i64 u0):=by
   have:=(Boxed.new (W1.alloc (.cells #[.pointer (some ⟨g,0,none⟩)] 319)) 3 (.int .i64 u0)).alloc (.cells #[.int .i64 m] 3);rwa[World.size_alloc]at this
 have akd:Boxed (((W1.alloc (.cells #[.pointer (some ⟨g,0,none⟩)] 319)).alloc (.cells #[.int .i64 u0] 3)).alloc (.cells #[.int .i64 m] 3)) (W1.heap.size+1+1) 3 (.int .i64 m):=by
   have:=Boxed.new ((W1.alloc (.cells #[.pointer (some ⟨g,0,none⟩)] 319)).alloc (.cells #[.int .i64 u0] 3)) 3 (.int .i64 m);rwa[World.size_alloc,World.size_alloc]at this
 have sR:Below W.heap.size W (((W1.alloc (.cells #[.pointer (some ⟨g,0,none⟩)] 319)).alloc (.cells #[.int .i64 u0] 3)).alloc (.cells #[.int .i64 m] 3)):=((uR.alloc uR.size _).alloc (by have:=uR.size;simp;omega) _).alloc (by have:=uR.size;simp;omega) _
 have hle:=uR.size;have hB0:=h.below.size;have l1:=Tv.lt;have l2:=h.zn.lt;have l3:=h.CQ.lt;have l4:=h.sF.1;have l5:=(Array.getElem?_eq_some_iff.1 h.dH).1;have Qm:LI w0 br jG bo bk W1.heap.size g cap r x0 y0 x1 y1 k0 m rows [] (((W1.alloc (.cells #[.pointer (some ⟨g,0,none⟩)] 319)).alloc (.cells #[.int .i64 u0] 3)).alloc (.cells #[.int .i64 m] 3)):=
   ⟨⟨v,by simpa[dw]using h.on sR⟩,by simpa[hwk]using fb Tv sR,akc,akd,⟨_,ac3⟩⟩
 gi_wp2
 refine J' (n:=5) (gf:=249) (lb:=#[.pointer (some ⟨W1.heap.size,0,none⟩),.pointer (some ⟨W1.heap.size+1,0,none⟩),.pointer (some ⟨W1.heap.size+1+1,0,none⟩)]) rfl (enters_of Tryz.func249 (by kernel_rfl) rfl)
   (NR:=fun p:Int×Int=>#[.int .i64 p.1,.int .i64 p.2]) (fun _=>rfl) (xs:=gm r u0 m.toNat)
   (LI w0 br jG bo bk W1.heap.size g cap r x0 y0 x1 y1 k0 m rows) (ac0 (W1.heap.size+1)) (fun A B=>B.heap[W1.heap.size+1]?=A.heap[W1.heap.size+1]?)
   (fun pre A l o o' hI h0 hl ho=>hI.put hl ho (by rw[sQ]at h0;omega) (by rw[sQ]at h0;omega))
   (fun pre A o hI=>hI.on ((Below.refl _ _).alloc (Nat.le_refl _) _))
   (fun pre A B hI hs=>?stable) (fun A B hs=>?stays) (fun h1 h2=>h2.trans h1) (fun A l o h0=>World.putObj_heap_other (by rw[sQ]at h0;omega)) Qm
   (fun p=>{tmps:=#[t0,t1,t2,t3,t4,.pointer (some ⟨br,0,none⟩),t6,.pointer (some ⟨jG,0,none⟩),.pointer (some ⟨bo,0,none⟩),t9,t10,t11,t12,t13,t14,t15,t16,.pointer (some ⟨bk,0,none⟩),.int .i64 p.1,.int .i64 p.2,t20,t21,t22,t23,t24,t25,t26,t27,t28,t29,t30,t31,t32,t33,t34,t35,t36,t37,t38,t39,t40,t41,t42,t43,t44,t45,t46,t47,t48,t49,t50,t51,t52,t53,t54,t55,t56,t57,t58,t59,t60,t61,t62,t63,t64,t65,t66,t67,t68,t69,t70,t71,t72,t73,t74,t75,t76,t77,t78,t79,t80,t81,t82,t83,t84,t85,t86,t87,t88,t89,t90,t91,t92,t93,t94,t95,t96,t97,t98,t99,t100,t101,t102,t103,t104,t105,t106,t107,t108,t109,t110,t111,t112,t113,t114,t115,t116,t117,t118,t119,t120,t121,t122,t123,t124,t125,t126,t127,t128,t129,t130,t131,t132,t133,t134,t135,.func (.func 249) #[] #[.pointer (some ⟨W1.heap.size,0,none⟩),.pointer (some ⟨W1.heap.size+1,0,none⟩),.pointer (some ⟨W1.heap.size+1+1,0,none⟩)],.int .i64 p.1,.int .i64 p.2,t139,t140,t141,t142,t143,t144,t145,t146,t147,t148,t149,t150,t151,t152,t153,t154,t155,t156,t157,t158,t159],defers:=[] }) ?iter ?assign ?body ?done (by omega)
 case stable=>
   rcases hs with hs|⟨u,rfl⟩
   . exact hI.on hs
   . exact hI.aka u (by omega) ⟨by omega,by omega,by omega,by omega,by omega⟩
 case stays=>
   intro k o hk ho hc;rcases hs with hs|⟨u,rfl⟩
   . exact(hs.block k (Array.getElem?_eq_some_iff.1 ho).1).trans ho
   . exact(KeepsOthers.setCell A _ u).same k o ho hc
 case iter=>
   intro l J A H' h0 hJI hJS hY;have hAu:Boxed A (W1.heap.size+1) 3 (.int .i64 u0):=(H' _ (by rw[sQ];omega)).trans ac3
   exact SS hr gF Ky hm J A h0 (fun pre B hB=>by
     obtain⟨⟨v',lo⟩,_,hw,hm,hu⟩:=hJI pre B hB;exact⟨⟨lo.wd,hw.cell,hm.cell,lo.sF⟩,hu⟩) hJS hAu hY
 case assign=>
   intro l p A K hK
   gi_wp2
   exact hK
 case body=>
   intro l pre p A hI cQ;have hac:=(wq hr h.wd h.sF gF Ky).1;obtain⟨F9,hp2⟩:=NO Ky ⟨by omega,by omega⟩ cQ
   obtain⟨Xf,Xg⟩:=H7 (t:=qb r 4) F9 hp2;obtain⟨⟨v',lo⟩,hkb,hwb,hmb,⟨ub,hub⟩⟩:=id hI;have Ao:(rows++dw (qb r 4) x0 y0 x1 y1 k0 pre).length<=2000:=by
     have h1:=ux (qb r 4) x0 y0 x1 y1 k0 pre;have h2:=(cT.1 cQ).1;have h3:(gm r u0 m.toNat).length=m.toNat:=by simp[gm]
     rw[eH];omega
   have WR:(4000:Nat)<=maxLen:=by decide
   have hwc:=lo.CQ.cell;have h4:=lo.sF.bool 4 rfl;have c0:A.cell? ⟨br,0,none⟩=some (.int .i64 x0):=by simp[World.cell?,lo.dH]
   have c1:A.cell? ⟨br,1,none⟩=some (.int .i64 y0):=by simp[World.cell?,lo.dH]
   have c2:A.cell? ⟨br,2,none⟩=some (.int .i64 x1):=by simp[World.cell?,lo.dH]
   have c3:A.cell? ⟨br,3,none⟩=some (.int .i64 y1):=by simp[World.cell?,lo.dH]
   gi_wp2_with (first
     |(refine⟨trivial,?_⟩;gi_at_call 209;refine(CallsIn.inRound l (callsIn_wide.2 (yZ h4 _ _))).mono ?_;rintro e w1 ⟨rfl,rfl⟩)
     |(refine⟨trivial,?_⟩;gi_at_call 168;refine(CallsIn.inRound l (callsIn_wide.2 (EA hr lo.wd pZ GH Mr SZ Xf Xg).2)).mono ?_;rintro e w2 ⟨rfl,hbw⟩;have Tu:=hI.on hbw;clear hwc h4 c0 c1 c2 c3;obtain⟨⟨v2,gH⟩,S0,ake,akf,⟨ub2,akg⟩⟩:=id Tu;have akH:=gH.zn.cell;have akI:=S0.cell;have akJ:=S0.frozen)
     |(gi_at_builtin;refine wpListIn_append_own _ rfl _ _ 272 rfl w0.heap.size 276 i0 (.agg #[.int .i64 0,.int .i64 0,.int .i64 0]) 3 24 Tryz.underlying272 hi Kl Uf hz2 rfl (by decide) _ _ _ rfl (gH.own.alloc _) ⟨w2.heap.size,0,none⟩ 1 1 [.int .i64 (wrap64 (k0+pre.length)),.int .i64 (px (qb r 4) p.1 p.2),.int .i64 (py (qb r 4) p.1 p.2)] rfl rfl (wv _ _ _ _ _) (by simp[Value.oneCell']) (by omega) (by omega) (by have:=gH.below.size;simp;omega) ?_;intro v3 w3 y7 vq _;obtain⟨g',nN,rfl⟩:=ownsRow_succ y7;obtain⟨Qt,Tz,Qy,s9,akh⟩:=gH.zn.appended (by decide) gH.own gH.below.size gH.Qq y7 vq;have rA:=Qt.cell;have hf1:=Qt.frozen;have Xh:=xa (v3:=.slice (some ⟨g',0,none⟩) ((rows++dw (qb r 4) x0 y0 x1 y1 k0 pre).length+1) nN) gH S0 vq;rw[eH]at Xh;have akK:=Xh.cell;have akL:=Xh.frozen))
   . obtain⟨a1,a2,a3⟩:=LI.hit p gH S0 ake akf akg ac2 (by omega) (by assumption) vq y7 (W1.heap.size+3)
     rw[eH]at a1 a2 a3;exact⟨fun k o hk ho hc=>a1 k o hk ((hbw.block k (Array.getElem?_eq_some_iff.1 ho).1).trans ho) hc,a2.trans (hbw.block _ hub.lt),a3⟩
   . obtain⟨a1,a2,a3⟩:=LI.akb p Tu ac2 (by omega) (by assumption) (W1.heap.size+3)
     exact⟨fun k o hk ho hc=>a1 k o hk ((hbw.block k (Array.getElem?_eq_some_iff.1 ho).1).trans ho) hc,a2.trans (hbw.block _ hub.lt),a3⟩
 case done=>
   intro D A hD hI hDf;obtain⟨⟨v',lo⟩,hkb,hwb,hmb,⟨ub,hub⟩⟩:=hI;refine hK _ _ ?_;have hoc:=lo.zn.cell
   gi_wp2
   refine⟨by simp,.inl ⟨_,_,rfl,run_takeDeferred hDf,?_⟩⟩
   exact⟨_,results_tmp rfl _ _ _,v',rfl,lo.below.trans (belowK_b (w:=w0) (Nat.le_refl _) A D _ _ (by rw[sQ]at hD;omega) hDf rfl rfl),ownsRow_putObj lo.own _ hDf rfl⟩
end Go.Proofs.YtohebioanhliiaaGreatDoor.aD

/- Triangles and soft lines have at most as many fragments as a rectangle has pixels. -/
import Derived.Test.YtohebioanhliiaaGreatDoorBV2
import Derived.Test.YtohebioanhliiaaGreatDoorBX2
import Derived.Test.YtohebioanhliiaaGreatDoorBZ1
set_option maxRecDepth 100000
set_option linter.unusedVariables false
set_option linter.unusedSimpArgs false
namespace Go.Proofs.YtohebioanhliiaaGreatDoor.aw
open Go.Sx Go
def NG:A:=.l 0 (some 72) nd
def kb(k:Nat):Cn:=match k with
 |221=>((((kc 221).a [21,22] (.i 0 0)).a [23] (.i 9 9)).a [24] (.i 8 8)).r [0] (.l 0 (some 8) [(0,8),(0,9),(0,9)])
 |177=>((((kc 177).a [22,23] (.i 0 0)).a [24] (.i 9 9)).a [25] (.i 8 8)).r [0] NG
 |112=>((((kc 112).a [15,16] (.i 0 0)).a [17] (.i 9 9)).a [18] (.i 8 8)).r [0] NG
 |k=>kc k
def UG:List BE×BE:=([.or (.eq (.len 31) (.c 0)) (.le (.v 32) (.c 8)),.le (.len 31) (.v 32)],.le (.len 31) (.c 8))
def ab(k:Nat):An:=match k with
 |221=>⟨[(221008,31,⟨[.l 0 (some 8) [(0,7),(0,8),(1,9)],.i 0 1048575],[.or (.eq (.len 31) (.c 0)) (.le (.v 32) (.c 8)),.le (.add (.len 31) (.max (.v 22) (.sub (.ediv (.min (.min (.v 1) (.v 8)) (.v 15)) 256) (.c 1)))) (.add (.v 32) (.c 0)),.le (.max (.v 22) (.sub (.ediv (.min (.min (.v 1) (.v 8)) (.v 15)) 256) (.c 1))) (.v 32)],.add (.mul (.c (-1)) (.v 32)) (.add (.ediv (.max (.max (.v 1) (.v 8)) (.v 15)) 256) (.c 2))⟩)]++(an 221).loops.drop 1,UG::(an 221).dZ,(an 221).er⟩
 |177=>⟨(an 177).loops.map fun x=>match x with
     |(177007,b,iv)=>(177007,b,⟨[.l 0 (some 72) [(0,99),(0,100),(0,16777215),cI,cI,cI,cI,(64,64)],.i 0 8],.le (.len 89) (.mul (.c 9) (.v 90))::iv.ex.drop 1,iv.me⟩)
     |(177016,b,iv)=>(177016,b,⟨.l 0 (some 72) [(0,99),(0,100),(0,16777215),cI,cI,cI,cI,(64,64)] :: .i 0 9::iv.as.drop 2,iv.ex,iv.me⟩)
     |x=>x,(an 177).dZ,(an 177).er⟩
 |112=>⟨(an 112).loops.map fun x=>match x with
     |(112012,b,iv)=>(112012,b,⟨[.l 0 (some 72) [(0,mx),(0,99),cI,cI,cI,cI,cI,cI],.i 0 1048707,.l 0 (some 9) [cI]],.le (.len 35) (.mul (.c 9) (.v 36))::iv.ex.drop 1,iv.me⟩)
     |(112017,b,iv)=>(112017,b,⟨[.l 0 (some 72) [(0,mx),(0,99),cI,cI,cI,cI,cI,cI],.i 0 9],iv.ex,iv.me⟩)
     |(id,b,iv)=>(id,b,⟨iv.as.map fun a=>match a with
         |.l 0 (some 100) x=>.l 0 (some 9) x
         |a=>a,iv.ex,iv.me⟩),(an 112).dZ,(an 112).er⟩
 |k=>an k
theorem NH:fa UG:=by
 intro U h;have h1:(decide (((U 31).list.length:Int)=0)||decide ((U 32).int<=8))=true:=h _ (aM ..);have h2:=qt (h _ (aZ _ (aM ..)));have h2:((U 31).list.length:Int)<=(U 32).int:=h2;rw[fU,aD,aD]at h1;exact mM (show((U 31).list.length:Int)<=8 by omega)
theorem NI:∀k,∀l∈(ab k).dZ,fa l:=by
 intro k l hl;unfold ab at hl;split at hl;rcases bh.1 hl with rfl|hl;exact NH;exact aB 221 l hl;exact aB 177 l hl;exact aB 112 l hl;exact aB k l hl
theorem abH:GJ (TT Tryz.prog) kb ab [252,65,253] 221=true:=by kernel_rfl
theorem abI:GJ (TT Tryz.prog) kb ab [221,222,223,224,225,220] 177=true:=by kernel_rfl
theorem abJ:GJ (TT Tryz.prog) kb ab [159,65,160,161,203,204,163] 112=true:=by kernel_rfl
theorem GX{ks:List Nat}(h:(ks.all fun j=>(ord.take 125).any (Nat.beq j) && !(Nat.beq j 221||Nat.beq j 177||Nat.beq j 112))=true):nO (TT Tryz.prog) XF kb ks:=by
 intro j hj;have:=k7.1 h j hj;rw[ah,mG,Ae,Ae]at this;obtain⟨h1,⟨h2,h3⟩,h4⟩:=this;obtain⟨x,hx,hb⟩:=kI.1 h1;have hg:=uP j (by rw[uJ hb];exact hx);have e:kb j=kc j:=by
   unfold kb;split;cases h2;cases h3;cases h4;rfl
 rw[e];exact hg
theorem abK:qn (TT Tryz.prog) XF 221 (kb 221).fQ (kb 221).iA:=aC NI (GX (by decide)) abH
theorem abL:qn (TT Tryz.prog) XF 177 (kb 177).fQ (kb 177).iA:=aC NI (nO.and (GX (by decide)) abK) abI
theorem abM:qn (TT Tryz.prog) XF 112 (kb 112).fQ (kb 112).iA:=aC NI (GX (by decide)) abJ
theorem Xe:(kb 177).pre=[]:=by kernel_rfl
theorem Xf:(kb 112).pre=[]:=by kernel_rfl
theorem Xg:(kb 177).res=[NG]:=by kernel_rfl
theorem Xh:(kb 112).res=[NG]:=by kernel_rfl
theorem Iu{rs:List DV}(h:nL [NG] rs):∃fr,rs=[.l fr]/\(fr.length:Int)<=72:=by
 match rs,h with
 | [.l fr],h=>exact⟨fr,rfl,h.1.2.1 _ rfl⟩
def xI(B:C7):List (Int×Int)->Nat->List SI->Bool
 | [],_,_=>true
 | c::cs,j,r=>match zt c.1 ((r.getD j (.k 0)).lo B)with
   | true=>match zt ((r.getD j (.k 0)).hi B) c.2 with
     |true=>xI B cs (j+1) r
     |false=>false
   |false=>false
theorem zu{B:C7}{σ:List Int}(h:Lo σ B):∀ {cs:List (Int×Int)} {j:Nat} {r:List SI},xI B cs j r=true->bZ cs j (r.map (SI.ae σ))
 | [],_,_,_=>trivial
 | c::cs,j,r,e=>by
   unfold xI at e;split at e;rename_i e1;split at e;rename_i e2;have h1:=eY.1 e1;have h2:=eY.1 e2;have h3:=SI.in (a:=r.getD j (.k 0)) h
   refine⟨?_,zu h e⟩;rw[getD_map];omega;cases e;cases e
def Xi(B:C7):A->YV->Bool
 |.i lo hi,.i a=>zt lo (a.lo B)&&zt (a.hi B) hi
 |.b,.b _=>true
 |.l n (some m) cs,.l xs=>(zt n xs.length&&zt xs.length m)&&xs.all (xI B cs 0)
 |.t,_=>true
 |_,_=>false
theorem SZ{B:C7}{V:sr}(h:Lo V.σ B){a:A}{d:YV}(e:Xi B a d=true):a.has (d.ae V):=by
 unfold Xi at e;split at e;rename_i lo hi a;rw[ah]at e;have h1:=eY.1 e.1;have h2:=eY.1 e.2;have h3:=SI.in (a:=a) h
 exact⟨by omega,by omega⟩;trivial;rename_i n m cs xs;rw[ah,ah]at e;obtain⟨⟨e1,e2⟩,e3⟩:=e;have h1:=eY.1 e1;have h2:=eY.1 e2;refine⟨by simpa[eR]using h1,fun y hy=>by cases hy;simpa[eR]using h2,fun r hr=>?_⟩;obtain⟨r',cq,rfl⟩:=kE.1 hr;exact zu h (k7.1 e3 r' cq);cases d<;>trivial;cases e
def NJ(B:C7):List A->List YV->Bool
 | [],[]=>true
 |a::az,d::ds=>Xi B a d&&NJ B az ds
 |_,_=>false
theorem oD{B:C7}{V:sr}(h:Lo V.σ B):∀ {az:List A} {ds:List YV},NJ B az ds=true->nL az (dO V ds)
 | [],[],_=>trivial
 | a::az,d::ds,e=>by
   unfold NJ at e;rw[ah]at e;exact⟨SZ h e.1,oD h e.2⟩
 | [],_::_,e=>by cases e
 |_::_,[],e=>by cases e
def t9:ar:=
.ite (.lt (.v 1) (.len 0)) (
.ret [.b (.c false)]) (
.loop 9004 [.b (.c false),.i (.c 0)] [.c (.b),.c i6] 2 (
.ite (.lt (.v 3) (.len 0)) (
.ev (.aG (.le (.c 0) (.v 3))) (
.ite (.or (.or (.or (.lt (.get 0 (.v 3) 0) (.c (-1048576))) (.lt (.c 1048576) (.get 0 (.v 3) 0))) (.lt (.get 0 (.v 3) 1) (.c (-1048576)))) (.lt (.c 1048576) (.get 0 (.v 3) 1))) (
.ret [.b (.c false)]) (
.ev (.aG (r6 (.add (.v 3) (.c 1)))) (
.again 9004 [.b (.v 2),.i (.add (.v 3) (.c 1))])))) (
.ret [.b (.c true)])))
theorem T9:TT Tryz.prog 9=some ⟨9,t9,(rowOf 9).sub⟩:=by kernel_rfl
def NL(r:List Int):Prop:=(-1048576<=r.getD 0 0/\r.getD 0 0<=1048576)/\-1048576<=r.getD 1 0/\r.getD 1 0<=1048576
theorem Xj{l:List (List Int)}{n:Int}{rs:List DV}(hg:Gf 9 [.l l,.i n] rs):rs=[.b false]\/rs=[.b true]/\(l.length:Int)<=n/\∀r∈l,NL r:=by
 refine cR (R:=fun rs=>rs=[DV.b false]\/rs=[DV.b true]/\(l.length:Int)<=n/\∀r∈l,NL r) T9 ?_ hg;obtain⟨e,he⟩:∃e,e=bB.ay 0 [DV.l l,.i n]:=⟨_,rfl⟩;have w0:e 0 = .l l:=by rw[he];rfl
 have w1:e 1 = .i n:=by rw[he];rfl
 rw[<- he];refine iV (fun _=>eA (.inl rfl)) (fun hn=>?_);have hn:((e 0).list.length:Int)<=(e 1).int:=hn;rw[w0,w1]at hn;refine rF (fun vs=>∃(b:Bool) (i:Nat),vs=[.b b,.i i]/\∀k,k<i->k<l.length->NL (l.getD k [])) ⟨false,0,rfl,fun k hk=>by omega⟩ ?_;rintro _ ⟨b,i,rfl,hi⟩;obtain⟨e1,zw,o1,v1⟩:=EW e 2 [.b b,.i i];have x3:e1 3 = .i i:=v1 1 (by simp);have y0:e1 0 = .l l:=by rw[o1 _ (by omega),w0]
 rw[<- zw];refine iV (fun cF=>aP fun _=>?_) (fun z8=>eA (.inr ⟨rfl,hn,fun r hr=>?_⟩));refine iB (fun _=>eA (.inl rfl)) (fun hc=>aP fun _=>nc ⟨b,i+1,?_,fun k hk hkl=>?_⟩);show [DV.b (e1 2).bool,DV.i ((e1 3).int+1)]=_;rw[x3,show e1 2 = .b b from v1 0 (by simp)];rfl;by_cases h:k<i;exact hi k h hkl;obtain rfl:k=i:=by omega
 simp only[BE.ae,IE.ae,cellAt,x3,y0,di,dl,Ae,DG,xe]at hc;obtain⟨⟨⟨h1,h2⟩,h3⟩,h4⟩:=hc;exact⟨⟨by omega,by omega⟩,by omega,by omega⟩;have z8:((e1 0).list.length:Int)<=(e1 3).int:=z8;rw[x3,y0]at z8;have z8:(l.length:Int)<=(i:Int):=z8;obtain⟨k,hk⟩:=List.mem_iff_getElem?.1 hr;have hkl:k<l.length:=(cC.1 hk).1;have:=hi k (by omega) hkl;rwa[eI,hk]at this
end Go.Proofs.YtohebioanhliiaaGreatDoor.aw

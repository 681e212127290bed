/- Lines have at most as many fragments as a rectangle has columns, times their width. -/
import Derived.Test.YtohebioanhliiaaGreatDoorBV1
set_option maxRecDepth 100000
set_option linter.unusedVariables false
set_option linter.unusedSimpArgs false
namespace Go.Proofs.YtohebioanhliiaaGreatDoor.aw
section
open Go.Sx Go
def wr(t:Bool)(a b c d:Nat)(bk:Int)(F L:IE)(ex op:BE)(u v:IE):List (Sum IE BE):=
 [.inl (.v a),.inl (.v b),.inl (.v c),.inl (.v d),.inr (.c t),.inl (.c bk),.inl F,.inl L,.inr ex,.inr op,.inl u,.inl v]
def Ix(t:Bool)(a b c d:Nat)(bk:Int)(F L:IE)(ex:Bool)(u v:IE)(n m:Nat):ar:=
.ev (.call 211 (.and (.lt (.c 0) (.v n)) (.v (n+6))) [.kn (wr t a b c d bk F L (.c ex) (.c false) u v)] [oI] m) (
.ev (.aG (.or (.not (.and (.lt (.c 0) (.v n)) (.v (n+6)))) (r6 (.sub L (.v m))))) (
.ite (.and (.and (.lt (.c 0) (.v n)) (.v (n+6))) (.eq (.v (n+4)) (.sub L (.v m)))) (
.ev (.call 251 (.c true) [.kn (wr t a b c d bk F L (.c ex) (.c false) u v),.i (.v (n+4))] [oI] (m+1)) (
.ret [.kn (wr t a b c d bk F L (.c ex) (.eq (.v (m+1)) (.v (n+5))) u v)])) (
.ret [.kn (wr t a b c d bk F L (.c ex) (.c false) u v)])))
def Iy(t:Bool)(a b c d:Nat)(bk:Int)(F L:IE)(n m:Nat):ar:=
.ev (.call 210 (.c true) [.kn (wr t a b c d bk F L (.c false) (.c false) (.c 0) (.c 0))] [oI] n) (
.ev (.call 268 (.c true) [.kn (wr t a b c d bk F L (.c false) (.c false) (.c 0) (.c 0)),.i (.v 0),.i (.v 1)] [oI,oI,oB] (n+1)) (
.ev (.call 268 (.c true) [.kn (wr t a b c d bk F L (.c false) (.c false) (.c 0) (.c 0)),.i (.v 2),.i (.v 3)] [oI,oI,oB] (n+4)) (
.ite (.and (.and (.v (n+3)) (.or (.eq (.v n) (.c 0)) (.not (.eq (.v (n+1)) F)))) (.not (.and (.and (.v (n+6)) (.eq (.v (n+1)) (.v (n+4)))) (.eq (.v (n+2)) (.v (n+5))))))
 (Ix t a b c d bk F L true (.v (n+1)) (.v (n+2)) n m) (Ix t a b c d bk F L false (.c 0) (.c 0) n m))))
def NU(t:Bool)(a b c d:Nat)(bk:Int)(k1 k2 n m:Nat):ar:=
.ev (.call 247 (.c true) [.i (.v a)] [oI] k1) (
.ev (.call 247 (.c true) [.i (.v c)] [oI] k2) (
.ite (.lt (.v k2) (.v k1)) (
.ev (.aG (r6 (.sub (.v k1) (.c 1)))) (.ev (.aG (r6 (.sub (.v k2) (.c 1)))) (Iy t a b c d bk (.sub (.v k1) (.c 1)) (.sub (.v k2) (.c 1)) n m))) (
 Iy t a b c d bk (.v k1) (.v k2) n m)))
def t207:ar:=
.ev (.aG (r6 (.sub (.v 2) (.v 0)))) (
.ev (.aG (r6 (.sub (.v 3) (.v 1)))) (
.ev (.aG (r6 (.sub (.c 0) (.sub (.v 2) (.v 0))))) (
.ev (.aG (r6 (.sub (.c 0) (.sub (.v 3) (.v 1))))) (
.ite (.lt (.max (.sub (.v 2) (.v 0)) (.sub (.c 0) (.sub (.v 2) (.v 0)))) (.max (.sub (.v 3) (.v 1)) (.sub (.c 0) (.sub (.v 3) (.v 1))))) (
 NU true 1 0 3 2 1 3080 5640 5643 11794) (
.ite (.or (.and (.lt (.c 0) (.sub (.v 2) (.v 0))) (.lt (.c 0) (.sub (.v 3) (.v 1)))) (.and (.lt (.sub (.v 2) (.v 0)) (.c 0)) (.lt (.sub (.v 3) (.v 1)) (.c 0)))) (
 NU false 0 1 2 3 0 3079 5639 5642 11793) (
 NU false 0 1 2 3 1 3079 5639 5642 11793))))))
theorem ag9:TT Tryz.prog 207=some ⟨207,t207,(rowOf 207).sub⟩:=by kernel_rfl
def t247:ar:=.ev (.aG (r6 (.add (.v 0) (.c 127)))) (.ret [.i (.ediv (.add (.v 0) (.c 127)) 256)])
theorem ag':TT Tryz.prog 247=some ⟨247,t247,(rowOf 247).sub⟩:=by kernel_rfl
def t210:ar:=
.ev (.aG (.lt (.c 0) (.len 0))) (
.ev (.aG (r6 (.sub (.get 0 (.c 0) 7) (.get 0 (.c 0) 6)))) (
.ev (.aG (r6 (.sub (.get 0 (.c 0) 6) (.get 0 (.c 0) 7)))) (
.ret [.i (.max (.sub (.get 0 (.c 0) 7) (.get 0 (.c 0) 6)) (.sub (.get 0 (.c 0) 6) (.get 0 (.c 0) 7)))])))
theorem ab4:TT Tryz.prog 210=some ⟨210,t210,(rowOf 210).sub⟩:=by kernel_rfl
def t211:ar:=.ev (.aG (.lt (.c 0) (.len 0))) (.ite (.lt (.get 0 (.c 0) 7) (.get 0 (.c 0) 6)) (.ret [.i (.c (-1))]) (.ret [.i (.c 1)]))
theorem aha:TT Tryz.prog 211=some ⟨211,t211,(rowOf 211).sub⟩:=by kernel_rfl
def lx:IE:=.sub (.emod (.v 0) 256) (.c 128)
def ly:IE:=.sub (.emod (.v 1) 256) (.c 128)
def ld:IE:=.add (.max lx (.sub (.c 0) lx)) (.max ly (.sub (.c 0) ly))
def t284:ar:=
.ev (.aG (r6 lx)) (
.ev (.aG (r6 ly)) (
.ite (.and (.eq lx (.c (-128))) (.eq ly (.c 0))) (
.ev (.aG (r6 (.sub (.ediv (.v 0) 256) (.c 1)))) (
.ret [.i (.sub (.ediv (.v 0) 256) (.c 1)),.i (.ediv (.v 1) 256),.b (.c true)])) (
.ev (.aG (r6 (.sub (.c 0) lx))) (
.ev (.aG (r6 (.sub (.c 0) ly))) (
.ev (.aG (r6 ld)) (
.ite (.or (.lt ld (.c 128)) (.and (.eq ld (.c 128)) (.lt (.c 0) lx))) (
.ret [.i (.ediv (.v 0) 256),.i (.ediv (.v 1) 256),.b (.c true)]) (
.ret [.i (.c 0),.i (.c 0),.b (.c false)])))))))
theorem ahb:TT Tryz.prog 284=some ⟨284,t284,(rowOf 284).sub⟩:=by kernel_rfl
def t268:ar:=
.ev (.call 284 (.c true) [.i (.v 1),.i (.v 2)] [oI,oI,oB] 4) (
.ev (.aG (.lt (.c 0) (.len 0))) (
.ite (.qu (.get 0 (.c 0) 4)) (
.ret [.i (.v 5),.i (.v 4),.b (.v 6)]) (
.ret [.i (.v 4),.i (.v 5),.b (.v 6)])))
theorem ahc:TT Tryz.prog 268=some ⟨268,t268,(rowOf 268).sub⟩:=by kernel_rfl
section
variable {X:bD}
theorem ahd{x y:Int}{rs:List DV}(hg:cm (TT Tryz.prog) X 284 [.i x,.i y] rs):∃u v b,rs=[.i u,.i v,.b b]/\(b=true->v=y/256/\(u=x/256\/u=x/256-1/\x%256=0)):=by
 refine cR (R:=fun rs=>∃u v b,rs=[DV.i u,.i v,.b b]/\(b=true->v=y/256/\(u=x/256\/u=x/256-1/\x%256=0))) ahb ?_ hg;refine aP fun _=>aP fun _=>iB (fun hc=>aP fun _=>eA ⟨x/256-1,y/256,true,rfl,fun _=>⟨rfl,.inr ⟨rfl,?_⟩⟩⟩) (fun _=>aP fun _=>aP fun _=>aP fun _=>iB (fun _=>eA ⟨x/256,y/256,true,rfl,fun _=>⟨rfl,.inl rfl⟩⟩) (fun _=>eA ⟨0,0,false,rfl,fun h=>by cases h⟩));have hc:(decide (x%256-128 = -128)&&decide (y%256-128=0))=true:=hc;rw[ah,aD,aD]at hc;omega
theorem ab5{t:Bool}{r:List Int}(h4:r.getD 4 0=if t then 1 else 0){x y:Int}{rs:List DV}(hg:cm (TT Tryz.prog) X 268 [.l [r],.i x,.i y] rs):∃u v b,rs=[.i u,.i v,.b b]/\(b=true->(u=(if t then y else x)/256\/u=(if t then y else x)/256-1/\(if t then y else x)%256=0)):=by
 refine cR (R:=fun rs=>∃u v b,rs=[DV.i u,.i v,.b b]/\(b=true->(u=(if t then y else x)/256\/u=(if t then y else x)/256-1/\(if t then y else x)%256=0))) ahc ?_ hg;have k:(⟨268,t268,(rowOf 268).sub⟩:gb).key 284=284:=by kernel_rfl
 refine ej fun r1 g1=>?_;rw[k]at g1;obtain⟨u,v,b,rfl,h⟩:=ahd (x:=x) (y:=y) g1;refine aP fun _=>iB (fun hc=>eA ⟨v,u,b,rfl,fun hb=>?_⟩) (fun hc=>eA ⟨u,v,b,rfl,fun hb=>?_⟩);have hc:decide (r.getD 4 0≠0)=true:=hc;rw[h4,aD]at hc;cases t;exact absurd rfl hc;exact .inl (h hb).1;have hc:decide (r.getD 4 0≠0)=false:=hc;rw[h4,DG]at hc;cases t;exact(h hb).2;exact absurd (by decide) hc
def Dd(t:Bool)(r:List Int):Prop:=r.getD 4 0=(if t then 1 else 0)/\(r.getD 8 0≠0->r.getD 7 0=r.getD 6 0\/(r.getD 6 0<r.getD 7 0->r.getD 10 0<r.getD 6 0)/\(r.getD 7 0<r.getD 6 0->r.getD 6 0<r.getD 10 0))
theorem BC{E:Nat->List DV->List DV->Prop}{e:aA}{t:Bool}{a b c d:Nat}{bk:Int}{F L:IE}{n m:Nat}{ex:Bool}{u v:IE}(hF:∀e',(∀k,k<m->e' k=e k)->F.ae e'=F.ae e)(hL:∀e',(∀k,k<m->e' k=e k)->L.ae e'=L.ae e)(hu:∀e',(∀k,k<m->e' k=e k)->u.ae e'=u.ae e)
   (h:ex=true->L.ae e=F.ae e\/(F.ae e<L.ae e->u.ae e<F.ae e)/\(L.ae e<F.ae e->F.ae e<u.ae e)):(Ix t a b c d bk F L ex u v n m).par E (fun rs=>∃r,rs=[.l [r]]/\Dd t r) [] e (fun _ _=>True):=by
 have fin:∀(e':aA) (op:BE),(∀k,k<m->e' k=e k)->∃r,[DE.kn (wr t a b c d bk F L (.c ex) op u v)].map (DE.ae e')=[.l [r]]/\Dd t r:=fun e' op o=>by
   refine⟨_,rfl,?_,?_⟩;show(if(BE.c t).ae e' then(1:Int)else 0)=_;rfl;intro h8;have hx:ex=true:=by
     cases ex;exact absurd rfl h8;rfl
   have:=h hx;show L.ae e'=F.ae e'\/(F.ae e'<L.ae e'->u.ae e'<F.ae e')/\(L.ae e'<F.ae e'->F.ae e'<u.ae e');rw[hF e' o,hL e' o,hu e' o];exact this
 unfold Ix;have go:∀e2:aA,(∀k,k<m->e2 k=e k)->(ar.ev (.aG (.or (.not (.and (.lt (.c 0) (.v n)) (.v (n+6)))) (r6 (.sub L (.v m))))) (
     .ite (.and (.and (.lt (.c 0) (.v n)) (.v (n+6))) (.eq (.v (n+4)) (.sub L (.v m)))) (
     .ev (.call 251 (.c true) [.kn (wr t a b c d bk F L (.c ex) (.c false) u v),.i (.v (n+4))] [oI] (m+1)) (
     .ret [.kn (wr t a b c d bk F L (.c ex) (.eq (.v (m+1)) (.v (n+5))) u v)])) (
     .ret [.kn (wr t a b c d bk F L (.c ex) (.c false) u v)]))).par E (fun rs=>∃r,rs=[.l [r]]/\Dd t r) [] e2 (fun _ _=>True):=fun e2 o2=>
   aP fun _=>iB (fun _=>ej fun r2 _=>eA (fin _ _ fun k hk=>by rw[aA.bn (by omega),o2 k hk])) (fun _=>eA (fin _ _ o2))
 exact xH (fun _ r1 _=>go _ fun k hk=>aA.bn hk) (fun _=>go _ fun k hk=>aA.bn hk)
theorem BD{e:aA}{t:Bool}{a b c d:Nat}{bk:Int}{F L:IE}{n m:Nat}(hn:5600<=n)(hm:n+7<=m){au k1 k2:Int}(hF:∀e',(∀k,k<n->e' k=e k)->F.ae e'=F.ae e)(hL:∀e',(∀k,k<n->e' k=e k)->L.ae e'=L.ae e)(hau:(if t then(e 1).int else(e 0).int)=au)(vE:k1=(au+127)/256)
   (hFL:k2<k1/\F.ae e=k1-1/\L.ae e=k2-1\/k1<=k2/\F.ae e=k1/\L.ae e=k2) :
   (Iy t a b c d bk F L n m).par (fun g=>cm (TT Tryz.prog) X ((⟨207,t207,(rowOf 207).sub⟩:gb).key g)) (fun rs=>∃r,rs=[.l [r]]/\Dd t r) [] e (fun _ _=>True):=by
 have G1:(⟨207,t207,(rowOf 207).sub⟩:gb).key 210=210:=by kernel_rfl
 have ahe:(⟨207,t207,(rowOf 207).sub⟩:gb).key 268=268:=by kernel_rfl
 unfold Iy;refine ej fun r1 g1=>?_;rw[G1]at g1;have hr1:r1=[.i (max (L.ae e-F.ae e) (F.ae e-L.ae e))]:=cR (R:=fun rs=>rs=[DV.i (max (L.ae e-F.ae e) (F.ae e-L.ae e))]) ab4 (aP fun _=>aP fun _=>aP fun _=>eA rfl) g1;subst hr1;obtain⟨e1,zw,o1,v1⟩:=EW e n [.i (max (L.ae e-F.ae e) (F.ae e-L.ae e))];have n1:(e1 n).int=max (L.ae e-F.ae e) (F.ae e-L.ae e):=by rw[show e1 n=e1 (n+0)from rfl,v1 0 (by simp)];rfl
 rw[<- zw];refine ej fun r2 g2=>?_;rw[ahe]at g2;obtain⟨u,v,b2,rfl,dy⟩:=ab5 (t:=t) (x:=(e1 0).int) (y:=(e1 1).int) (by show(if(BE.c t).ae e1 then(1:Int)else 0)=_;rfl) g2;rw[o1 0 (by omega),o1 1 (by omega),show(if t then(e 1).int else(e 0).int)=au from hau]at dy;obtain⟨e2,Ji,o2,v2⟩:=EW e1 (n+1) [.i u,.i v,.b b2];have u2:e2 (n+1) = .i u:=v2 0 (by simp);have b3:e2 (n+3) = .b b2:=v2 2 (by simp);have n2:(e2 n).int=max (L.ae e-F.ae e) (F.ae e-L.ae e):=by rw[o2 _ (by omega),n1]
 rw[<- Ji];refine ej fun r3 _=>?_;obtain⟨e3,KA⟩:∃e3,e3=e2.ay (n+4) r3:=⟨_,rfl⟩;have o3:∀k,k<n+4->e3 k=e2 k:=fun k hk=>by rw[KA,aA.bn hk]
 have on:∀k,k<n->e3 k=e k:=fun k hk=>by rw[o3 _ (by omega),o2 _ (by omega),o1 _ hk]
 rw[<- KA];have tF:∀e',(∀k,k<m->e' k=e3 k)->F.ae e'=F.ae e3:=fun e' o=>by rw[hF e' fun k hk=>by rw[o k (by omega),on k hk],hF e3 on]
 have tL:∀e',(∀k,k<m->e' k=e3 k)->L.ae e'=L.ae e3:=fun e' o=>by rw[hL e' fun k hk=>by rw[o k (by omega),on k hk],hL e3 on]
 refine iB (fun CP=>?_) (fun _=>BC tF tL (fun _ _=>rfl) (fun h=>by cases h));refine BC tF tL (fun e' o=>by show(e' (n+1)).int=_;rw[o _ (by omega)];rfl) (fun _=>?_);rw[hF e3 on,hL e3 on];have CP:(((e3 (n+3)).bool&&(decide ((e3 n).int=0) || !(decide ((e3 (n+1)).int=F.ae e3))))&&_)=true:=CP;rw[ah,ah]at CP;obtain⟨⟨hb3,vF⟩,_⟩:=CP;rw[o3 _ (by omega),b3]at hb3;have dy:=dy hb3;rw[o3 _ (by omega),o3 _ (by omega),n2,u2,hF e3 on,fU,aD,mG,DG]at vF;show L.ae e=F.ae e\/(F.ae e<L.ae e->(e3 (n+1)).int<F.ae e)/\(L.ae e<F.ae e->F.ae e<(e3 (n+1)).int);rw[o3 _ (by omega),u2];have vF:max (L.ae e-F.ae e) (F.ae e-L.ae e)=0\/¬ u=F.ae e:=vF;show L.ae e=F.ae e\/(F.ae e<L.ae e->u<F.ae e)/\(L.ae e<F.ae e->F.ae e<u);omega
theorem zD{e:aA}{t:Bool}{a b c d:Nat}{bk:Int}{k1 k2 n m:Nat}(hk:3000<=k1)(sK:k1<k2)(hn:k2<n)(mT:5600<=n)(hm:n+7<=m)(hta:a=if t then 1 else 0) :
   (NU t a b c d bk k1 k2 n m).par (fun g=>cm (TT Tryz.prog) X ((⟨207,t207,(rowOf 207).sub⟩:gb).key g)) (fun rs=>∃r,rs=[.l [r]]/\Dd t r) [] e (fun _ _=>True):=by
 have ab6:(⟨207,t207,(rowOf 207).sub⟩:gb).key 247=247:=by kernel_rfl
 have lst:∀ {x:Int} {rs:List DV},cm (TT Tryz.prog) X 247 [.i x] rs->rs=[.i ((x+127)/256)]:=fun {x rs} h=>cR (R:=fun rs=>rs=[DV.i ((x+127)/256)]) ag' (aP fun _=>eA rfl) h;unfold NU;refine ej fun r1 g1=>?_;rw[ab6]at g1;obtain rfl:=lst g1;obtain⟨e1,zw,o1,v1⟩:=EW e k1 [.i (((IE.v a).ae e+127)/256)];rw[<- zw];refine ej fun r2 g2=>?_;rw[ab6]at g2;obtain rfl:=lst g2;obtain⟨e2,Ji,o2,v2⟩:=EW e1 k2 [.i (((IE.v c).ae e1+127)/256)];rw[<- Ji];have w1:(e2 k1).int=((e a).int+127)/256:=by rw[o2 _ sK,show e1 k1=e1 (k1+0)from rfl,v1 0 (by simp)];rfl
 have au2:(if t then(e2 1).int else(e2 0).int)=(e a).int:=by
   rw[o2 1 (by omega),o2 0 (by omega),o1 1 (by omega),o1 0 (by omega),hta];cases t<;>rfl
 refine iV (fun h=>aP fun _=>aP fun _=>?_) (fun h=>?_);have h:(e2 k2).int<(e2 k1).int:=h;exact BD mT hm (k1:=(e2 k1).int) (k2:=(e2 k2).int) (fun e' o=>by show(e' k1).int-1=(e2 k1).int-1;rw[o _ (by omega)]) (fun e' o=>by show(e' k2).int-1=(e2 k2).int-1;rw[o _ (by omega)]) au2 w1 (.inl ⟨h,rfl,rfl⟩);have h:(e2 k1).int<=(e2 k2).int:=h;exact BD mT hm (k1:=(e2 k1).int) (k2:=(e2 k2).int) (fun e' o=>by show(e' k1).int=(e2 k1).int;rw[o _ (by omega)]) (fun e' o=>by show(e' k2).int=(e2 k2).int;rw[o _ (by omega)]) au2 w1 (.inr ⟨h,rfl,rfl⟩)
def mC(a0 a1 b0 b1:Int):Bool:=decide (max (b0-a0) (0-(b0-a0))<max (b1-a1) (0-(b1-a1)))
theorem ab7{a0 a1 b0 b1:Int}{rs:List DV}(hg:cm (TT Tryz.prog) X 207 [.i a0,.i a1,.i b0,.i b1] rs):∃r,rs=[.l [r]]/\Dd (mC a0 a1 b0 b1) r:=by
 refine cR (R:=fun rs=>∃r,rs=[DV.l [r]]/\Dd (mC a0 a1 b0 b1) r) ag9 ?_ hg;refine aP fun _=>aP fun _=>aP fun _=>aP fun _=>iB (fun h=>?_) (fun h=>?_);have h:mC a0 a1 b0 b1=true:=h;rw[h];exact zD (by omega) (by omega) (by omega) (by omega) (by omega) rfl;have h:mC a0 a1 b0 b1=false:=h;rw[h];exact iB (fun _=>zD (by omega) (by omega) (by omega) (by omega) (by omega) rfl) (fun _=>zD (by omega) (by omega) (by omega) (by omega) (by omega) rfl)
end
end
section
open Go.Sx Go.RowKit Go.Shelf Go
theorem ahf{k:Nat}{ds rs:List DV}(hk:TT Tryz.prog k=none)(h:Gf k ds rs):XF k ds=some rs:=by
 obtain⟨n,hn⟩:=h;cases n with
 |zero=>cases hn
 |succ n=>simp only[ev,hk]at hn;exact hn
theorem NV{r:List Int}(dy:fA r):eo r=if r.getD 7 0<r.getD 6 0 then -1 else 1:=by
 have hp:(kh 211).fQ [.l [r]]:=by rw[NW];exact⟨⟨jL dy,trivial⟩,fun p hp=>by cases hp⟩
 obtain⟨h,_⟩:=kN (k:=211) (by decide) hp;have:gv 211 [.l [r]]=[.i (if r.getD 7 0<r.getD 6 0 then -1 else 1)]:=by
   refine cR (R:=fun rs=>rs=[DV.i (if r.getD 7 0<r.getD 6 0 then -1 else 1)]) aha (aP fun _=>iV (fun h=>?_) (fun h=>?_)) h;have h:r.getD 7 0<r.getD 6 0:=h;exact eA (by rw[if_pos h];rfl);have h:r.getD 6 0<=r.getD 7 0:=h;exact eA (by rw[if_neg (by omega)];rfl)
 unfold eo;rw[this];rfl
theorem XD{r:List Int}(dy:fA r):iN r=max (r.getD 7 0-r.getD 6 0) (r.getD 6 0-r.getD 7 0):=by
 have hp:(kh 210).fQ [.l [r]]:=by rw[G1];exact⟨⟨jL dy,trivial⟩,fun p hp=>by cases hp⟩
 obtain⟨h,_⟩:=kN (k:=210) (by decide) hp;have:gv 210 [.l [r]]=[.i (max (r.getD 7 0-r.getD 6 0) (r.getD 6 0-r.getD 7 0))]:=
   cR (R:=fun rs=>rs=[DV.i (max (r.getD 7 0-r.getD 6 0) (r.getD 6 0-r.getD 7 0))]) ab4 (aP fun _=>aP fun _=>aP fun _=>eA rfl) h
 unfold iN;rw[this];rfl
theorem S6{a0 a1 b0 b1:Int}(h0: -268500000<=a0/\a0<=268500000)(h1: -268500000<=a1/\a1<=268500000)(h2: -268500000<=b0/\b0<=268500000)(h3: -268500000<=b1/\b1<=268500000)(ck:¬(a0=b0/\a1=b1)):Dd (mC a0 a1 b0 b1) (sM a0 a1 b0 b1):=by
 have hp:(kh 207).fQ [.i a0,.i a1,.i b0,.i b1]:=by
   rw[NY];refine⟨⟨h0,h1,h2,h3,trivial⟩,fun p hp=>?_⟩;obtain rfl:p=_:=lU.1 hp;have:(decide (a0=b0)&&decide (a1=b1))=false:=by
     rw[Vy,DG,DG];exact Classical.not_and_iff_not_or_not.1 ck
   show(!(decide (a0=b0)&&decide (a1=b1)))=true;rw[this];rfl
 obtain⟨h,_⟩:=kN (k:=207) (by decide) hp;obtain⟨r,hr,hP⟩:=ab7 h;unfold sM;rw[hr];exact hP
section
variable {r:List Int}(dy:fA r){x0 y0 x1 y1:Int}(h4: -64<=x0/\x0<=100)(h5: -64<=y0/\y0<=100)(h6: -64<=x1/\x1<=100)(h7: -64<=y1/\y1<=100)
theorem NZ{r:List Int}(dy:fA r): -1<=nR r/\nR r<=iN r:=by
 have:=uR dy;unfold nR;split;rw[cA (by omega) (by omega)];omega;omega
theorem UQ{r:List Int}(dy:fA r){lo hi:Int}(qf: -64<=lo/\lo<=100)(Fx: -64<=hi/\hi<=100):uO r lo hi<=(if r.getD 7 0<r.getD 6 0 then r.getD 6 0-lo else hi-1-r.getD 6 0)/\uO r lo hi<=nR r-1:=by
 have hq6: -1200000<=qq r 6/\qq r 6<=1200000:=dy.Rs.2.2.2.2.2.2.1;have h1:=NZ dy;have h2:=uR dy;unfold uO;rw[NV dy,cA (a:=nR r-1) (by omega) (by omega),cA (a:=qq r 6-lo) (by omega) (by omega),cA (a:=hi-1) (by omega) (by omega),cA (a:=hi-1-qq r 6) (by omega) (by omega)];show min (if _<0 then r.getD 6 0-lo else hi-1-r.getD 6 0) _<=_/\_;by_cases h:r.getD 7 0<r.getD 6 0;rw[if_pos h,if_pos h,if_pos (by omega)];omega;rw[if_neg h,if_neg h,if_neg (by omega)];omega
theorem UR{r:List Int}(dy:fA r){lo hi:Int}(qf: -64<=lo/\lo<=100)(Fx: -64<=hi/\hi<=100):(if r.getD 7 0<r.getD 6 0 then r.getD 6 0-hi+1 else lo-r.getD 6 0)<=qc r lo hi/\0<=qc r lo hi:=by
 have hq6: -1200000<=qq r 6/\qq r 6<=1200000:=dy.Rs.2.2.2.2.2.2.1;unfold qc;rw[NV dy,cA (a:=qq r 6-hi) (by omega) (by omega),cA (a:=qq r 6-hi+1) (by omega) (by omega),cA (a:=lo-qq r 6) (by omega) (by omega)];show _<=max (if _<0 then r.getD 6 0-hi+1 else lo-r.getD 6 0) 0/\_;by_cases h:r.getD 7 0<r.getD 6 0;rw[if_pos h,if_pos h,if_pos (by omega)];omega;rw[if_neg h,if_neg h,if_neg (by omega)];omega
theorem XE{r:List Int}(dy:fA r){x0:Int}{y0:Int}{x1:Int}{y1:Int}{ahead:Int}(qf: -64<=dN r x0 y0/\dN r x0 y0<=100)(Fx: -64<=dN r x1 y1/\dN r x1 y1<=100):((gH r x0 y0 x1 y1 ahead).length:Int)=0\/((gH r x0 y0 x1 y1 ahead).length:Int)<=uO r (dN r x0 y0) (dN r x1 y1)-qc r (dN r x0 y0) (dN r x1 y1)+1/\qc r (dN r x0 y0) (dN r x1 y1)<=uO r (dN r x0 y0) (dN r x1 y1):=by
 have h1:=NZ dy;have h2:=uR dy;have h3:=(UQ dy qf Fx).2;have h4:=(UR dy qf Fx).2;unfold gH;generalize uO r (dN r x0 y0) (dN r x1 y1)=en at *;generalize qc r (dN r x0 y0) (dN r x1 y1)=bg at *;by_cases Lq:en<bg;rw[if_pos Lq];exact .inl rfl;rw[if_neg Lq];refine .inr ⟨?_,by omega⟩;unfold jK;have h5:=pT (qb r 4) x0 y0 x1 y1 (wrap64 (ahead+bg)) (fz r (fO r bg) (gU bg en).toNat);have h6:(fz r (fO r bg) (gU bg en).toNat).length=(gU bg en).toNat:=by simp[fz]
 have h7:gU bg en=en-bg+1:=by
   unfold gU;rw[cA (a:=en-bg) (by omega) (by omega),cA (by omega) (by omega)]
 omega
theorem S7{r:List Int}(dy:fA r){x0:Int}{y0:Int}{x1:Int}{y1:Int}(h4: -64<=x0/\x0<=100)(h5: -64<=y0/\y0<=100)(h6: -64<=x1/\x1<=100)(h7: -64<=y1/\y1<=100){t:Bool}(Lr:qb r 4=t):(du r x0 y0 x1 y1).length=0\/(du r x0 y0 x1 y1).length=1/\r.getD 8 0≠0/\(if t then y0 else x0)<=r.getD 10 0/\r.getD 10 0<(if t then y1 else x1):=by
 have ab8: -1200000<=qq r 10/\qq r 10<=1200000:=dy.Rs.2.2.2.2.2.2.2.2.2.2.1;have ab9: -1200000<=qq r 11/\qq r 11<=1200000:=dy.Rs.2.2.2.2.2.2.2.2.2.2.2.1;unfold du;by_cases h8:qb r 8=true;rw[if_pos h8];by_cases hh:k5 x0 y0 x1 y1 (px (qb r 4) (qq r 10) (qq r 11)) (py (qb r 4) (qq r 10) (qq r 11))=true;rw[if_pos hh];obtain⟨S8,S9⟩:=EX (t:=qb r 4) (u:=qq r 10) (v:=qq r 11) ⟨by omega,by omega⟩ ⟨by omega,by omega⟩;obtain⟨⟨c1,c2⟩,c3,c4⟩:=N1 ⟨by omega,by omega⟩ ⟨by omega,by omega⟩ ⟨by omega,by omega⟩ ⟨by omega,by omega⟩ S8 S9 hh;rw[Lr]at c1 c2 c3 c4;refine .inr ⟨rfl,qt h8,?_⟩;cases t;exact⟨c1,c2⟩;exact⟨c3,c4⟩;rw[if_neg hh];exact .inl rfl;rw[if_neg h8];exact .inl rfl
theorem S'{r:List Int}(dy:fA r){x0:Int}{y0:Int}{x1:Int}{y1:Int}(h4: -64<=x0/\x0<=100)(h5: -64<=y0/\y0<=100)(h6: -64<=x1/\x1<=100)(h7: -64<=y1/\y1<=100){t:Bool}(hP:Dd t r):(((du r x0 y0 x1 y1)++gH r x0 y0 x1 y1 (if qb r 8 then 1 else 0)).length:Int)<=max 0 (if t then y1-y0 else x1-x0):=by
 obtain⟨p4,p8⟩:=hP;have Lr:qb r 4=t:=by unfold qb;rw[p4];cases t<;>rfl
 have qf:dN r x0 y0=if t then y0 else x0:=by unfold dN;rw[Lr]
 have Fx:dN r x1 y1=if t then y1 else x1:=by unfold dN;rw[Lr]
 have G2: -64<=dN r x0 y0/\dN r x0 y0<=100:=by rw[qf];split<;>omega
 have G3: -64<=dN r x1 y1/\dN r x1 y1<=100:=by rw[Fx];split<;>omega
 have ab':(if t=true then y1-y0 else x1-x0)=(if t then y1 else x1)-(if t then y0 else x0):=by cases t<;>rfl
 have hh:=S7 dy h4 h5 h6 h7 Lr;have hm:=XE dy (ahead:=if qb r 8 then 1 else 0) G2 G3;have hen:=UQ dy G2 G3;have hbg:=UR dy G2 G3;have hn:=NZ dy;rw[XD dy]at hn;rw[ab',dG];rw[<- qf,<- Fx]at hh ⊢;generalize dN r x0 y0=lo at *;generalize dN r x1 y1=hi at *;generalize uO r lo hi=en at *;generalize qc r lo hi=bg at *;generalize(du r x0 y0 x1 y1).length=a at *;generalize(gH r x0 y0 x1 y1 (if qb r 8 then 1 else 0)).length=b at *;generalize nR r=n at *;generalize r.getD 6 0=f at *;generalize r.getD 7 0=l at *;generalize r.getD 10 0=u at *;by_cases cF:l<f;rw[if_pos cF]at hen hbg;rcases hh with h0|⟨h0,h8,u0,u1⟩;rcases hm with m0|⟨m0,m1⟩<;>omega;have:=p8 h8;rcases hm with m0|⟨m0,m1⟩<;>omega;rw[if_neg cF]at hen hbg;rcases hh with h0|⟨h0,h8,u0,u1⟩;rcases hm with m0|⟨m0,m1⟩<;>omega;have:=p8 h8;rcases hm with m0|⟨m0,m1⟩<;>omega
end
theorem N2{a0 a1 b0 b1 x0 y0 x1 y1:Int}{rs:List DV}(hg:Gf 169 [.i a0,.i a1,.i b0,.i b1,.i x0,.i y0,.i x1,.i y1] rs):∃S,rs=[.l S]/\(S.length:Int)<=max 0 (if mC a0 a1 b0 b1 then y1-y0 else x1-x0):=by
 have h:vS [.i a0,.i a1,.i b0,.i b1,.i x0,.i y0,.i x1,.i y1]=some rs:=ahf NB hg;simp only[vS]at h;split at h;rename_i hc;injection h with h;subst h;simp only[ah,G4,G5]at hc;obtain⟨⟨⟨h0,h1⟩,h2,h3⟩,⟨h4,h5⟩,h6,h7⟩:=hc;refine⟨_,rfl,?_⟩;unfold gG;by_cases hq:a0=b0/\a1=b1\/kt x0 y0 x1 y1=false;rw[if_pos hq];show(0:Int)<=_;omega;rw[if_neg hq];have ck:¬(a0=b0/\a1=b1):=fun h=>hq (.inl h);exact S' (N3 h0 h1 h2 h3 ck) h4 h5 h6 h7 (S6 h0 h1 h2 h3 ck);cases h
end
section
open Go.Sx Go
def hgD:IE:=.max (.sub (.v 8) (.v 1)) (.sub (.c 0) (.sub (.v 8) (.v 1)))
def wgD:IE:=.max (.sub (.v 7) (.v 0)) (.sub (.c 0) (.sub (.v 7) (.v 0)))
def Ta:IE:=.mul (.sub (.v 14) (.c 1)) (.c 128)
def t164:ar:=
.ev (.aG (r6 (.sub (.v 7) (.v 0)))) (
.ev (.aG (r6 (.sub (.v 8) (.v 1)))) (
.ev (.aG (r6 (.sub (.c 0) (.sub (.v 7) (.v 0))))) (
.ev (.aG (r6 (.sub (.c 0) (.sub (.v 8) (.v 1))))) (
.ev (.aG (r6 (.sub (.v 14) (.c 1)))) (
.ev (.aG (r6 Ta)) (
.ite (.le hgD wgD) (
.ev (.aG (r6 (.sub (.v 1) Ta))) (
.ev (.aG (r6 (.sub (.v 8) Ta))) (
.ret [.i (.v 0),.i (.sub (.v 1) Ta),.i (.v 7),.i (.sub (.v 8) Ta),.b (.le hgD wgD)]))) (
.ev (.aG (r6 (.sub (.v 0) Ta))) (
.ev (.aG (r6 (.sub (.v 7) Ta))) (
.ret [.i (.sub (.v 0) Ta),.i (.v 1),.i (.sub (.v 7) Ta),.i (.v 8),.b (.le hgD wgD)])))))))))
theorem ahg:TT Tryz.prog 164=some ⟨164,t164,(rowOf 164).sub⟩:=by kernel_rfl
def t170:ar:=
.ite (.v 4) (
.ev (.aG (r6 (.sub (.v 6) (.v 9)))) (
.ev (.aG (r6 (.add (.sub (.v 6) (.v 9)) (.c 1)))) (
.ret [.i (.v 5),.i (.max (.add (.sub (.v 6) (.v 9)) (.c 1)) (.c (-4194304))),.i (.v 7),.i (.v 8)]))) (
.ev (.aG (r6 (.sub (.v 5) (.v 9)))) (
.ev (.aG (r6 (.add (.sub (.v 5) (.v 9)) (.c 1)))) (
.ret [.i (.max (.add (.sub (.v 5) (.v 9)) (.c 1)) (.c (-4194304))),.i (.v 6),.i (.v 7),.i (.v 8)])))
theorem ahh:TT Tryz.prog 170=some ⟨170,t170,(rowOf 170).sub⟩:=by kernel_rfl
def BF(S q:Nat):ar:=
.ite (.v 33) (
.ev (.aG (r6 (.add (.v (S+13)) (.c 1)))) (
.ev (.aG (r6 (.add (.v (S+11)) (.c 1)))) (
.again 113018 [.i (.add (.v (S+11)) (.c 1)),.i (.v (S+12)),.i (.add (.v (S+13)) (.c 1)),.l q]))) (
.ev (.aG (r6 (.add (.v (S+12)) (.c 1)))) (
.ev (.aG (r6 (.add (.v (S+11)) (.c 1)))) (
.again 113018 [.i (.add (.v (S+11)) (.c 1)),.i (.add (.v (S+12)) (.c 1)),.i (.v (S+13)),.l q])))
def De(S:Nat)(rt:ar):ar:=
.loop 113012 [.i (.c 0),.nil] [.c i6,.s 74 k8] (S+1) (
.ite (.lt (.v (S+1)) (.len S)) (
.ev (.aG (.le (.c 0) (.v (S+1)))) (
.ev (.call 171 (.v 15) [.i (.v 16),.i (.v 17),.i (.v 18),.i (.get S (.v (S+1)) 0)] [oB] (S+4)) (
.ite (.and (.v 15) (.not (.v (S+4)))) (
.ev (.aG (r6 (.add (.v (S+1)) (.c 1)))) (
.again 113012 [.i (.add (.v (S+1)) (.c 1)),.l (S+2)])) (
.ev (.call 172 (.c true) [.i (.v 0),.i (.v 1),.i (.v 2),.i (.v 3),.i (.v 4),.i (.v 5),.i (.v 6),.i (.v 7),.i (.v 8),.i (.v 9),.i (.v 10),.i (.v 11),.i (.v 12),.i (.v 13),.i (.get S (.v (S+1)) 1),.i (.get S (.v (S+1)) 2)] [oI,.agg [.c i6,.c i6,.c i6,.c i6]] (S+6)) (
.loop 113018 [.i (.c 0),.i (.get S (.v (S+1)) 1),.i (.get S (.v (S+1)) 2),.l (S+2)] [.c i6,.c i6,.c i6,.s 74 k8] (S+11) (
.ite (.lt (.v (S+11)) (.v 14)) (
.ev (.call 168 (.c true) (iv 19 4++[.i (.v (S+12)),.i (.v (S+13))]) [oB] (S+16)) (
.ite (.v (S+16)) (
.ev (.cu (S+17) (.lit [[.inl (.v (S+12)),.inl (.v (S+13)),.inl (.v (S+6)),.inl (.v (S+7)),.inl (.v (S+8)),.inl (.v (S+9)),.inl (.v (S+10)),.inl (.c 64)]])) (
.ev (.aG (.le (.add (.len (S+14)) (.len (S+17))) (.c 2199023255552))) (
.ev (.cu (S+18) (.app (S+14) (S+17))) (BF S (S+18))))) (BF S (S+14)))) (
.ev (.aG (r6 (.add (.v (S+1)) (.c 1)))) (
.again 113012 [.i (.add (.v (S+1)) (.c 1)),.l (S+14)])))))))) rt)
def t113:ar:=
.ev (.call 149 (.c true) (iv 0 15++[.i (.v 16),.i (.v 17),.i (.v 18)]) [oB] 28) (
.ite (.not (.v 28)) (
.ret [.nil,.i (.v 16),.i (.v 17),.i (.v 18)]) (
.ev (.call 164 (.c true) (iv 0 15) [.agg [.c i6,.c i6,.c i6,.c i6,.c (.b)]] 29) (
.ite (.v 15) (
.ev (.call 166 (.c true) (iv 29 4) [oI] 2596) (
.ev (.call 165 (.c true) [.i (.v 16),.i (.v 17),.i (.v 18),.i (.v 2596)] [.agg [.c i6,.c i6,.c i6]] 3108) (
.ev (.call 65 (.c true) (iv 19 4) [oB] 3111) (
.ite (.not (.v 3111)) (
.ret [.nil,.i (.v 3108),.i (.v 3109),.i (.v 3110)]) (
.ev (.call 170 (.c true) (iv 29 4++[.b (.v 33)]++iv 19 4++[.i (.v 14)]) [.agg [.c i6,.c i6,.c i6,.c i6]] 6697) (
.ev (.call 169 (.c true) (iv 29 4++iv 6697 4) [.one (.s 276 [i6,i6,i6])] 7209) (
 De 7209 (.ret [.l 7211,.i (.v 3108),.i (.v 3109),.i (.v 3110)])))))))) (
.ev (.call 65 (.c true) (iv 19 4) [oB] 36) (
.ite (.not (.v 36)) (
.ret [.nil,.i (.v 16),.i (.v 17),.i (.v 18)]) (
.ev (.call 170 (.c true) (iv 29 4++[.b (.v 33)]++iv 19 4++[.i (.v 14)]) [.agg [.c i6,.c i6,.c i6,.c i6]] 3622) (
.ev (.call 169 (.c true) (iv 29 4++iv 3622 4) [.one (.s 276 [i6,i6,i6])] 4134) (
 De 4134 (.ret [.l 4136,.i (.v 16),.i (.v 17),.i (.v 18)])))))))))
theorem ahi:TT Tryz.prog 113=some ⟨113,t113,(rowOf 113).sub⟩:=by kernel_rfl
theorem KD{E:Nat->List DV->List DV->Prop}{R:List DV->Prop}{S:Nat}{rt:ar}{e:aA}{rows:List (List Int)}(hS:40<=S)(hr:(e S).list=rows)(hw:0<=(e 14).int)
   (h:∀(e':aA) (out:List (List Int)),(∀k,k<S->e' k=e k)->e' (S+2) = .l out->(out.length:Int)<=rows.length*(e 14).int->rt.par E R [] e' (oN (fun _ _=>True) 113012 (fun vs=>∃(i:Int) (out:List (List Int)),vs=[.i i,.l out]/\0<=i/\i<=rows.length/\(out.length:Int)<=i*(e 14).int))) :
   (De S rt).par E R [] e (fun _ _=>True):=by
 unfold De;refine rF (fun vs=>∃(i:Int) (out:List (List Int)),vs=[.i i,.l out]/\0<=i/\i<=rows.length/\(out.length:Int)<=i*(e 14).int) ⟨0,[],rfl,Int.le_refl _,by omega,by simp⟩ ?_;rintro _ ⟨i,out,rfl,hi,Rp,ho⟩;obtain⟨e1,zw,o1,v1⟩:=EW e (S+1) [.i i,.l out];have Z0:e1 (S+1) = .i i:=v1 0 (by simp);have v1b:e1 (S+2) = .l out:=v1 1 (by simp);have r1:(e1 S).list=rows:=by rw[o1 _ (by omega),hr]
 rw[<- zw];refine iV (fun cF=>aP fun _=>?_) (fun z8=>?_);have cF:(e1 (S+1)).int<((e1 S).list.length:Int):=cF;rw[Z0,r1]at cF;have cF:i<(rows.length:Int):=cF;have body:∀e2:aA,(∀k,k<S+4->e2 k=e1 k)->(ar.ite (.and (.v 15) (.not (.v (S+4)))) (
     .ev (.aG (r6 (.add (.v (S+1)) (.c 1)))) (.again 113012 [.i (.add (.v (S+1)) (.c 1)),.l (S+2)])) (
     .ev (.call 172 (.c true) [.i (.v 0),.i (.v 1),.i (.v 2),.i (.v 3),.i (.v 4),.i (.v 5),.i (.v 6),.i (.v 7),.i (.v 8),.i (.v 9),.i (.v 10),.i (.v 11),.i (.v 12),.i (.v 13),.i (.get S (.v (S+1)) 1),.i (.get S (.v (S+1)) 2)] [oI,.agg [.c i6,.c i6,.c i6,.c i6]] (S+6)) (
     .loop 113018 [.i (.c 0),.i (.get S (.v (S+1)) 1),.i (.get S (.v (S+1)) 2),.l (S+2)] [.c i6,.c i6,.c i6,.s 74 k8] (S+11) (
     .ite (.lt (.v (S+11)) (.v 14)) (
     .ev (.call 168 (.c true) (iv 19 4++[.i (.v (S+12)),.i (.v (S+13))]) [oB] (S+16)) (
     .ite (.v (S+16)) (
     .ev (.cu (S+17) (.lit [[.inl (.v (S+12)),.inl (.v (S+13)),.inl (.v (S+6)),.inl (.v (S+7)),.inl (.v (S+8)),.inl (.v (S+9)),.inl (.v (S+10)),.inl (.c 64)]])) (
     .ev (.aG (.le (.add (.len (S+14)) (.len (S+17))) (.c 2199023255552))) (
     .ev (.cu (S+18) (.app (S+14) (S+17))) (BF S (S+18))))) (BF S (S+14)))) (
     .ev (.aG (r6 (.add (.v (S+1)) (.c 1)))) (
     .again 113012 [.i (.add (.v (S+1)) (.c 1)),.l (S+14)])))))).par E R [] e2 (oN (fun _ _=>True) 113012 (fun vs=>∃(i:Int) (out:List (List Int)),vs=[.i i,.l out]/\0<=i/\i<=rows.length/\(out.length:Int)<=i*(e 14).int)):=fun e2 o2=>by
   have Z2:e2 (S+1) = .i i:=by rw[o2 _ (by omega),Z0]
   have XA:e2 (S+2) = .l out:=by rw[o2 _ (by omega),v1b]
   refine iB (fun _=>aP fun _=>nc ⟨i+1,out,?_,by omega,by omega,?_⟩) (fun _=>ej fun rs _=>?_);show [DV.i ((e2 (S+1)).int+1),DV.l (e2 (S+2)).list]=_;rw[Z2,XA];rfl;rw[Int.add_mul];omega;obtain⟨e3,KA⟩:∃e3,e3=e2.ay (S+6) rs:=⟨_,rfl⟩;have o3:∀k,k<S+6->e3 k=e2 k:=fun k hk=>by rw[KA,aA.bn hk]
   rw[<- KA];have UB:∀e':aA,(∀k,k<S+6->e' k=e3 k)->(e' 14).int=(e 14).int:=fun e' o=>by rw[o _ (by omega),o3 _ (by omega),o2 _ (by omega),o1 _ (by omega)]
   refine rF (fun vs=>∃(j x y:Int) (rI:List (List Int)),vs=[.i j,.i x,.i y,.l rI]/\j<=(e 14).int/\(rI.length:Int)<=i*(e 14).int+j) ⟨0,(IE.get S (.v (S+1)) 1).ae e3,(IE.get S (.v (S+1)) 2).ae e3,out,?_,hw,by omega⟩ ?_;show [DV.i 0,DV.i _,DV.i _,DV.l (e3 (S+2)).list]=_;rw[o3 _ (by omega),XA];rfl;rintro _ ⟨j,x,y,rI,rfl,hj,Z1⟩;obtain⟨e4,KC,o4,v4⟩:=EW e3 (S+11) [.i j,.i x,.i y,.l rI];have v4a:e4 (S+11) = .i j:=v4 0 (by simp);have v4d:e4 (S+14) = .l rI:=v4 3 (by simp);have w4:(e4 14).int=(e 14).int:=UB _ fun k hk=>o4 _ (by omega);rw[<- KC];refine iV (fun hlj=>ej fun r5 _=>?_) (fun hgj=>aP fun _=>zA rfl ⟨i+1,rI,?_,by omega,by omega,?_⟩);have hlj:(e4 (S+11)).int<(e4 14).int:=hlj;rw[v4a,w4]at hlj;have hlj:j<(e 14).int:=hlj;obtain⟨e5,Rr⟩:∃e5,e5=e4.ay (S+16) r5:=⟨_,rfl⟩;have o5:∀k,k<S+16->e5 k=e4 k:=fun k hk=>by rw[Rr,aA.bn hk]
   rw[<- Rr];have more:∀(e6:aA) (q:Nat) (N4:List (List Int)),(∀k,k<S+14->e6 k=e4 k)->e6 q = .l N4->(N4.length:Int)<=i*(e 14).int+j+1->(BF S q).par E R [] e6 (oN (oN (fun _ _=>True) 113012 (fun vs=>∃(i:Int) (out:List (List Int)),vs=[.i i,.l out]/\0<=i/\i<=rows.length/\(out.length:Int)<=i*(e 14).int)) 113018 (fun vs=>∃(j x y:Int) (rI:List (List Int)),vs=[.i j,.i x,.i y,.l rI]/\j<=(e 14).int/\(rI.length:Int)<=i*(e 14).int+j)):=fun e6 q N4 o6 hq h3=>by
     have v6:e6 (S+11) = .i j:=by rw[o6 _ (by omega),v4a]
     unfold BF;refine iB (fun _=>aP fun _=>aP fun _=>nc ⟨j+1,(e6 (S+12)).int,(e6 (S+13)).int+1,N4,?_,by omega,by omega⟩) (fun _=>aP fun _=>aP fun _=>nc ⟨j+1,(e6 (S+12)).int+1,(e6 (S+13)).int,N4,?_,by omega,by omega⟩);show [DV.i ((e6 (S+11)).int+1),DV.i _,DV.i _,DV.l (e6 q).list]=_;rw[v6,hq];rfl;show [DV.i ((e6 (S+11)).int+1),DV.i _,DV.i _,DV.l (e6 q).list]=_;rw[v6,hq];rfl
   refine iB (fun _=>ET (aP fun _=>ET (more _ _ (rI++(cT.lit [[.inl (.v (S+12)),.inl (.v (S+13)),.inl (.v (S+6)),.inl (.v (S+7)),.inl (.v (S+8)),.inl (.v (S+9)),.inl (.v (S+10)),.inl (.c 64)]]).ae e5) (fun k hk=>?_) ?_ ?_))) (fun _=>more _ _ rI (fun k hk=>o5 _ (by omega)) (by rw[o5 _ (by omega),v4d]) (by omega));simp only[aA.set];rw[if_neg (by omega),if_neg (by omega),o5 _ (by omega)];simp only[aA.set,if_pos,cT.ae];rw[if_neg (by omega),o5 _ (by omega),v4d];rfl;rw[dG];simp only[cT.ae,jt,mJ,tY,List.length_nil];omega;show [DV.i ((e4 (S+1)).int+1),DV.l (e4 (S+14)).list]=_;rw[v4d,o4 _ (by omega),o3 _ (by omega),Z2];rfl;have hgj:(e4 14).int<=(e4 (S+11)).int:=hgj;rw[v4a,w4]at hgj;have hgj:(e 14).int<=j:=hgj;rw[Int.add_mul];omega
 exact xH (fun _ r2 _=>body _ fun k hk=>aA.bn hk) (fun _=>body _ fun k hk=>aA.bn hk);have z8:((e1 S).list.length:Int)<=(e1 (S+1)).int:=z8;rw[Z0,r1]at z8;have z8:(rows.length:Int)<=i:=z8;refine h e1 out (fun k hk=>o1 _ (by omega)) v1b ?_;rwa[show i=(rows.length:Int)by omega]at ho
theorem XG{a b c d w:Int}{z:List DV}{y:List DV}(hz:z.length=5)(hy:y.length=5){rs:List DV}(hg:Gf 164 ([.i a,.i b]++z++[.i c,.i d]++y++[.i w]) rs):∃p q r s t,rs=[.i p,.i q,.i r,.i s,.b t]/\t = !(mC p q r s):=by
 match z,hz,y,hy with
 | [z0,z1,z2,z3,z4],_,[y0,y1,y2,y3,y4],_=>
   refine cR (R:=fun rs=>∃p q r s t,rs=[DV.i p,.i q,.i r,.i s,.b t]/\t = !(mC p q r s)) ahg ?_ hg;refine aP fun _=>aP fun _=>aP fun _=>aP fun _=>aP fun _=>aP fun _=>iB (fun _=>aP fun _=>aP fun _=>eA ⟨a,b-(w-1)*128,c,d-(w-1)*128,_,rfl,?_⟩) (fun _=>aP fun _=>aP fun _=>eA ⟨a-(w-1)*128,b,c-(w-1)*128,d,_,rfl,?_⟩);show decide (max (d-b) (0-(d-b))<=max (c-a) (0-(c-a)))=_;unfold mC;rw[<- decide_not];exact decide_eq_decide.2 (by omega);show decide (max (d-b) (0-(d-b))<=max (c-a) (0-(c-a)))=_;unfold mC;rw[<- decide_not];exact decide_eq_decide.2 (by omega)
theorem Tb{c0 c1 c2 c3:DV}{t:Bool}{x0 y0 x1 y1 w:Int}{rs:List DV}(hg:Gf 170 [c0,c1,c2,c3,.b t,.i x0,.i y0,.i x1,.i y1,.i w] rs):∃p q r s,rs=[.i p,.i q,.i r,.i s]/\if t then r-p=x1-x0 else s-q=y1-y0:=by
 refine cR (R:=fun rs=>∃p q r s,rs=[DV.i p,.i q,.i r,.i s]/\if t then r-p=x1-x0 else s-q=y1-y0) ahh ?_ hg;refine iB (fun h=>aP fun _=>aP fun _=>eA ⟨_,_,_,_,rfl,?_⟩) (fun h=>aP fun _=>aP fun _=>eA ⟨_,_,_,_,rfl,?_⟩);have h:t=true:=h;rw[h];rfl;have h:t=false:=h;rw[h];rfl
theorem plL:([113,164,170].all fun k=>oE (rowOf k).sub)=true:=by kernel_rfl
theorem Xz{z y:List DV}{a b c d w m p q:Int}(hz:z.length=5)(hy:y.length=5)(hw:0<=w){rs:List DV}(hg:Gf 113 ([.i a,.i b]++z++[.i c,.i d]++y++[.i w,.b false,.i m,.i p,.i q,.i 0,.i 0,.i 9,.i 8]) rs):∃fr,rs=[.l fr,.i m,.i p,.i q]/\(fr.length:Int)<=9*w:=by
 have pl:oE (rowOf 113).sub=true:=k7.1 plL 113 (by simp)
 match z,hz,y,hy with
 | [z0,z1,z2,z3,z4],_,[y0,y1,y2,y3,y4],_=>
   refine cR (R:=fun rs=>∃fr,rs=[DV.l fr,.i m,.i p,.i q]/\(fr.length:Int)<=9*w) ahi ?_ hg;have h0:∃fr,[DV.l [],DV.i m,.i p,.i q]=[DV.l fr,.i m,.i p,.i q]/\((fr:List (List Int)).length:Int)<=9*w:=⟨[],rfl,by show(0:Int)<=_;omega⟩;obtain⟨e,he⟩:∃e,e=bB.ay 0 ([DV.i a,DV.i b]++[z0,z1,z2,z3,z4]++[DV.i c,DV.i d]++[y0,y1,y2,y3,y4]++[DV.i w,DV.b false,DV.i m,DV.i p,DV.i q,DV.i 0,DV.i 0,DV.i 9,DV.i 8]):=⟨_,rfl⟩;have wv:∀j,j<23->e j=([DV.i a,DV.i b]++[z0,z1,z2,z3,z4]++[DV.i c,DV.i d]++[y0,y1,y2,y3,y4]++[DV.i w,DV.b false,DV.i m,DV.i p,DV.i q,DV.i 0,DV.i 0,DV.i 9,DV.i 8]).getD j (.i 0):=fun j hj=>by rw[he];exact Dc hj
   rw[<- he];refine ej fun r1 _=>?_;obtain⟨e1,zw⟩:∃e1,e1=e.ay 28 r1:=⟨_,rfl⟩;have o1:∀k,k<28->e1 k=e k:=fun k hk=>by rw[zw,aA.bn hk]
   rw[<- zw];have aca:∀e':aA,(∀k,k<23->e' k=e k)->∃fr,[DE.nil,.i (.v 16),.i (.v 17),.i (.v 18)].map (DE.ae e')=[DV.l fr,.i m,.i p,.i q]/\((fr:List (List Int)).length:Int)<=9*w:=fun e' o=>by
     refine⟨[],?_,by show(0:Int)<=_;omega⟩;show [DV.l [],DV.i (e' 16).int,DV.i (e' 17).int,DV.i (e' 18).int]=_;rw[o 16 (by omega),o 17 (by omega),o 18 (by omega),wv 16 (by omega),wv 17 (by omega),wv 18 (by omega)];rfl
   refine iB (fun _=>eA (aca _ fun k hk=>o1 k (by omega))) (fun _=>ej fun r2 g2=>?_);have g2:=rJ zC pl g2;have a2:∃z' y':List DV,z'.length=5/\y'.length=5/\(iv 0 15).map (DE.ae e1)=[.i a,.i b]++z'++[.i c,.i d]++y'++[.i w]:=by
     refine⟨[.i (e1 2).int,.i (e1 3).int,.i (e1 4).int,.i (e1 5).int,.i (e1 6).int],[.i (e1 9).int,.i (e1 10).int,.i (e1 11).int,.i (e1 12).int,.i (e1 13).int],rfl,rfl,?_⟩;show [DV.i (e1 0).int,DV.i (e1 1).int,.i (e1 2).int,.i (e1 3).int,.i (e1 4).int,.i (e1 5).int,.i (e1 6).int,.i (e1 7).int,.i (e1 8).int,.i (e1 9).int,.i (e1 10).int,.i (e1 11).int,.i (e1 12).int,.i (e1 13).int,.i (e1 14).int]=_;rw[o1 0 (by omega),o1 1 (by omega),o1 7 (by omega),o1 8 (by omega),o1 14 (by omega),wv 0 (by omega),wv 1 (by omega),wv 7 (by omega),wv 8 (by omega),wv 14 (by omega)];rfl
   obtain⟨z',y',HI,Ld,ea⟩:=a2;rw[ea]at g2;obtain⟨p0,q0,r0,s0,t,rfl,ht⟩:=XG HI Ld g2;obtain⟨e2,Ji,o2,v2⟩:=EW e1 29 [.i p0,.i q0,.i r0,.i s0,.b t];rw[<- Ji];refine ahj (by show(e2 15).bool=false;rw[o2 _ (by omega),o1 _ (by omega),wv 15 (by omega)];rfl) (ej fun r3 _=>?_);obtain⟨e3,KA⟩:∃e3,e3=e2.ay 36 r3:=⟨_,rfl⟩;have o3:∀k,k<36->e3 k=e2 k:=fun k hk=>by rw[KA,aA.bn hk]
   rw[<- KA];have oe:∀k,k<28->e3 k=e k:=fun k hk=>by rw[o3 _ (by omega),o2 _ (by omega),o1 _ hk]
   have x29:∀j,j<5->e3 (29+j)=[DV.i p0,.i q0,.i r0,.i s0,.b t].getD j (.i 0):=fun j hj=>by rw[o3 _ (by omega)];exact v2 j (by simpa using hj)
   refine iB (fun _=>eA (aca _ fun k hk=>oe k (by omega))) (fun _=>ej fun r4 g4=>?_);have g4:=rJ zC pl g4;have b4:∀e':aA,(∀k,k<36->e' k=e3 k)->(iv 29 4).map (DE.ae e')=[.i p0,.i q0,.i r0,.i s0]:=fun e' o=>by
     show [DV.i (e' (29+0)).int,DV.i (e' (29+1)).int,DV.i (e' (29+2)).int,DV.i (e' (29+3)).int]=_;rw[o _ (by omega),o _ (by omega),o _ (by omega),o _ (by omega),x29 0 (by omega),x29 1 (by omega),x29 2 (by omega),x29 3 (by omega)];rfl
   have a4:(iv 29 4++[DE.b (.v 33)]++iv 19 4++[DE.i (.v 14)]).map (DE.ae e3)=[.i p0,.i q0,.i r0,.i s0,.b t,.i 0,.i 0,.i 9,.i 8,.i w]:=by
     rw[od,od,od,b4 e3 fun _ _=>rfl];show [DV.i p0,.i q0,.i r0,.i s0]++[DV.b (e3 (29+4)).bool]++[DV.i (e3 19).int,DV.i (e3 20).int,DV.i (e3 21).int,DV.i (e3 22).int]++[DV.i (e3 14).int]=_;rw[x29 4 (by omega),oe 19 (by omega),oe 20 (by omega),oe 21 (by omega),oe 22 (by omega),oe 14 (by omega),wv 19 (by omega),wv 20 (by omega),wv 21 (by omega),wv 22 (by omega),wv 14 (by omega)];rfl
   rw[a4]at g4;obtain⟨x0,yy0,x1,yy1,rfl,XH⟩:=Tb g4;obtain⟨e4,KC,o4,v4⟩:=EW e3 3622 [.i x0,.i yy0,.i x1,.i yy1];rw[<- KC];refine ej fun r5 g5=>?_;have g5:=rJ zC pl g5;have a5:(iv 29 4++iv 3622 4).map (DE.ae e4)=[.i p0,.i q0,.i r0,.i s0,.i x0,.i yy0,.i x1,.i yy1]:=by
     rw[od,b4 e4 fun k hk=>o4 _ (by omega)];show [DV.i p0,.i q0,.i r0,.i s0]++[DV.i (e4 (3622+0)).int,DV.i (e4 (3622+1)).int,DV.i (e4 (3622+2)).int,DV.i (e4 (3622+3)).int]=_;rw[v4 0 (by simp),v4 1 (by simp),v4 2 (by simp),v4 3 (by simp)];rfl
   rw[a5]at g5;obtain⟨S,rfl,hS⟩:=N2 g5;have hS9:(S.length:Int)<=9:=by
     subst ht;revert XH hS;cases mC p0 q0 r0 s0;intro h2 h1;have h1:x1-x0=9-0:=h1;have h2:(S.length:Int)<=max 0 (x1-x0):=h2;omega;intro h2 h1;have h1:yy1-yy0=8-0:=h1;have h2:(S.length:Int)<=max 0 (yy1-yy0):=h2;omega
   obtain⟨e5,Rr,o5,v5⟩:=EW e4 4134 [.l S];have UB:(e5 14).int=w:=by rw[o5 _ (by omega),o4 _ (by omega),oe 14 (by omega),wv 14 (by omega)];rfl
   rw[<- Rr];refine KD (rows:=S) (by omega) (by rw[show e5 4134=e5 (4134+0)from rfl,v5 0 (by simp)];rfl) (by rw[UB];exact hw) (fun e' out oo h2 hl=>eA ⟨out,?_,?_⟩);have oq:∀k,k<23->e' k=e k:=fun k hk=>by rw[oo _ (by omega),o5 _ (by omega),o4 _ (by omega),oe _ (by omega)]
   show [DV.l (e' (4134+2)).list,DV.i (e' 16).int,DV.i (e' 17).int,DV.i (e' 18).int]=_;rw[h2,oq 16 (by omega),oq 17 (by omega),oq 18 (by omega),wv 16 (by omega),wv 17 (by omega),wv 18 (by omega)];rfl;rw[UB]at hl;exact Int.le_trans hl (tk hS9 hw)
end
end Go.Proofs.YtohebioanhliiaaGreatDoor.aw

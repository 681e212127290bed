/- rastrumtop.end, drawn again, changes nothing: WholeAgain's function gives true. -/
import Derived.Test.YtohebioanhliiaaGreatDoorKB1
import Derived.Test.YtohebioanhliiaaGreatDoorKZ1
import Derived.Test.YtohebioanhliiaaGreatDoorKC2
import Derived.Test.YtohebioanhliiaaGreatDoorKA4
import Derived.Test.YtohebioanhliiaaGreatDoorChecked
import Derived.KernelRfl
set_option maxRecDepth 100000
set_option linter.unusedVariables false
set_option linter.unusedSimpArgs false
namespace Go.Proofs.YtohebioanhliiaaGreatDoor.aD
open Go.Sx
theorem c19:one Tryz.prog 177 19=true:=by kernel_rfl
end Go.Proofs.YtohebioanhliiaaGreatDoor.aD
namespace Go.Proofs.YtohebioanhliiaaGreatDoor.aD
open Go.Sx Go
variable {X:bA}
def ak'(s:List (FuncId×Nat)):Bool:=s.all fun p=>Nat.beq p.2 999999
theorem ami{k:Nat}{t:aw}{s:List (FuncId×Nat)}(h:ak' s=true)(g:FuncId):(⟨k,t,s⟩:gR).key g=g\/(⟨k,t,s⟩:gR).key g=999999:=by
 show(match s.find? (fun p=>p.1==g)with
   |some p=>p.2
   |none=>g)=g\/(match s.find? (fun p=>p.1==g)with
   |some p=>p.2
   |none=>g)=999999
 cases hf:s.find? (fun p=>p.1==g)with
 |none=>exact .inl rfl
 |some p=>exact .inr (Nat.eq_of_beq_eq_true (List.all_eq_true.1 h p (List.mem_of_find?_eq_some hf)))
theorem alh(hX:oq X){k:Nat}{t:aw}{s:List (FuncId×Nat)}(h:ak' s=true){g:FuncId}{ds rs:List DV}(hg:bK (TT Tryz.prog) X ((⟨k,t,s⟩:gR).key g) ds rs):bK (TT Tryz.prog) X g ds rs:=by
 rcases ami (k:=k) (t:=t) h g with e|e
 . rwa[e]at hg
 . rw[e]at hg;exact(D9 hX.no hg).elim
theorem alm{a b:Nat}(h:a≠b):Nat.beq a b=false:=by
 cases e:Nat.beq a b with
 |false=>rfl
 |true=>exact absurd (Nat.eq_of_beq_eq_true e) h
theorem alY:(kc 18).args=pA:=by kernel_rfl
theorem aly:(kc 18).pre=qX 0:=by kernel_rfl
theorem alu{st:List DV}(h:eZ st):(kc 18).fS st:=by
 refine⟨by rw[alY];exact h.has,?_⟩
 have hl:=h.len;have ea:∀j,j<94->aM.ar 0 st j=st.getD j (.i 0):=fun j hj=>jC (by omega)
 rw[aly];intro p hp;simp only[qX,bq,List.not_mem_nil,or_false,Nat.zero_add]at hp;rcases hp with rfl|rfl|rfl
 . simp only[BE.ae,IE.ae,ea 3 (by omega),ea 1 (by omega),ea 2 (by omega),aC];exact h.c3
 . simp only[BE.ae,IE.ae,ea 4 (by omega),ea 1 (by omega),ea 2 (by omega),aC];exact h.c4
 . simp only[BE.ae,IE.ae,ea 60 (by omega),ea 61 (by omega),aC]
   have:=h.c60;unfold sD at this;omega
theorem amF(hX:oq X){k:Nat}{t:aw}{ds rs:List DV}{R:List DV->Prop}(hk:TT Tryz.prog k=some ⟨k,t,(rowOf k).sub⟩)(hs:ak' (rowOf k).sub=true)
   (h:t.par (fun g=>bK (TT Tryz.prog) X ((⟨k,t,(rowOf k).sub⟩:gR).key g)) R [] (aM.ar 0 ds) (fun _ _=>True)) (hg:bK (TT Tryz.prog) X k ds rs):R rs:=A1 hk h hg
section
variable {E:Nat->List DV->List DV->Prop}{R:List DV->Prop}{Ps:List (Int->Prop)}{U:az}{F:Nat->List DV->Prop}{t t':aw}
theorem akW{p:BE}(ht:p.ae U=true->t.par E R Ps U F):(aw.ev (.aG p) t).par E R Ps U F:=ht
theorem ak3{id:Nat}{op:cZ}(ht:t.par E R Ps (U.set id (.l (op.ae U))) F):(aw.ev (.ch id op) t).par E R Ps U F:=ht
theorem akY{id:Nat}{entry:List DE}{ks:List CT}{base:Nat}{body:aw}(inv:List DV->Prop)(h0:inv (entry.map (DE.ae U)))
   (hb:∀ds,inv ds->body.par E R Ps (U.ar base ds) (ox F id inv)):(aw.loop id entry ks base body).par E R Ps U F:=⟨inv,h0,hb⟩
theorem akT{id:Nat}{bJ:List DE}{G:List DV->Prop}(h:G (bJ.map (DE.ae U))):(aw.again id bJ).par E R Ps U (ox F id G):=by
 simpa[aw.par,ox]using h
theorem akZ{e:IE}{p:Int->Prop}(h:p (e.ae U)):(aw.fail e).par E R (p::Ps) U F:=h
theorem akU{x:Nat}(h:t'.par E R ((fun n=>t.par E R Ps (U.set x (.i n)) F)::Ps) U F):(aw.ak5 x t t').par E R Ps U F:=h
theorem ak4{p:Int->Prop}(h:t.par E R Ps U F):(aw.pop t).par E R (p::Ps) U F:=h
theorem ak0{id:Nat}{op:cZ}(ht:t.fW E R Ps (U.set id (.l (op.ae U))) F):(aw.ev (.ch id op) t).fW E R Ps U F:=ht
theorem akQ{f:FuncId}{g:BE}{args:List DE}{res:List VT}{base:Nat}{pre:List DV->Prop}{rel:List DV->List DV->Prop}(hc:∀ds,pre ds->∃rs,E f ds rs/\rel ds rs)(hg:g.ae U=true)(hp:pre (args.map (DE.ae U)))
   (ht:∀rs,E f (args.map (DE.ae U)) rs->rel (args.map (DE.ae U)) rs->t.fW E R Ps (U.ar base rs) F):(aw.ev (.call f g args res base) t).fW E R Ps U F:=
 Rf hc (fun _=>hp) (fun _=>ht) (fun h=>by rw[hg]at h;cases h)
theorem al0{a b:IE}(h1:a.ae U<b.ae U->t.par E R Ps U F)(h2:b.ae U<=a.ae U->t'.par E R Ps U F):(aw.ite (.lt a b) t t').par E R Ps U F:=
 Mw (fun h=>h1 (of_decide_eq_true h)) (fun h=>h2 (Int.not_lt.1 (of_decide_eq_false h)))
theorem amr{a b:IE}(h1:a.ae U=b.ae U->t.par E R Ps U F)(h2:a.ae U≠b.ae U->t'.par E R Ps U F):(aw.ite (.eq a b) t t').par E R Ps U F:=
 Mw (fun h=>h1 (of_decide_eq_true h)) (fun h=>h2 (of_decide_eq_false h))
theorem alO{c:BE}(h1:c.ae U=false->t.par E R Ps U F)(h2:c.ae U=true->t'.par E R Ps U F):(aw.ite (.not c) t t').par E R Ps U F:=
 Mw (fun h=>h1 (by simpa[BE.ae]using h)) (fun h=>h2 (by simpa[BE.ae]using h))
theorem alH{c:BE}(hc:c.ae U=true)(h:t.par E R Ps U F):(aw.ite c t t').par E R Ps U F:=Mw (fun _=>h) (fun h'=>by rw[hc]at h';cases h')
theorem alq{c:BE}(hc:c.ae U=false)(h:t'.par E R Ps U F):(aw.ite c t t').par E R Ps U F:=Mw (fun h'=>by rw[hc]at h';cases h') (fun _=>h)
theorem ame{bJ:List DE}{rs:List DV}(e:bJ.map (DE.ae U)=rs)(h:R rs):(aw.ret bJ).par E R Ps U F:=by subst e;exact h
end
theorem nxt(e:az)(b:Nat)(ds:List DV):∃e':az,e'=e.ar b ds/\(∀k,k<b->e' k=e k)/\∀j,j<ds.length->e' (b+j)=ds.getD j (.i 0):=
 ⟨_,rfl,fun k hk=>az.aX hk,fun j hj=>kX hj⟩
theorem aml(e:az)(b:Nat)(d:DV):∃e':az,e'=e.set b d/\(∀k,k<b->e' k=e k)/\e' b=d:=by
 refine⟨_,rfl,fun k hk=>?_,?_⟩
 . simp only[az.set];rw[if_neg (by omega)]
 . simp only[az.set,if_pos]
theorem al'(n:Int):IntKind.u64.wrap n=n%18446744073709551616:=IntKind.wrap_u64 n
theorem aln{x w:Int}(hx: -9223372036854775808<=x/\x<=9223372036854775807)(hw:0<=w/\w<=100):(IntKind.u64.wrap x<IntKind.u64.wrap w)↔(0<=x/\x<w):=by
 rw[al',al',Int.emod_eq_of_lt hw.1 (by omega)]
 omega
end Go.Proofs.YtohebioanhliiaaGreatDoor.aD
namespace Go.Proofs.YtohebioanhliiaaGreatDoor.aD
open Go.Sx Go
abbrev ak9(j:Nat):IE:=.get 4713 (.v 4721) j
abbrev ala:IE:=.add (.mul (ak9 1) (.v 4715)) (ak9 0)
abbrev alf:BE:=.and (.lt (.wrap .u64 (ak9 0)) (.wrap .u64 (.v 4715))) (.lt (.wrap .u64 (ak9 1)) (.wrap .u64 (.v 4716)))
abbrev nd6(x:IE)(t:aw):aw:=.ev (.aG (r6 x)) t
def alZ(z c:Nat):aw:=nd6 (.add (.v 4720) (.c 1)) (nd6 (.add (.v 4721) (.c 1)) (.again 148003 [.i (.add (.v 4720) (.c 1)),.i (.add (.v 4721) (.c 1)),.l z,.l c]))
def alD:aw:=nd6 (.add (.v 4721) (.c 1)) (.again 148003 [.i (.v 4720),.i (.add (.v 4721) (.c 1)),.l 4722,.l 4723])
def ama(id c:Nat):aw:=.ite (.and (.v 84) (.v 86)) (.ite (.not alf) (alZ 4722 c) (nd6 (.mul (ak9 1) (.v 4715)) (nd6 ala (.ev (.aG (.le (.c 0) ala)) (.ev (.aG (.lt ala (.len 4722))) (.ev (.ch id (.set 4722 ala 0 (.inl (ak9 2)))) (alZ id c))))))) (alZ 4722 c)
def amb(p z0 b q id z1:Nat):aw:=.ite (.not alf) (ama z0 4723) (nd6 (.mul (ak9 1) (.v 4715)) (nd6 ala (.ev (.aG (.le (.c 0) ala)) (.ev (.aG (.lt ala (.len 4723))) (.ev (.call 136 (.c true) [.b (.v 90),.b (.v 91),.b (.v 92),.b (.v 93)] [oI] b) (.ev (.aG (.lt (.c 0) (.len 4723))) (.ev (.aG (.le (.c 0) ala)) (.ev (.aG (.lt ala (.len 4723))) (.ev (.call 137 (.c true) (iv p 4) [oI] q) (.ev (.ch id (.set 4723 ala 0 (.inl (.bits .or .i64 (.bits .andNot .i64 (.get 4723 ala 0) (.v b)) (.bits .and .i64 (.v q) (.v b)))))) (ama z1 id)))))))))))
def alk:List DE:=[.b (.v 79)]++iv 80 4++[.b (.v 84),.i (.v 85),.b (.v 86),.b (.v 87),.i (.v 88),.i (.v 89),.b (.v 90),.b (.v 91),.b (.v 92),.b (.v 93)]
def alp:List DE:=[.i (ak9 0),.i (ak9 1),.i (ak9 2),.i (ak9 3),.i (ak9 4),.i (ak9 5),.i (ak9 6),.i (ak9 7)]
def alr:List DE:=[.i (.v 4715),.i (.v 4716),.l 4723,.l 4722,.i (ak9 0),.i (ak9 1)]
def amc:List VT:=[.agg [.c i6,.c i6,.c i6,.c i6],oI,oB]
def amj:List VT:=[.agg [.c i6,.c i6,.c i6,.c i6]]
def amd:aw:=.ev (.call 235 (.c true) [.i (ak9 3),.i (ak9 4),.i (ak9 5),.i (ak9 6),.i (ak9 7)] amj 10878) (.ite (.v 87) (.ev (.call 236 (.c true) alr amc 14467) (.ev (.call 237 (.c true) (iv 10878 4++iv 14467 4++[.i (.v 88),.i (.v 89)]) amj 17028) (amb 17028 24202 24202 27787 30347 37516))) (amb 10878 18053 18053 21638 24198 31367))
def amk:aw:=.ev (.aG (.le (.c 0) (.v 4721))) (.ev (.call 232 (.c true) alk [oB] 4727) (.ev (.call 233 (.v 4727) alp [oB] 4728) (.ite (.not (.or (.not (.v 4727)) (.not (.v 4728)))) (
 .ev (.call 168 (.v 79) [.i (.v 80),.i (.v 81),.i (.v 82),.i (.v 83),.i (ak9 0),.i (ak9 1)] [oB] 4731) (.ite (.and (.v 79) (.not (.v 4731))) alD (
 .ev (.call 236 (.c true) alr amc 8316) (.ev (.call 262 (.and (.v 8321) (.v 84)) [.i (.v 85),.i (ak9 2),.i (.v 8320)] [oB] 10877) (
 .ite (.or (.or (.not (.v 4727)) (.not (.v 4728))) (.or (.not (.v 8321)) (.and (.v 84) (.not (.v 10877))))) alD amd))))) alD)))
def alE:aw:=.ret [.i (.v 4715),.i (.v 4716),.l 4723,.l 4722]
def t19:aw:=
.ak5 615 (.ite (.eq (.v 615) (.c 0)) (.stuck "") (.ite (.eq (.v 0) (.c 0)) (.stuck "") (.stuck ""))) (
.ev (.call 57 (.c true) [.i (.c 18),.nil] [oI] 1127) (.ite (.eq (.v 1127) (.c 0)) (
.ev (.call 59 (.c true) [.b (.v 58),.i (.c 18)] [oB] 4712) (.ite (.v 4712) (
.ev (.call 18 (.c true) j7 [.one (.s 74 bY),oB] 4713) (
.ev (.call 135 (.c true) [.i (.v 1),.i (.v 2),.l 3,.l 4] [.agg [.c i6,.c i6,.s 3 [i6],.s 3 [i6]]] 4715) (
.loop 148003 [.i (.c 0),.i (.c 0),.l 4718,.l 4717] [.c i6,.c i6,.s 3 [i6],.s 3 [i6]] 4720 (
.ite (.lt (.v 4721) (.len 4713)) amk (.ite (.and (.not (.v 4714)) (.eq (.v 0) (.c 0))) (.pop alE) (.pop alE)))))) (.fail (.c 6)))) (.fail (.v 1127))))
theorem T19:TT Tryz.prog 19=some ⟨19,t19,(rowOf 19).sub⟩:=by kernel_rfl
theorem p19:ak' (rowOf 19).sub=true:=by kernel_rfl
section
variable {E:Nat->List DV->List DV->Prop}{R:List DV->Prop}{Ps:List (Int->Prop)}{F:Nat->List DV->Prop}{e:az}{G:List DV->Prop}
theorem alF{z c:Nat}(h:G [.i ((e 4720).int+1),.i ((e 4721).int+1),.l (e z).list,.l (e c).list]):(alZ z c).par E R Ps e (ox F 148003 G):=akW fun _=>akW fun _=>akT h
theorem alG{id c:Nat}(kx:4723<id)(hc:c<id)(h84:(e 84).bool=true)(h86:(e 86).bool=true)(gF:alf.ae e=true)
   (h:0<=ala.ae e->ala.ae e<(e 4722).list.length->G [.i ((e 4720).int+1),.i ((e 4721).int+1),.l (setAt (e 4722).list (ala.ae e) 0 ((ak9 2).ae e)),.l (e c).list]):(ama id c).par E R Ps e (ox F 148003 G):=by
 refine alH (by show((e 84).bool&&(e 86).bool)=true;rw[h84,h86];rfl) (alq (by show(!(alf.ae e))=false;rw[gF];rfl) (akW fun _=>akW fun _=>akW fun h0=>akW fun h1=>ak3 (alF ?_)))
 obtain⟨e',he,o,v⟩:=aml e id (.l (cZ.ae e (.set 4722 ala 0 (.inl (ak9 2)))));rw[<- he,o 4720 (by omega),o 4721 (by omega),o c hc,v]
 exact h (of_decide_eq_true h0) (of_decide_eq_true h1)
theorem als{p z0 b q id z1:Nat}(hb:4723<b)(hq:b<q)(hi:q<id)(hz:id<z1)(h84:(e 84).bool=true)(h86:(e 86).bool=true)(gF:alf.ae e=true)
   (h:∀C,0<=ala.ae e->ala.ae e<(e 4722).list.length->G [.i ((e 4720).int+1),.i ((e 4721).int+1),.l (setAt (e 4722).list (ala.ae e) 0 ((ak9 2).ae e)),.l C]):(amb p z0 b q id z1).par E R Ps e (ox F 148003 G):=by
 refine alq (by show(!(alf.ae e))=false;rw[gF];rfl) (akW fun _=>akW fun _=>akW fun _=>akW fun _=>Mv fun r1 _=>akW fun _=>akW fun _=>akW fun _=>Mv fun r2 _=>ak3 ?_)
 obtain⟨e1,nc,o1,_⟩:=nxt e b r1;rw[<- nc];obtain⟨e2,tz,o2,_⟩:=nxt e1 q r2;rw[<- tz];obtain⟨e3,wm,o3,_⟩:=aml e2 id (.l (cZ.ae e2 (.set 4723 ala 0 (.inl (.bits .or .i64 (.bits .andNot .i64 (.get 4723 ala 0) (.v b)) (.bits .and .i64 (.v q) (.v b)))))));rw[<- wm];have o:∀k,k<=4723->e3 k=e k:=fun k hk=>by rw[o3 k (by omega),o2 k (by omega),o1 k (by omega)]
 refine alG (by omega) hz (by rw[o 84 (by omega)];exact h84) (by rw[o 86 (by omega)];exact h86) ?_ ?_
 . rw[<- gF];simp only[alf,ak9,BE.ae,IE.ae,o 4713 (by omega),o 4715 (by omega),o 4716 (by omega),o 4721 (by omega)];rfl
 . have h':=h (e3 id).list;rw[o 4720 (by omega),o 4721 (by omega),o 4722 (by omega),show ala.ae e3=ala.ae e by simp only[ala,ak9,IE.ae,o 4713 (by omega),o 4715 (by omega),o 4721 (by omega)],show(ak9 2).ae e3=(ak9 2).ae e by simp only[ak9,IE.ae,o 4713 (by omega),o 4721 (by omega)]]
   exact h'
end
def alz(E:Nat->List DV->List DV->Prop)(a:az)(f:List Int):Prop:=
 E 232 (alk.map (DE.ae a)) [.b true]/\E 233 (cells 8 f) [.b true]/\((a 79).bool=true->E 168 [.i (a 80).int,.i (a 81).int,.i (a 82).int,.i (a 83).int,.i (f.getD 0 0),.i (f.getD 1 0)] [.b true])/\
 0<=f.getD 0 0/\f.getD 0 0<(a 1).int/\0<=f.getD 1 0/\f.getD 1 0<(a 2).int
def zOf(a:az)(Z:List (List Int))(f:List Int):Int:=cellAt Z (f.getD 1 0*(a 1).int+f.getD 0 0) 0
def Low(E:Nat->List DV->List DV->Prop)(a:az)(out:List (List Int))(n:Nat)(Z:List (List Int)):Prop:=∀j,j<n->alz E a (out.getD j [])->zOf a Z (out.getD j [])<=(out.getD j []).getD 2 0
theorem C7{Z:List (List Int)}{i x:Int}(h0:0<=i)(h1:i<Z.length):cellAt (setAt Z i 0 x) i 0=x:=by
 unfold cellAt setAt;have h:i.toNat<Z.length:=by omega
 simp only[cH,List.getElem?_modify,dJ h];unfold nB;cases hz:Z[i.toNat]with
 |nil=>simp
 |cons y ys=>simp
theorem jb{Z:List (List Int)}{i k x:Int}(h0:0<=i)(hk:0<=k)(h:i≠k):cellAt (setAt Z i 0 x) k 0=cellAt Z k 0:=by
 unfold cellAt setAt;simp only[cH];have cx:¬ i.toNat=k.toNat:=by omega
 simp[List.getElem?_modify,cx]
theorem Low.set{E:Nat->List DV->List DV->Prop}{a:az}{out:List (List Int)}{n:Nat}{Z:List (List Int)}(h:Low E a out n Z)(w0:0<=(a 1).int)
   (h0:0<=(out.getD n []).getD 1 0*(a 1).int+(out.getD n []).getD 0 0) (h1:(out.getD n []).getD 1 0*(a 1).int+(out.getD n []).getD 0 0<Z.length) (hz:(out.getD n []).getD 2 0<zOf a Z (out.getD n [])) :
   Low E a out (n+1) (setAt Z ((out.getD n []).getD 1 0*(a 1).int+(out.getD n []).getD 0 0) 0 ((out.getD n []).getD 2 0)):=by
 intro j hj he;unfold zOf;have hk:0<=(out.getD j []).getD 1 0*(a 1).int+(out.getD j []).getD 0 0:=by
   have:=Int.mul_nonneg he.2.2.2.2.2.1 w0;have:=he.2.2.2.1;omega
 by_cases e:(out.getD n []).getD 1 0*(a 1).int+(out.getD n []).getD 0 0=(out.getD j []).getD 1 0*(a 1).int+(out.getD j []).getD 0 0
 . rw[<- e,C7 h0 h1];by_cases hjn:j=n
   . subst hjn;exact Int.le_refl _
   . have:=h j (by omega) he
     unfold zOf at this hz;rw[<- e]at this;omega
 . rw[jb h0 hk e];by_cases hjn:j=n
   . subst hjn;exact absurd rfl e
   . exact h j (by omega) he
theorem Low.next{E:Nat->List DV->List DV->Prop}{a:az}{out:List (List Int)}{n:Nat}{Z:List (List Int)}(h:Low E a out n Z)(hn:alz E a (out.getD n [])->zOf a Z (out.getD n [])<=(out.getD n []).getD 2 0):Low E a out (n+1) Z:=by
 intro j hj he;by_cases e:j=n
 . subst e;exact hn he
 . exact h j (by omega) he
end Go.Proofs.YtohebioanhliiaaGreatDoor.aD
namespace Go.Proofs.YtohebioanhliiaaGreatDoor.aD
open Go.Sx Go
structure alw(E:Nat->List DV->List DV->Prop):Prop where
 AR:∀k ds rs dW,E k ds rs->E k ds dW->rs=dW
 kb:∀k,k=232\/k=233\/k=168->∀ds rs,E k ds rs->∃b,rs=[.b b]
 SG:∀ds rs,E 18 ds rs->∃out w,rs=[.l out,.b w]
 ab0:∀W H C Z rs,E 135 [.i W,.i H,.l C,.l Z] rs->rs=[.i W,.i H,.l C,.l Z]
 ajF:∀W H C Z x y rs,E 236 [.i W,.i H,.l C,.l Z,.i x,.i y] rs->∃c0 c1 c2 c3 z ok,rs=[.i c0,.i c1,.i c2,.i c3,.i z,.b ok]/\(ok=true↔(IntKind.u64.wrap x<IntKind.u64.wrap W/\IntKind.u64.wrap y<IntKind.u64.wrap H))/\(ok=true->z=cellAt Z (y*W+x) 0)
 ams:∀z o rs,E 262 [.i 1,.i z,.i o] rs->rs=[.b (decide (z<o))]
def I19(E:Nat->List DV->List DV->Prop)(a:az)(out z12z z7z:List (List Int))(vs:List DV):Prop:=∃(n:Int) (i:Nat) (Z C:List (List Int)),vs=[.i n,.i i,.l Z,.l C]/\i<=out.length/\Low E a out i Z/\(Low E a out out.length z12z->Z=z12z/\C=z7z)
structure ald(a e:az)(out Z C:List (List Int))(n:Int)(i:Nat):Prop where
 ag:∀k,k<94->e k=a k
 v13:e 4713 = .l out
 v15:e 4715 = .i (a 1).int
 v16:e 4716 = .i (a 2).int
 v20:e 4720 = .i n
 v21:e 4721 = .i i
 v22:e 4722 = .l Z
 v23:e 4723 = .l C
theorem ald.up{a e e':az}{out Z C:List (List Int)}{n:Int}{i:Nat}(h:ald a e out Z C n i)(o:∀k,k<4727->e' k=e k):ald a e' out Z C n i:=
 ⟨fun k hk=>by rw[o k (by omega),h.ag k hk],by rw[o _ (by omega),h.v13],by rw[o _ (by omega),h.v15],by rw[o _ (by omega),h.v16],by rw[o _ (by omega),h.v20],by rw[o _ (by omega),h.v21],by rw[o _ (by omega),h.v22],by rw[o _ (by omega),h.v23]⟩
section
variable {a e:az}{out Z C:List (List Int)}{n:Int}{i:Nat}(h:ald a e out Z C n i)
theorem ald.dfg{a:az}{e:az}{out:List (List Int)}{Z:List (List Int)}{C:List (List Int)}{n:Int}{i:Nat}(h:ald a e out Z C n i)(j:Nat):(ak9 j).ae e=(out.getD i []).getD j 0:=by
 show cellAt (e 4713).list (e 4721).int j=_;rw[h.v13,h.v21];unfold cellAt;simp only[dl,di,Int.toNat_natCast]
theorem ald.dpx{a:az}{e:az}{out:List (List Int)}{Z:List (List Int)}{C:List (List Int)}{n:Int}{i:Nat}(h:ald a e out Z C n i):ala.ae e=(out.getD i []).getD 1 0*(a 1).int+(out.getD i []).getD 0 0:=by
 show(ak9 1).ae e*(e 4715).int+(ak9 0).ae e=_;rw[h.dfg,h.dfg,h.v15];rfl
theorem ald.amm{a:az}{e:az}{out:List (List Int)}{Z:List (List Int)}{C:List (List Int)}{n:Int}{i:Nat}(h:ald a e out Z C n i):alp.map (DE.ae e)=cells 8 (out.getD i []):=by
 simp only[alp,List.map_cons,List.map_nil,DE.ae,h.dfg];rfl
theorem ald.alI{a:az}{e:az}{out:List (List Int)}{Z:List (List Int)}{C:List (List Int)}{n:Int}{i:Nat}(h:ald a e out Z C n i):alf.ae e=true↔(IntKind.u64.wrap ((out.getD i []).getD 0 0)<IntKind.u64.wrap (a 1).int/\IntKind.u64.wrap ((out.getD i []).getD 1 0)<IntKind.u64.wrap (a 2).int):=by
 show(decide (IntKind.u64.wrap ((ak9 0).ae e)<IntKind.u64.wrap (e 4715).int)&&decide (IntKind.u64.wrap ((ak9 1).ae e)<IntKind.u64.wrap (e 4716).int))=true↔_;rw[h.dfg,h.dfg,h.v15,h.v16];rw[ao];exact⟨fun h=>⟨of_decide_eq_true h.1,of_decide_eq_true h.2⟩,fun h=>⟨decide_eq_true h.1,decide_eq_true h.2⟩⟩
theorem ald.amt{a:az}{e:az}{out:List (List Int)}{Z:List (List Int)}{C:List (List Int)}{n:Int}{i:Nat}(h:ald a e out Z C n i):alr.map (DE.ae e)=[.i (a 1).int,.i (a 2).int,.l C,.l Z,.i ((out.getD i []).getD 0 0),.i ((out.getD i []).getD 1 0)]:=by
 simp only[alr,List.map_cons,List.map_nil,DE.ae,h.dfg];simp only[IE.ae,h.v15,h.v16,h.v22,h.v23,di,dl]
theorem ald.amu{a:az}{e:az}{out:List (List Int)}{Z:List (List Int)}{C:List (List Int)}{n:Int}{i:Nat}(h:ald a e out Z C n i):alk.map (DE.ae e)=alk.map (DE.ae a):=by
 have:∀k,k<94->e k=a k:=h.ag;refine List.map_congr_left fun d hd=>DE.Ci (p:=fun k=>Nat.ble k 93) (fun k hk=>this k (by have:=Nat.le_of_ble_eq_true hk;omega)) ?_
 exact List.all_eq_true.1 (show alk.all (DE.all fun k=>Nat.ble k 93)=true by kernel_rfl) d hd
end
section
variable {E:Nat->List DV->List DV->Prop}{R:List DV->Prop}{Ps:List (Int->Prop)}{F:Nat->List DV->Prop}
theorem ale{a e:az}{out Z C z12z z7z:List (List Int)}{n:Int}{i:Nat}(h:ald a e out Z C n i)(hi:i<out.length)(hL:Low E a out i Z)(hS:Low E a out out.length z12z->Z=z12z/\C=z7z)
   (hn:alz E a (out.getD i [])->zOf a Z (out.getD i [])<=(out.getD i []).getD 2 0):alD.par E R Ps e (ox F 148003 (I19 E a out z12z z7z)):=by
 refine akW fun _=>akT ⟨n,i+1,Z,C,?_,by omega,hL.next hn,hS⟩
 simp only[List.map_cons,List.map_nil,DE.ae,IE.ae,h.v20,h.v21,h.v22,h.v23,di,dl];rfl
theorem alJ(hE:alw E){a e:az}{out Z C z12z z7z:List (List Int)}{n:Int}{i:Nat}(h:ald a e out Z C n i)(hi:i<out.length)(hL:Low E a out i Z)(hS:Low E a out out.length z12z->Z=z12z/\C=z7z)
   (w0:0<=(a 1).int) (h84:(a 84).bool=true) (h86:(a 86).bool=true) (gF:alf.ae e=true) (hel:alz E a (out.getD i [])) (hz:(out.getD i []).getD 2 0<zOf a Z (out.getD i [])):amd.par E R Ps e (ox F 148003 (I19 E a out z12z z7z)):=by
 have fin:∀e':az,ald a e' out Z C n i->∀C',0<=ala.ae e'->ala.ae e'<(e' 4722).list.length->I19 E a out z12z z7z [.i ((e' 4720).int+1),.i ((e' 4721).int+1),.l (setAt (e' 4722).list (ala.ae e') 0 ((ak9 2).ae e')),.l C']:=fun e' h' C' p0 p1=>by
   rw[h'.v22,h'.dpx]at p1;rw[h'.dpx]at p0;rw[h'.v20,h'.v21,h'.v22,h'.dpx,h'.dfg];refine⟨n+1,i+1,_,C',rfl,by omega,hL.set w0 p0 p1 hz,fun hl=>?_⟩
   obtain⟨rfl,rfl⟩:=hS hl;have:=hl i hi hel;omega
 refine Mv fun r6 _=>?_
 obtain⟨e6,he6,z10z,_⟩:=nxt e 10878 r6;rw[<- he6];have h6:=h.up (fun k hk=>z10z k (by omega))
 have i6:alf.ae e6=true:=by rw[h6.alI,<- h.alI];exact gF
 refine Mw (fun _=>?_) (fun _=>?_)
 . refine Mv fun r7 _=>?_
   obtain⟨e7,he7,z4z,_⟩:=nxt e6 14467 r7;rw[<- he7];have h7:=h6.up (fun k hk=>z4z k (by omega))
   refine Mv fun r8 _=>?_
   obtain⟨e8,he8,z3z,_⟩:=nxt e7 17028 r8;rw[<- he8];have h8:=h7.up (fun k hk=>z3z k (by omega))
   exact als (by omega) (by omega) (by omega) (by omega) (by rw[h8.ag 84 (by omega)];exact h84) (by rw[h8.ag 86 (by omega)];exact h86) (by rw[h8.alI,<- h.alI];exact gF) fun C'=>fin e8 h8 C'
 . exact als (by omega) (by omega) (by omega) (by omega) (by rw[h6.ag 84 (by omega)];exact h84) (by rw[h6.ag 86 (by omega)];exact h86) i6 fun C'=>fin e6 h6 C'
theorem alK(hE:alw E){a e:az}{out Z C z12z z7z:List (List Int)}{n:Int}{i:Nat}(h:ald a e out Z C n i)(hi:i<out.length)(hL:Low E a out i Z)(hS:Low E a out out.length z12z->Z=z12z/\C=z7z)
   (hw:0<=(a 1).int/\(a 1).int<=100) (hh:0<=(a 2).int/\(a 2).int<=100) (h84:(a 84).bool=true) (h85:(a 85).int=1) (h86:(a 86).bool=true) (hr:∀j,j<2->-9223372036854775808<=(out.getD i []).getD j 0/\(out.getD i []).getD j 0<=9223372036854775807):amk.par E R Ps e (ox F 148003 (I19 E a out z12z z7z)):=by
 have x0:=hr 0 (by omega)
 have x1:=hr 1 (by omega)
 refine akW fun _=>Mv fun r1 g1=>?_
 obtain⟨b1,rfl⟩:=hE.kb 232 (.inl rfl) _ _ g1;rw[h.amu]at g1;obtain⟨e1,nc,o1,w1⟩:=nxt e 4727 [.b b1];have w1:e1 4727 = .b b1:=w1 0 (by simp)
 rw[<- nc];have h1:=h.up (fun k hk=>o1 k (by omega))
 refine RA (fun hg r2 g2=>?_) (fun hg=>?_)
 . obtain⟨b2,rfl⟩:=hE.kb 233 (.inr (.inl rfl)) _ _ g2;have g2:E 233 (alp.map (DE.ae e1)) [.b b2]:=g2;rw[h1.amm]at g2;have uR:b1=true:=by have hg:(e1 4727).bool=true:=hg;rw[w1]at hg;exact hg
   subst uR;obtain⟨e2,tz,o2,w2⟩:=nxt e1 4728 [.b b2];have w2:e2 4728 = .b b2:=w2 0 (by simp)
   have u1:e2 4727 = .b true:=by rw[o2 _ (by omega),w1]
   rw[<- tz];have h2:=h1.up (fun k hk=>o2 k (by omega))
   refine Mw (fun hc=>?_) (fun hc=>?_)
   . have sR:b2=true:=by
       have hc:(!((!(e2 4727).bool)||(!(e2 4728).bool)))=true:=hc;rw[u1,w2]at hc;cases b2 with
       |true=>rfl
       |false=>cases hc
     subst sR;have rest:∀e3:az,(∀k,k<4731->e3 k=e2 k)->((a 79).bool=true->E 168 [.i (a 80).int,.i (a 81).int,.i (a 82).int,.i (a 83).int,.i ((out.getD i []).getD 0 0),.i ((out.getD i []).getD 1 0)] [.b true])->
         (aw.ev (.call 236 (.c true) alr amc 8316) (.ev (.call 262 (.and (.v 8321) (.v 84)) [.i (.v 85),.i (ak9 2),.i (.v 8320)] [oB] 10877) (.ite (.or (.or (.not (.v 4727)) (.not (.v 4728))) (.or (.not (.v 8321)) (.and (.v 84) (.not (.v 10877))))) alD amd))).par E R Ps e3 (ox F 148003 (I19 E a out z12z z7z)):=by
       intro e3 o3 Kb;have h3:=h2.up (fun k hk=>o3 k (by omega))
       refine Mv fun r4 g4=>?_
       rw[h3.amt]at g4;obtain⟨c0,c1,c2,c3,z,ok,rfl,gD,hz⟩:=hE.ajF _ _ _ _ _ _ _ g4;obtain⟨e4,he4,o4,w4⟩:=nxt e3 8316 [.i c0,.i c1,.i c2,.i c3,.i z,.b ok];have z5z:e4 8320 = .i z:=w4 4 (by simp)
       have wk:e4 8321 = .b ok:=w4 5 (by simp)
       rw[<- he4];have h4:=h3.up (fun k hk=>o4 k (by omega))
       have t1:e4 4727 = .b true:=by rw[o4 _ (by omega),o3 _ (by omega),u1]
       have t2:e4 4728 = .b true:=by rw[o4 _ (by omega),o3 _ (by omega),w2]
       refine RA (fun hg r5 g5=>?_) (fun hg=>?_)
       . have QL:ok=true:=by
           have hg:((e4 8321).bool&&(e4 84).bool)=true:=hg;rw[wk]at hg;exact(Bool.and_eq_true_iff.1 hg).1
         subst QL;have gF:=gD.1 rfl;have hel:alz E a (out.getD i []):=by
           obtain⟨q0,q1⟩:=gF;have q0:=(aln x0 hw).1 q0;have q1:=(aln x1 hh).1 q1;exact⟨g1,g2,Kb,q0.1,q0.2,q1.1,q1.2⟩
         have g5:E 262 [.i (e4 85).int,.i ((ak9 2).ae e4),.i (e4 8320).int] r5:=g5;rw[h4.ag 85 (by omega),h85,h4.dfg,z5z]at g5
         obtain rfl:=hE.ams _ _ _ g5;obtain⟨e5,he5,z6z,w5⟩:=nxt e4 10877 [.b (decide ((out.getD i []).getD 2 0<z))];have w5:e5 10877 = .b (decide ((out.getD i []).getD 2 0<z)):=w5 0 (by simp)
         rw[show(DV.i z).int=z from rfl,<- he5]
         have h5:=h4.up (fun k hk=>z6z k (by omega))
         have cnd:BE.ae e5 (.or (.or (.not (.v 4727)) (.not (.v 4728))) (.or (.not (.v 8321)) (.and (.v 84) (.not (.v 10877))))) = !(decide ((out.getD i []).getD 2 0<z)):=by
           simp only[BE.ae,z6z 4727 (by omega),z6z 4728 (by omega),z6z 8321 (by omega),t1,t2,wk,w5,h5.ag 84 (by omega),h84,db]
           simp
         have GA:=hz rfl;refine Mw (fun hc=>?_) (fun hc=>?_)
         . rw[cnd]at hc;refine ale h5 hi hL hS fun _=>?_
           unfold zOf;rw[<- GA];have:¬ (out.getD i []).getD 2 0<z:=by simpa using hc
           omega
         . rw[cnd]at hc;refine alJ hE h5 hi hL hS hw.1 h84 h86 (h5.alI.2 gF) hel ?_;unfold zOf;rw[<- GA];simpa using hc
       . have QL:ok=false:=by
           have hg:((e4 8321).bool&&(e4 84).bool)=false:=hg;rw[wk,h4.ag 84 (by omega),h84]at hg
           simpa[DV.bool]using hg
         subst QL;obtain⟨e5,he5,z6z,_⟩:=nxt e4 10877 (defs (bD [oB]));rw[<- he5];have h5:=h4.up (fun k hk=>z6z k (by omega))
         refine alH ?_ (ale h5 hi hL hS fun hel=>?_)
         . simp only[BE.ae,z6z 4727 (by omega),z6z 4728 (by omega),z6z 8321 (by omega),t1,t2,wk,db]
           simp
         . have:false=true:=gD.2 ⟨(aln x0 hw).2 ⟨hel.2.2.2.1,hel.2.2.2.2.1⟩,(aln x1 hh).2 ⟨hel.2.2.2.2.2.1,hel.2.2.2.2.2.2⟩⟩;cases this
     refine RA (fun hg r3 g3=>?_) (fun hg=>?_)
     . obtain⟨b3,rfl⟩:=hE.kb 168 (.inr (.inr rfl)) _ _ g3;have g3:E 168 [.i (e2 80).int,.i (e2 81).int,.i (e2 82).int,.i (e2 83).int,.i ((ak9 0).ae e2),.i ((ak9 1).ae e2)] [.b b3]:=g3;rw[h2.ag 80 (by omega),h2.ag 81 (by omega),h2.ag 82 (by omega),h2.ag 83 (by omega),h2.dfg,h2.dfg]at g3
       obtain⟨e3,wm,o3,w3⟩:=nxt e2 4731 [.b b3];have w3:e3 4731 = .b b3:=w3 0 (by simp)
       rw[<- wm];have h3:=h2.up (fun k hk=>o3 k (by omega))
       refine Mw (fun hc=>?_) (fun hc=>?_)
       . refine ale h3 hi hL hS fun hel=>?_
         have hc:((e3 79).bool&&(!(e3 4731).bool))=true:=hc;rw[h3.ag 79 (by omega),w3,ao]at hc
         have:=hE.AR _ _ _ _ g3 (hel.2.2.1 hc.1);injection this with this;injection this with this;subst this;cases hc.2
       . refine rest e3 o3 fun h79=>?_
         have hc:((e3 79).bool&&(!(e3 4731).bool))=false:=hc;rw[h3.ag 79 (by omega),w3,h79]at hc
         have:b3=true:=by simpa[DV.bool]using hc
         rw[this]at g3;exact g3
     . obtain⟨e3,wm,o3,_⟩:=nxt e2 4731 (defs (bD [oB]));rw[<- wm];have hg:(e2 79).bool=false:=hg;refine alq ?_ (rest e3 o3 fun h79=>?_)
       . show((e3 79).bool&&_)=false;rw[o3 79 (by omega),hg]
         rfl
       . rw[h2.ag 79 (by omega),h79]at hg
         cases hg
   . refine ale h2 hi hL hS fun hel=>?_
     have:=hE.AR _ _ _ _ g2 hel.2.1;injection this with this;injection this with this;subst this;have hc:(!((!(e2 4727).bool)||(!(e2 4728).bool)))=false:=hc;rw[u1,w2]at hc;cases hc
 . obtain⟨e2,tz,o2,_⟩:=nxt e1 4728 (defs (bD [oB]));rw[<- tz];have h2:=h1.up (fun k hk=>o2 k (by omega))
   have hg:(e1 4727).bool=false:=hg;refine alq ?_ (ale h2 hi hL hS fun hel=>?_)
   . show(!((!(e2 4727).bool)||_))=false;rw[o2 4727 (by omega),hg]
     rfl
   . have:=hE.AR _ _ _ _ g1 hel.1;injection this with this;injection this with this;subst this;rw[w1]at hg;cases hg
def R19(E:Nat->List DV->List DV->Prop)(ds rs:List DV):Prop:=∃(out:List (List Int)) (w:Bool) (Z C:List (List Int)),E 18 (j7.map (DE.ae (aM.ar 0 ds))) [.l out,.b w]/\
 rs=[.i (aM.ar 0 ds 1).int,.i (aM.ar 0 ds 2).int,.l C,.l Z]/\Low E (aM.ar 0 ds) out out.length Z/\(Low E (aM.ar 0 ds) out out.length (aM.ar 0 ds 4).list->Z=(aM.ar 0 ds 4).list/\C=(aM.ar 0 ds 3).list)
theorem amn(hE:alw E){ds:List DV}{a:az}(ha:aM.ar 0 ds=a)(hw:0<=(a 1).int/\(a 1).int<=100)(hh:0<=(a 2).int/\(a 2).int<=100)(h84:(a 84).bool=true)(h85:(a 85).int=1)(h86:(a 86).bool=true)
   (hr:∀out w,E 18 (j7.map (DE.ae a)) [.l out,.b w]->∀r∈out,∀j,j<2->-9223372036854775808<=r.getD j 0/\r.getD j 0<=9223372036854775807):t19.par E (R19 E ds) [] a (fun _ _=>True):=by
 unfold t19;refine akU (Mv fun r1 g1=>?_)
 obtain⟨e1,nc,o1,_⟩:=nxt a 1127 r1;rw[<- nc];refine Mw (fun _=>?_) (fun _=>akZ (Mw (fun _=>trivial) (fun _=>Mw (fun _=>trivial) (fun _=>trivial))))
 refine Mv fun r2 g2=>?_
 obtain⟨e2,tz,o2,_⟩:=nxt e1 4712 r2;rw[<- tz];refine Mw (fun _=>?_) (fun _=>akZ (Mw (fun _=>trivial) (fun _=>Mw (fun _=>trivial) (fun _=>trivial))))
 refine Mv fun r3 g3=>?_
 obtain⟨out,w,rfl⟩:=hE.SG _ _ g3;have p18:j7.map (DE.ae e2)=j7.map (DE.ae a):=by
   refine List.map_congr_left fun d hd=>DE.Ci (p:=fun k=>Nat.ble k 93) (fun k hk=>?_) (List.all_eq_true.1 (show j7.all (DE.all fun k=>Nat.ble k 93)=true by kernel_rfl) d hd)
   have:=Nat.le_of_ble_eq_true hk;rw[o2 k (by omega),o1 k (by omega)]
 rw[p18]at g3;obtain⟨e3,wm,o3,w3⟩:=nxt e2 4713 [.l out,.b w];have w3:e3 4713 = .l out:=w3 0 (by simp)
 rw[<- wm];refine Mv fun r4 g4=>?_
 have g4:E 135 [.i (e3 1).int,.i (e3 2).int,.l (e3 3).list,.l (e3 4).list] r4:=g4;have z9z:∀k,k<94->e3 k=a k:=fun k hk=>by rw[o3 k (by omega),o2 k (by omega),o1 k (by omega)]
 rw[z9z 1 (by omega),z9z 2 (by omega),z9z 3 (by omega),z9z 4 (by omega)]at g4
 obtain rfl:=hE.ab0 _ _ _ _ _ g4;obtain⟨e4,he4,o4,w4⟩:=nxt e3 4715 [.i (a 1).int,.i (a 2).int,.l (a 3).list,.l (a 4).list];have z13z:e4 4715 = .i (a 1).int:=w4 0 (by simp)
 have z2z:e4 4716 = .i (a 2).int:=w4 1 (by simp)
 have z8z:e4 4717 = .l (a 3).list:=w4 2 (by simp)
 have z11z:e4 4718 = .l (a 4).list:=w4 3 (by simp)
 rw[<- he4];refine akY (I19 E a out (a 4).list (a 3).list) ⟨0,0,(a 4).list,(a 3).list,?_,by omega,fun j hj=>by omega,fun _=>⟨rfl,rfl⟩⟩ ?_
 . simp only[List.map_cons,List.map_nil,DE.ae,IE.ae,z8z,z11z,dl];rfl
 rintro _ ⟨n,i,Z,C,rfl,hi,hL,hS⟩;obtain⟨e5,he5,z6z,w5⟩:=nxt e4 4720 [.i n,.i i,.l Z,.l C];rw[<- he5];have hA:ald a e5 out Z C n i:=⟨fun k hk=>by rw[z6z k (by omega),o4 k (by omega),z9z k hk],by rw[z6z _ (by omega),o4 _ (by omega),w3],by rw[z6z _ (by omega),z13z],by rw[z6z _ (by omega),z2z],w5 0 (by simp),w5 1 (by simp),w5 2 (by simp),w5 3 (by simp)⟩
 refine al0 (fun cQ=>?_) (fun sS=>?_)
 . simp only[IE.ae,hA.v13,hA.v21,di,dl]at cQ;have hm:out.getD i []∈out:=by
     rw[cH,dJ (show i<out.length by omega)]
     exact List.getElem_mem _
   exact alK hE hA (by omega) hL hS hw hh h84 h85 h86 fun j hj=>hr out w g3 _ hm j hj
 . simp only[IE.ae,hA.v13,hA.v21,di,dl]at sS;obtain rfl:i=out.length:=by omega
   have fin:alE.par E (R19 E ds) [] e5 (ox (fun _ _=>True) 148003 (I19 E a out (a 4).list (a 3).list)):=by
     refine ame (rs:=[.i (a 1).int,.i (a 2).int,.l C,.l Z]) ?_ ?_
     . simp only[List.map_cons,List.map_nil,DE.ae,IE.ae,hA.v15,hA.v16,hA.v22,hA.v23,di,dl]
     . unfold R19;rw[ha];exact⟨out,w,Z,C,g3,rfl,hL,hS⟩
   exact Mw (fun _=>ak4 fin) (fun _=>ak4 fin)
end
end Go.Proofs.YtohebioanhliiaaGreatDoor.aD
namespace Go.Proofs.YtohebioanhliiaaGreatDoor.aD
open Go.Sx Go
def t135:aw:=.ev (.aG (.le (.c 0) (.len 3))) (.ev (.aG (.le (.c 0) (.len 2))) (.ev (.aG (.le (.len 2) (.c 17592186044416))) (.ev (.aG (.le (.len 3) (.c 17592186044416))) (.ev (.ch 3590 (.rep (.len 2) [0])) (.ev (.ch 5638 (.rep (.len 3) [0])) (.ev (.ch 6663 (.Qh 3590 2)) (.ev (.ch 6664 (.Qh 5638 3)) (.ret [.i (.v 0),.i (.v 1),.l 6663,.l 6664]))))))))
theorem amv:TT Tryz.prog 135=some ⟨135,t135,(rowOf 135).sub⟩:=by kernel_rfl
abbrev alo:IE:=.add (.mul (.v 5) (.v 0)) (.v 4)
def t236:aw:=.ite (.not (.and (.lt (.wrap .u64 (.v 4)) (.wrap .u64 (.v 0))) (.lt (.wrap .u64 (.v 5)) (.wrap .u64 (.v 1))))) (.ret [.i (.c 0),.i (.c 0),.i (.c 0),.i (.c 0),.i (.c 0),.b (.c false)]) (.ev (.aG (r6 (.mul (.v 5) (.v 0)))) (.ev (.aG (r6 alo)) (.ev (.aG (.le (.c 0) alo)) (.ev (.aG (.lt alo (.len 2))) (.ev (.aG (.lt alo (.len 3))) (
 .ev (.call 264 (.c true) [.i (.get 2 alo 0)] [.agg [.c i6,.c i6,.c i6,.c i6]] 2568) (.ret [.i (.v 2568),.i (.v 2569),.i (.v 2570),.i (.v 2571),.i (.get 3 alo 0),.b (.c true)])))))))
theorem amw:TT Tryz.prog 236=some ⟨236,t236,(rowOf 236).sub⟩:=by kernel_rfl
def t262:aw:=.ite (.lt (.c 7) (.wrap .u64 (.v 0))) (.ret [.b (.c false)]) (.ite (.eq (.v 0) (.c 0)) (.ret [.b (.c false)]) (.ite (.eq (.v 0) (.c 1)) (.ret [.b (.lt (.v 1) (.v 2))]) (.ite (.eq (.v 0) (.c 2)) (.ret [.b (.eq (.v 1) (.v 2))]) (.ite (.eq (.v 0) (.c 3)) (.ret [.b (.le (.v 1) (.v 2))]) (
 .ite (.eq (.v 0) (.c 4)) (.ret [.b (.lt (.v 2) (.v 1))]) (.ite (.eq (.v 0) (.c 5)) (.ret [.b (.not (.eq (.v 1) (.v 2)))]) (.ite (.eq (.v 0) (.c 6)) (.ret [.b (.le (.v 2) (.v 1))]) (.ite (.eq (.v 0) (.c 7)) (.ret [.b (.c true)]) (.stuck "")))))))))
theorem amx:TT Tryz.prog 262=some ⟨262,t262,(rowOf 262).sub⟩:=by kernel_rfl
def t16:aw:=.ev (.call 26 (.c true) [.i (.v 0),.i (.v 1),.l 2,.l 3,.i (.v 4),.i (.v 5),.l 6,.l 7] [oB] 10) (.ret [.b (.v 10)])
theorem T16:TT Tryz.prog 16=some ⟨16,t16,(rowOf 16).sub⟩:=by kernel_rfl
def t26:aw:=.ite (.or (.or (.or (.not (.eq (.v 0) (.v 4))) (.not (.eq (.v 1) (.v 5)))) (.not (.eq (.len 2) (.len 6)))) (.not (.eq (.len 3) (.len 7)))) (.ret [.b (.c false)]) (
.loop 26004 [.b (.c false),.i (.c 0)] [.c (.b),.c i6] 10 (.ite (.lt (.v 11) (.len 2)) (.ev (.aG (.le (.c 0) (.v 11))) (.ev (.aG (.lt (.v 11) (.len 6))) (.ite (.not (.eq (.get 2 (.v 11) 0) (.get 6 (.v 11) 0))) (.ret [.b (.c false)]) (.ev (.aG (r6 (.add (.v 11) (.c 1)))) (.again 26004 [.b (.v 10),.i (.add (.v 11) (.c 1))]))))) (
.loop 26009 [.b (.v 10),.i (.c 0)] [.c (.b),.c i6] 12 (.ite (.lt (.v 13) (.len 3)) (.ev (.aG (.le (.c 0) (.v 13))) (.ev (.aG (.lt (.v 13) (.len 7))) (.ite (.not (.eq (.get 3 (.v 13) 0) (.get 7 (.v 13) 0))) (.ret [.b (.c false)]) (.ev (.aG (r6 (.add (.v 13) (.c 1)))) (.again 26009 [.b (.v 12),.i (.add (.v 13) (.c 1))]))))) (.ret [.b (.c true)])))))
theorem T26:TT Tryz.prog 26=some ⟨26,t26,(rowOf 26).sub⟩:=by kernel_rfl
def alL:List DE:=[.i (.v 1),.i (.v 2),.i (.v 3),.l 4,.l 5,.i (.v 6),.i (.v 7),.i (.v 8),.i (.v 9),.i (.v 10),.i (.v 11),.i (.v 12),.i (.v 13),.i (.v 14),.i (.v 15),.l 16,.l 17,.i (.v 18),.i (.v 19),.i (.v 20),.i (.v 21),.i (.v 22),.i (.v 23),.i (.v 24),.i (.v 25),.i (.v 26),.i (.v 27),.i (.v 28),.i (.v 29),.i (.v 30),.i (.v 31),.i (.v 32),.i (.v 33),.i (.v 34),.i (.v 35),.i (.v 36),.i (.v 37),.i (.v 38),.i (.v 39),.i (.v 40),.i (.v 41),.i (.v 42),.i (.v 43),.i (.v 44),.i (.v 45),.i (.v 46),.i (.v 47),.b (.v 48),.b (.v 49),.b (.v 50),.b (.v 51),.b (.v 52),.b (.v 53),.i (.v 54),.i (.v 55),.i (.v 56),.i (.v 57),.b (.v 58),.b (.v 59),.i (.v 60),.l 61,.l 62,.i (.v 63),.b (.v 64),.b (.v 65),.i (.v 66),.i (.v 67),.i (.v 68),.i (.v 69),.i (.v 70),.i (.v 71),.i (.v 72),.b (.v 73),.i (.v 74),.b (.v 75),.i (.v 76),.i (.v 77),.b (.v 78),.b (.v 79),.b (.v 80),.i (.v 81),.i (.v 82),.i (.v 83),.i (.v 84),.b (.c true),.i (.c 1),.b (.c true),.b (.v 88),.i (.v 89),.i (.v 90),.b (.v 91),.b (.v 92),.b (.v 93),.b (.v 94)]
def alv:List DE:=[.i (.v 1),.i (.v 97),.i (.v 98),.l 99,.l 100,.i (.v 6),.i (.v 7),.i (.v 8),.i (.v 9),.i (.v 10),.i (.v 11),.i (.v 12),.i (.v 13),.i (.v 14),.i (.v 15),.l 16,.l 17,.i (.v 18),.i (.v 19),.i (.v 20),.i (.v 21),.i (.v 22),.i (.v 23),.i (.v 24),.i (.v 25),.i (.v 26),.i (.v 27),.i (.v 28),.i (.v 29),.i (.v 30),.i (.v 31),.i (.v 32),.i (.v 33),.i (.v 34),.i (.v 35),.i (.v 36),.i (.v 37),.i (.v 38),.i (.v 39),.i (.v 40),.i (.v 41),.i (.v 42),.i (.v 43),.i (.v 44),.i (.v 45),.i (.v 46),.i (.v 47),.b (.v 48),.b (.v 49),.b (.v 50),.b (.v 51),.b (.v 52),.b (.v 53),.i (.v 54),.i (.v 55),.i (.v 56),.i (.v 57),.b (.v 58),.b (.v 59),.i (.v 60),.l 61,.l 62,.i (.v 63),.b (.v 64),.b (.v 65),.i (.v 66),.i (.v 67),.i (.v 68),.i (.v 69),.i (.v 70),.i (.v 71),.i (.v 72),.b (.v 73),.i (.v 74),.b (.v 75),.i (.v 76),.i (.v 77),.b (.v 78),.b (.v 79),.b (.v 80),.i (.v 81),.i (.v 82),.i (.v 83),.i (.v 84),.b (.c true),.i (.c 1),.b (.c true),.b (.v 88),.i (.v 89),.i (.v 90),.b (.v 91),.b (.v 92),.b (.v 93),.b (.v 94)]
def t6:aw:=
.ev (.call 17 (.c true) [.l 0] [.agg [.c i6,.c i6,.c i6,.s 3 [i6],.s 3 [i6],.c i6,.c i6,.c i6,.c i6,.c i6,.c i6,.c i6,.c i6,.c i6,.c i6,.s 138 [i6,i6,i6,i6,i6,i6,i6,i6,i6,i6,i6,i6,i6,i6,i6,i6],.s 138 [i6,i6,i6,i6,i6,i6,i6,i6,i6,i6,i6,i6,i6,i6,i6,i6],.c i6,.c i6,.c i6,.c i6,.c i6,.c i6,.c i6,.c i6,.c i6,.c i6,.c i6,.c i6,.c i6,.c i6,.c i6,.c i6,.c i6,.c i6,.c i6,.c i6,.c i6,.c i6,.c i6,.c i6,.c i6,.c i6,.c i6,.c i6,.c i6,.c i6,.c (.b),.c (.b),.c (.b),.c (.b),.c (.b),.c (.b),.c i6,.c i6,.c i6,.c i6,.c (.b),.c (.b),.c i6,.s 76 bY,.s 4 [.b],.c i6,.c (.b),.c (.b),.c i6,.c i6,.c i6,.c i6,.c i6,.c i6,.c i6,.c (.b),.c i6,.c (.b),.c i6,.c i6,.c (.b),.c (.b),.c (.b),.c i6,.c i6,.c i6,.c i6,.c (.b),.c i6,.c (.b),.c (.b),.c i6,.c i6,.c (.b),.c (.b),.c (.b),.c (.b)],oB] 1) (.ite (.not (.v 95)) (.ev (.call 10 (.c true) [] [oB] 97) (.ret [.b (.v 97)])) (
.ev (.call 19 (.c true) alL [.agg [.c i6,.c i6,.s 3 [i6],.s 3 [i6]]] 97) (.ev (.call 10 (.c true) [] [oB] 102) (
.ev (.call 19 (.v 102) alv [.agg [.c i6,.c i6,.s 3 [i6],.s 3 [i6]]] 1638) (
.ev (.call 16 (.v 102) [.i (.v 1638),.i (.v 1639),.l 1640,.l 1641,.i (.v 97),.i (.v 98),.l 99,.l 100] [oB] 2662) (.ret [.b (.and (.v 102) (.v 2662))]))))))
theorem z14z:TT Tryz.prog 6=some ⟨6,t6,(rowOf 6).sub⟩:=by kernel_rfl
section
variable {X:bA}
theorem amH:ak' (rowOf 135).sub=true:=by kernel_rfl
theorem amy:ak' (rowOf 236).sub=true:=by kernel_rfl
theorem amI:ak' (rowOf 262).sub=true:=by kernel_rfl
theorem p16:ak' (rowOf 16).sub=true:=by kernel_rfl
theorem p26:ak' (rowOf 26).sub=true:=by kernel_rfl
theorem alM:iD 232=some ⟨(iD 232).get!.args,[oB],0⟩/\iD 233=some ⟨(iD 233).get!.args,[oB],0⟩/\iD 168=some ⟨(iD 168).get!.args,[oB],0⟩:=⟨by kernel_rfl,by kernel_rfl,by kernel_rfl⟩
theorem al9:iD 18=some ⟨(iD 18).get!.args,[.one (.s 74 bY),oB],0⟩/\iD 264=some ⟨(iD 264).get!.args,[.agg [.c i6,.c i6,.c i6,.c i6]],0⟩:=⟨by kernel_rfl,by kernel_rfl⟩
theorem al1{C:List (List Int)}:C.take (List.replicate C.length [(0:Int)]).length++(List.replicate C.length [(0:Int)]).drop C.length=C:=by
 rw[List.length_replicate,List.take_length,List.drop_of_length_le (by simp),List.append_nil]
theorem alN{W H:Int}{C Z:List (List Int)}{rs:List DV}(hg:bK (TT Tryz.prog) X 135 [.i W,.i H,.l C,.l Z] rs):rs=[.i W,.i H,.l C,.l Z]:=by
 refine A1 (R:=fun rs=>rs=[DV.i W,.i H,.l C,.l Z]) amv ?_ hg
 refine akW fun _=>akW fun _=>akW fun _=>akW fun _=>ak3 (ak3 (ak3 (ak3 (Hs ?_))))
 show [DV.i W,DV.i H,DV.l (C.take (List.replicate ((C.length:Int)).toNat [(0:Int)]).length++(List.replicate ((C.length:Int)).toNat [(0:Int)]).drop C.length),DV.l (Z.take (List.replicate ((Z.length:Int)).toNat [(0:Int)]).length++(List.replicate ((Z.length:Int)).toNat [(0:Int)]).drop Z.length)]=_;simp only[Int.toNat_natCast,al1]
theorem al2(hX:oq X){W H x y:Int}{C Z:List (List Int)}{rs:List DV}(hg:bK (TT Tryz.prog) X 236 [.i W,.i H,.l C,.l Z,.i x,.i y] rs) :
   ∃c0 c1 c2 c3 z ok,rs=[.i c0,.i c1,.i c2,.i c3,.i z,.b ok]/\(ok=true↔(IntKind.u64.wrap x<IntKind.u64.wrap W/\IntKind.u64.wrap y<IntKind.u64.wrap H))/\(ok=true->z=cellAt Z (y*W+x) 0):=by
 refine A1 (R:=fun rs=>∃c0 c1 c2 c3 z ok,rs=[DV.i c0,.i c1,.i c2,.i c3,.i z,.b ok]/\(ok=true↔(IntKind.u64.wrap x<IntKind.u64.wrap W/\IntKind.u64.wrap y<IntKind.u64.wrap H))/\(ok=true->z=cellAt Z (y*W+x) 0)) amw ?_ hg
 have cnd:BE.ae (aM.ar 0 [.i W,.i H,.l C,.l Z,.i x,.i y]) (.and (.lt (.wrap .u64 (.v 4)) (.wrap .u64 (.v 0))) (.lt (.wrap .u64 (.v 5)) (.wrap .u64 (.v 1))))=(decide (IntKind.u64.wrap x<IntKind.u64.wrap W)&&decide (IntKind.u64.wrap y<IntKind.u64.wrap H)):=rfl;refine alO (fun h=>?_) (fun h=>?_)
 . refine Hs ⟨0,0,0,0,0,false,rfl,?_,fun h=>by cases h⟩
   rw[cnd]at h;refine⟨fun h=>(by cases h),fun h'=>?_⟩
   rw[decide_eq_true h'.1,decide_eq_true h'.2]at h;cases h
 . rw[cnd,ao,aC,aC]at h;refine akW fun _=>akW fun _=>akW fun _=>akW fun _=>akW fun _=>Mv fun r g=>?_
   have:=hX.kd 264 _ _ _ al9.2 (alh hX amy g);obtain⟨c0,r0,rfl,k0⟩:=dz this;obtain⟨c1,r1,rfl,k1⟩:=dz k0;obtain⟨c2,r2,rfl,k2⟩:=dz k1;obtain⟨c3,r3,rfl,k3⟩:=dz k2;obtain rfl:=iF k3;refine Hs ⟨c0,c1,c2,c3,cellAt Z (y*W+x) 0,true,rfl,⟨fun _=>h,fun _=>rfl⟩,fun _=>rfl⟩
theorem alP{z o:Int}{rs:List DV}(hg:bK (TT Tryz.prog) X 262 [.i 1,.i z,.i o] rs):rs=[.b (decide (z<o))]:=by
 refine A1 (R:=fun rs=>rs=[DV.b (decide (z<o))]) amx ?_ hg
 refine alq ?_ (alq rfl (alH rfl (Hs rfl)));show decide ((7:Int)<IntKind.u64.wrap 1)=false;rfl
theorem amo(hX:oq X):alw (fun g=>bK (TT Tryz.prog) X ((⟨19,t19,(rowOf 19).sub⟩:gR).key g)):=by
 have Hz:∀ {g ds rs},bK (TT Tryz.prog) X ((⟨19,t19,(rowOf 19).sub⟩:gR).key g) ds rs->bK (TT Tryz.prog) X g ds rs:=fun hg=>alh hX p19 hg
 have one:∀k s,iD k=some s->bD s.res=[.c .b]->∀ds rs,bK (TT Tryz.prog) X k ds rs->∃b,rs=[.b b]:=fun k s hs hc ds rs hg=>by
   have:=hX.kd k s ds rs hs hg;rw[hc]at this;obtain⟨b,r,rfl,h⟩:=aa0 this;obtain rfl:=iF h;exact⟨b,rfl⟩
 refine⟨fun k ds rs dW h h'=>h.AR h',?_,?_,fun W H C Z rs h=>alN (Hz h),fun W H C Z x y rs h=>al2 hX (Hz h),fun z o rs h=>alP (Hz h)⟩
 . rintro k (rfl|rfl|rfl) ds rs h
   . exact one _ _ alM.1 rfl _ _ (Hz h)
   . exact one _ _ alM.2.1 rfl _ _ (Hz h)
   . exact one _ _ alM.2.2 rfl _ _ (Hz h)
 . intro ds rs h;have:=hX.kd 18 _ _ _ al9.1 (Hz h);obtain⟨o,r0,rfl,k0⟩:=F5 this;obtain⟨w,r1,rfl,k1⟩:=aa0 k0;obtain rfl:=iF k1;exact⟨o,w,rfl⟩
theorem alQ{W H:Int}{C Z:List (List Int)}{rs:List DV}(hg:bK (TT Tryz.prog) X 26 [.i W,.i H,.l C,.l Z,.i W,.i H,.l C,.l Z] rs):rs=[.b true]:=by
 refine A1 (R:=fun rs=>rs=[DV.b true]) T26 ?_ hg
 obtain⟨e,he⟩:∃e,e=aM.ar 0 [.i W,.i H,.l C,.l Z,.i W,.i H,.l C,.l Z]:=⟨_,rfl⟩;have v:∀k,k<8->e k=[DV.i W,.i H,.l C,.l Z,.i W,.i H,.l C,.l Z].getD k (.i 0):=fun k hk=>by rw[he];exact jC hk
 have v0:=v 0 (by decide);have v1:=v 1 (by decide);have v2:=v 2 (by decide);have v3:=v 3 (by decide);have v4:=v 4 (by decide);have v5:=v 5 (by decide);have v6:=v 6 (by decide);have v7:=v 7 (by decide)
 simp only[List.getD_cons_zero,List.getD_cons_succ]at v0 v1 v2 v3 v4 v5 v6 v7;rw[<- he];refine alq (by simp only[BE.ae,IE.ae,v0,v1,v2,v3,v4,v5,v6,v7];simp) (akY (fun vs=>∃(b:Bool) (i:Int),vs=[.b b,.i i]) ⟨false,0,rfl⟩ ?_)
 rintro _ ⟨b,i,rfl⟩;obtain⟨e1,nc,o1,w1⟩:=nxt e 10 [.b b,.i i];rw[<- nc];refine Mw (fun _=>akW fun _=>akW fun _=>alq ?_ (akW fun _=>akT ⟨_,_,rfl⟩)) (fun _=>?_)
 . simp only[BE.ae,IE.ae,o1 2 (by omega),o1 6 (by omega),v2,v6];simp
 refine akY (fun vs=>∃(b:Bool) (i:Int),vs=[.b b,.i i]) ⟨_,_,rfl⟩ ?_
 rintro _ ⟨b,i,rfl⟩;obtain⟨e2,tz,o2,w2⟩:=nxt e1 12 [.b b,.i i];rw[<- tz];refine Mw (fun _=>akW fun _=>akW fun _=>alq ?_ (akW fun _=>akT ⟨_,_,rfl⟩)) (fun _=>Hs rfl)
 simp only[BE.ae,IE.ae,o2 3 (by omega),o2 7 (by omega),o1 3 (by omega),o1 7 (by omega),v3,v7];simp
theorem alA(hX:oq X){W H:Int}{C Z:List (List Int)}{rs:List DV}(hg:bK (TT Tryz.prog) X 16 [.i W,.i H,.l C,.l Z,.i W,.i H,.l C,.l Z] rs):rs=[.b true]:=by
 refine A1 (R:=fun rs=>rs=[DV.b true]) T16 ?_ hg
 refine Mv fun r g=>?_
 have g:bK (TT Tryz.prog) X ((⟨16,t16,(rowOf 16).sub⟩:gR).key 26) [.i W,.i H,.l C,.l Z,.i W,.i H,.l C,.l Z] r:=g;obtain rfl:=alQ (alh hX p16 g);exact Hs rfl
end
end Go.Proofs.YtohebioanhliiaaGreatDoor.aD
namespace Go.Proofs.YtohebioanhliiaaGreatDoor.aD
open Go.Sx Go
variable {X:bA}
def z17z(k i:Nat):Bool:=!(((Nat.beq k 18||(Nat.beq k 28||Nat.beq k 29))&&(Nat.beq i 3||Nat.beq i 4))||(Nat.beq k 41&&(Nat.beq i 2||Nat.beq i 3)))
theorem amz:yz (TT Tryz.prog) z17z 94 18=true:=by
 unfold yz;rw[T18];kernel_rfl
theorem amA:yz (TT Tryz.prog) z17z 94 28=true:=by kernel_rfl
theorem amB:yz (TT Tryz.prog) z17z 94 29=true:=by kernel_rfl
theorem amC:yz (TT Tryz.prog) z17z 4 41=true:=by kernel_rfl
theorem amf:∀x∈[(94,18),(94,28),(94,29),(4,41)],yz (TT Tryz.prog) z17z x.1 x.2=true:=by
 intro x hx;simp only[bq,List.not_mem_nil,or_false]at hx;rcases hx with rfl|rfl|rfl|rfl
 . exact amz
 . exact amA
 . exact amB
 . exact amC
theorem amg:∀x∈[(94,18),(94,28),(94,29),(4,41)],∀i,x.1<=i->z17z x.2 i=true:=by
 intro x hx i hi;simp only[bq,List.not_mem_nil,or_false]at hx;rcases hx with rfl|rfl|rfl|rfl
 all_goals
   have hi:_<=i:=hi;unfold z17z;simp only[alm (show i≠3 by omega)]
   first|(simp only[alm (show i≠4 by omega)];rfl)|(simp only[alm (show i≠2 by omega)];rfl)|(simp only[alm (show i≠2 by omega)];simp)
theorem amh(k:Nat):(∀i,z17z k i=true)\/∃n,(n,k)∈[(94,18),(94,28),(94,29),(4,41)]:=by
 by_cases h:k=18\/k=28\/k=29
 . exact .inr ⟨94,by rcases h with rfl|rfl|rfl<;>simp⟩
 . by_cases h':k=41
   . exact .inr ⟨4,by subst h';simp⟩
   . refine .inl fun i=>?_
     unfold z17z;rw[alm (fun e=>h (.inl e)),alm (fun e=>h (.inr (.inl e))),alm (fun e=>h (.inr (.inr e))),alm h']
     rfl
theorem alB{st aZ rs:List DV}(hl:st.length=aZ.length)(h:∀i,i≠3->i≠4->st[i]?=aZ[i]?)(hg:bK (TT Tryz.prog) X 18 st rs):bK (TT Tryz.prog) X 18 aZ rs:=by
 refine FV amf amg amh ⟨hl,fun i hi=>?_⟩ hg
 refine h i ?_ ?_
 . rintro rfl;cases hi
 . rintro rfl;cases hi
theorem ali{d:DV}{a:A}:∀ {al:List A} {ds:List DV} {i:Nat},kT al ds->al[i]?=some a->a.has d->kT al (ds.set i d):=by
 intro al;induction al with
 |nil=>intro ds i h e;cases e
 | cons x al ih=>
   intro ds i h e ha;cases ds with
   |nil=>exact h.elim
   | cons y ds=>
     cases i with
     |zero=>cases e;exact⟨ha,h.2⟩
     |succ i=>exact⟨h.1,ih h.2 e ha⟩
def alx(b:Nat):List DE:=pA.zipIdx.map fun x=>match x.1 with
 |.i _ _=>.i (.v (b+x.2))
 |.b=>.b (.v (b+x.2))
 |_=>.l (b+x.2)
theorem xQ{st:List DV}{i j:Nat}{d:DV}(h:j≠i):(st.set i d).getD j (.i 0)=st.getD j (.i 0):=by
 simp only[cH];rw[List.getElem?_set_ne (Ne.symm h)]
theorem ak8{st:List DV}{i:Nat}{d:DV}(h:i<st.length):(st.set i d).getD i (.i 0)=d:=by
 simp only[cH];rw[List.getElem?_set_self h];rfl
def less(st:List DV):List DV:=((st.set 84 (.b true)).set 85 (.i 1)).set 86 (.b true)
theorem alc{st:List DV}{j:Nat}(h:j≠84/\j≠85/\j≠86):(less st).getD j (.i 0)=st.getD j (.i 0):=by
 unfold less;rw[xQ h.2.2,xQ h.2.1,xQ h.1]
theorem eZ.less{st:List DV}(h:eZ st):eZ (less st):=by
 have h1:=ali (ali (ali h.has (i:=84) (a:=.b) (d:=.b true) (by kernel_rfl) trivial) (i:=85) (a:=.i mn mx) (d:=.i 1) (by kernel_rfl) ⟨by decide,by decide⟩) (i:=86) (a:=.b) (d:=.b true) (by kernel_rfl) trivial
 refine⟨h1,?_,?_,?_⟩
 . unfold sD sh;rw[alc (by omega),alc (by omega),alc (by omega)];exact h.c3
 . unfold sD sh;rw[alc (by omega),alc (by omega),alc (by omega)];exact h.c4
 . unfold sD;rw[alc (by omega),alc (by omega)];exact h.c60
def ak7(st:List DV)(C Z:List (List Int)):List DV:=(st.set 3 (.l C)).set 4 (.l Z)
theorem alb{st:List DV}{C Z:List (List Int)}{j:Nat}(h:j≠3/\j≠4):(ak7 st C Z).getD j (.i 0)=st.getD j (.i 0):=by
 unfold ak7;rw[xQ h.2,xQ h.1]
theorem eZ.img{st:List DV}(h:eZ st){C Z:List (List Int)}(hC:A.has (.l 0 (some 10000) [cI]) (.l C))(z16z:A.has (.l 0 (some 10000) [cI]) (.l Z))(c:(C.length:Int)=sh st 1*sh st 2)(z:(Z.length:Int)=sh st 1*sh st 2):eZ (ak7 st C Z):=by
 have hl:=h.len;refine⟨ali (ali h.has (i:=3) (a:=.l 0 (some 10000) [cI]) (by kernel_rfl) hC) (i:=4) (a:=.l 0 (some 10000) [cI]) (by kernel_rfl) z16z,?_,?_,?_⟩
 . unfold sD sh;rw[alb (j:=1) (by omega),alb (j:=2) (by omega)];unfold ak7;rw[xQ (j:=3) (i:=4) (by omega),ak8 (i:=3) (by omega)];exact c
 . unfold sD sh;rw[alb (j:=1) (by omega),alb (j:=2) (by omega)];unfold ak7;rw[ak8 (i:=4) (by simp;omega)];exact z
 . unfold sD;rw[alb (by omega),alb (by omega)];exact h.c60
theorem alj{st:List DV}(h:eZ st):j7.map (DE.ae (aM.ar 0 st))=st:=by
 have hl:=h.len;exact lW (b:=0) h.has (fun j hj=>by rw[Nat.zero_add];exact jC hj) (by kernel_rfl)
theorem amp{E:Nat->List DV->List DV->Prop}(AR:∀k ds rs dW,E k ds rs->E k ds dW->rs=dW)(same:∀ {st aZ rs:List DV},st.length=aZ.length->(∀i,i≠3->i≠4->st[i]?=aZ[i]?)->E 18 st rs->E 18 aZ rs)
   {st:List DV} (hP:eZ st) {W H W' z18z:Int} {C Z C' z23z:List (List Int)} (hP':eZ (ak7 st C Z)) (h1:R19 E st [.i W,.i H,.l C,.l Z]) (h2:R19 E (ak7 st C Z) [.i W',.i z18z,.l C',.l z23z]):C'=C/\z23z=Z:=by
 have hl:=hP.len;obtain⟨out,w,z15z,z19z,g1,e1,low,_⟩:=h1;obtain⟨kF,w',z22z,z20z,g2,e2,_,z21z⟩:=h2;injection e1 with _ e1;injection e1 with _ e1;injection e1 with a1 e1;injection e1 with a2 _;injection a1 with a1;injection a2 with a2;injection e2 with _ e2;injection e2 with _ e2;injection e2 with b1 e2;injection e2 with b2 _;injection b1 with b1;injection b2 with b2;subst a1 a2 b1 b2;rw[alj hP]at g1;rw[alj hP']at g2;have g:=AR _ _ _ _ (same (aZ:=ak7 st C Z) (by simp[ak7]) (fun i h3 h4=>by unfold ak7;rw[List.getElem?_set_ne (Ne.symm h4),List.getElem?_set_ne (Ne.symm h3)]) g1) g2
 injection g with g _;injection g with g;subst g;obtain⟨a,ha⟩:∃a,aM.ar 0 st=a:=⟨_,rfl⟩;obtain⟨b,hb⟩:∃b,aM.ar 0 (ak7 st C Z)=b:=⟨_,rfl⟩;rw[ha]at low;rw[hb]at z21z;have tu:(ak7 st C Z).length=94:=by simp[ak7,hl]
 have o:∀k,k<94->k≠3->k≠4->b k=a k:=fun k hk h3 h4=>by rw[<- ha,<- hb,jC (by omega),jC (by omega),alb ⟨h3,h4⟩]
 have b3:b 3 = .l C:=by rw[<- hb,jC (by omega)];unfold ak7;rw[xQ (by omega),ak8 (by omega)]
 have b4:b 4 = .l Z:=by rw[<- hb,jC (by omega)];unfold ak7;rw[ak8 (by simp;omega)]
 have ops:alk.map (DE.ae b)=alk.map (DE.ae a):=List.map_congr_left fun d hd=>DE.Ci (p:=fun k=>Nat.ble 79 k&&Nat.ble k 93) (fun k hk=>by
   rw[ao]at hk;have h1:=Nat.le_of_ble_eq_true hk.1;have h2:=Nat.le_of_ble_eq_true hk.2;exact o k (by omega) (by omega) (by omega)) (List.all_eq_true.1 (show alk.all (DE.all fun k=>Nat.ble 79 k&&Nat.ble k 93)=true by kernel_rfl) d hd)
 have amD:Low E b out out.length Z:=fun j hj he=>by
   have Ft:alz E a (out.getD j []):=by
     obtain⟨q1,q2,q3,q4⟩:=he;rw[ops]at q1;rw[o 79 (by omega) (by omega) (by omega),o 80 (by omega) (by omega) (by omega),o 81 (by omega) (by omega) (by omega),o 82 (by omega) (by omega) (by omega),o 83 (by omega) (by omega) (by omega)]at q3
     rw[o 1 (by omega) (by omega) (by omega),o 2 (by omega) (by omega) (by omega)]at q4
     exact⟨q1,q2,q3,q4⟩
   have:=low j hj Ft;unfold zOf at this ⊢;rw[o 1 (by omega) (by omega) (by omega)]
   exact this
 have:=z21z (by rw[b4];exact amD)
 rw[b3,b4]at this;exact⟨this.2,this.1⟩
end Go.Proofs.YtohebioanhliiaaGreatDoor.aD
namespace Go.Proofs.YtohebioanhliiaaGreatDoor.aD
open Go.Sx Go
theorem alR:(kc 19).args=pA:=by kernel_rfl
theorem al3:(kc 19).pre=qX 0++[.v 58]:=by kernel_rfl
theorem al4:(kc 19).res=[.i 0 100,.i 0 100,.l 0 (some 10000) [cI],.l 0 (some 10000) [cI]]:=by kernel_rfl
theorem alS:(kc 19).post=[.eq (.len (R0+2)) (.mul (rr 0) (rr 1)),.eq (.len (R0+3)) (.mul (rr 0) (rr 1))]:=by kernel_rfl
theorem al5{st:List DV}(h:eZ st)(ho:pbool st 58=true):(kc 19).fS st:=by
 refine⟨by rw[alR];exact h.has,?_⟩
 have hl:=h.len;rw[al3];intro p hp;rcases List.mem_append.1 hp with hp|hp
 . have:=(alu h).2;rw[aly]at this;exact this p hp
 . obtain rfl:p = .v 58:=by simpa using hp
   show(aM.ar 0 st 58).bool=true;rw[jC (by omega)]
   exact ho
theorem al6{st:List DV}(h:eZ st){out:List (List Int)}{w:Bool}(hg:bK (TT Tryz.prog) XF 18 st [.l out,.b w]):∀r∈out,∀j,j<2->-9223372036854775808<=r.getD j 0/\r.getD j 0<=9223372036854775807:=by
 obtain⟨rs,g,q,_⟩:=g18 Gf WU st (alu h);cases hg.AR g;have:=q.1;rw[abu]at this;intro r hr j hj;have h1:=FH (this.1.2.2 r hr) (j:=j) (x:=mn) (y:=mx) (by
   match j,hj with
   |0,_=>rfl
   |1,_=>rfl)
 rw[Nat.zero_add]at h1;exact h1
theorem alT{st:List DV}(hP:eZ st)(ho:pbool st 58=true)(h84:pbool st 84=true)(h85:sh st 85=1)(h86:pbool st 86=true) :
   ∃C Z,bK (TT Tryz.prog) XF 19 st [.i (sh st 1),.i (sh st 2),.l C,.l Z]/\R19 (fun g=>bK (TT Tryz.prog) XF ((⟨19,t19,(rowOf 19).sub⟩:gR).key g)) st [.i (sh st 1),.i (sh st 2),.l C,.l Z]/\eZ (ak7 st C Z):=by
 have hl:=hP.len;obtain⟨rs,g,q1,q2⟩:=av au Nt c19 st (al5 hP ho);have a:∀j,j<94->aM.ar 0 st j=st.getD j (.i 0):=fun j hj=>jC (by omega)
 have bnd:∀j,j=1\/j=2->0<=(aM.ar 0 st j).int/\(aM.ar 0 st j).int<=100:=fun j hj=>by
   obtain⟨d,hd,ha⟩:=hP.has.at (i:=j) (a:=.i 0 100) (by rcases hj with rfl|rfl<;>kernel_rfl)
   rw[a j (by omega),cH,hd]
   cases d with
   |i n=>exact ha
   |_=>exact ha.elim
 have hR:=A1 (R:=R19 (fun g=>bK (TT Tryz.prog) XF ((⟨19,t19,(rowOf 19).sub⟩:gR).key g)) st) T19 (amn (amo Gf) rfl (bnd 1 (.inl rfl)) (bnd 2 (.inr rfl)) (by rw[a 84 (by omega)];exact h84) (by rw[a 85 (by omega)];exact h85) (by rw[a 86 (by omega)];exact h86) (fun out w hg=>by
   rw[alj hP]at hg;exact al6 hP (alh Gf p19 hg))) g
 obtain⟨out,w,Z,C,r1,rfl,r3⟩:=hR;rw[a 1 (by omega),a 2 (by omega)]at *
 refine⟨C,Z,g,⟨out,w,Z,C,r1,?_,r3⟩,?_⟩
 . rw[a 1 (by omega),a 2 (by omega)];rfl
 rw[al4]at q1;rw[alS]at q2;have e:∀j,j<4->fK st [.i (st.getD 1 (.i 0)).int,.i (st.getD 2 (.i 0)).int,.l C,.l Z] (R0+j)=[DV.i (st.getD 1 (.i 0)).int,.i (st.getD 2 (.i 0)).int,.l C,.l Z].getD j (.i 0):=fun j hj=>kX (by simpa using hj)
 refine hP.img q1.2.2.1 q1.2.2.2.1 ?_ ?_
 . have:=of_decide_eq_true (q2 _ (aO ..));simp only[IE.ae,rr,e 2 (by omega),e 0 (by omega),e 1 (by omega)]at this
   exact this
 . have:=of_decide_eq_true (q2 _ (bp _ (aO ..)));simp only[IE.ae,rr,e 3 (by omega),e 0 (by omega),e 1 (by omega)]at this
   exact this
theorem alU:alL=(((alx 1).set 84 (.b (.c true))).set 85 (.i (.c 1))).set 86 (.b (.c true)):=by kernel_rfl
theorem alC:alv=(((((((alx 1).set 84 (.b (.c true))).set 85 (.i (.c 1))).set 86 (.b (.c true))).set 1 (.i (.v 97))).set 2 (.i (.v 98))).set 3 (.l 99)).set 4 (.l 100):=by kernel_rfl
theorem alg{st:List DV}{j:Nat}{d:DV}(h:j<st.length)(e:st.getD j (.i 0)=d):st.set j d=st:=by
 subst e;refine List.ext_getElem? fun i=>?_
 by_cases hi:j=i
 . subst hi;rw[List.getElem?_set_self h,cH,dJ h];rfl
 . rw[List.getElem?_set_ne hi]
theorem alV{st:List DV}(hP:eZ st){j:Nat}{lo hi:Int}(h:pA[j]?=some (.i lo hi)):st.getD j (.i 0) = .i (sh st j):=by
 obtain⟨d,hd,ha⟩:=hP.has.at h;unfold sh;rw[cH,hd];cases d with
 |i n=>rfl
 |_=>exact ha.elim
theorem alW:(kc 16).args=[.i mn mx,.i mn mx,.l 0 (some 1099511627776) [cI],.l 0 (some 1099511627776) [cI],.i mn mx,.i mn mx,.l 0 (some 1099511627776) [cI],.l 0 (some 1099511627776) [cI]]:=by kernel_rfl
theorem al7:(kc 16).pre=[]:=by kernel_rfl
theorem alX{W H:Int}{C Z:List (List Int)}(hW:mn<=W/\W<=mx)(hH:mn<=H/\H<=mx)(hC:A.has (.l 0 (some 10000) [cI]) (.l C))(z16z:A.has (.l 0 (some 10000) [cI]) (.l Z)):bK (TT Tryz.prog) XF 16 [.i W,.i H,.l C,.l Z,.i W,.i H,.l C,.l Z] [.b true]:=by
 have wide:∀ {D},A.has (.l 0 (some 10000) [cI]) (.l D)->A.has (.l 0 (some 1099511627776) [cI]) (.l D):=fun h=>⟨h.1,fun y hy=>by cases hy;have:=h.2.1 _ rfl;omega,h.2.2⟩
 obtain⟨rs,g,_⟩:=Nt 16 (by decide) [.i W,.i H,.l C,.l Z,.i W,.i H,.l C,.l Z] ⟨by rw[alW];exact⟨hW,hH,wide hC,wide z16z,hW,hH,wide hC,wide z16z,trivial⟩,by rw[al7];intro p hp;cases hp⟩
 have:=alA Gf g;rw[this]at g;exact g
theorem g6:lH (TT Tryz.prog) XF 6 Bc (fun _ rs=>rs=[.b true]):=by
 refine kS z14z fun ds hp=>?_
 obtain⟨al8,agR,hlen,b,hb,hG⟩:=g17 abt ds hp;obtain⟨l,rfl,_⟩:=hp;unfold t6;refine iB (pre:=fun ds=>ds=[DV.l l]) (rel:=fun _ dW=>dW=al8) (fun ds h=>by subst h;exact⟨al8,agR,rfl⟩) rfl ?_
 intro dW _ rC;rw[rC];clear rC;obtain⟨e1,nc,_,g1⟩:=nxt (aM.ar 0 [DV.l l]) 1 al8;rw[<- nc];have g95:(e1 95).bool=b:=by rw[show e1 95=e1 (1+94)from rfl,g1 94 (by omega),hb];rfl
 refine rk (fun h=>?_) (fun h=>?_)
 . refine iB (pre:=fun ds=>ds=[]) (rel:=fun _ dW=>dW=[DV.b true]) (fun ds h=>by subst h;exact⟨_,Aw.MR,rfl⟩) rfl ?_
   rintro _ _ rfl;exact LW rfl
 have h:(e1 95).bool=true:=h;rw[g95]at h;subst h;obtain⟨hP,_,ho,_,_⟩:=hG l rfl rfl;obtain⟨st,dB⟩:∃st,al8.take 94=st:=⟨_,rfl⟩;rw[dB]at hP ho;have uz:=hP.len;have Qw:∀j,j<94->e1 (1+j)=st.getD j (.i 0):=fun j hj=>by
   rw[g1 j (by omega),<- dB]
   simp only[cH];rw[List.getElem?_take_of_lt hj]
 have hPl:=hP.less;have amG:(less st).length=94:=hPl.len;have e84:pbool (less st) 84=true:=by unfold pbool less;rw[xQ (by omega),xQ (by omega),ak8 (by omega)];rfl
 have e85:sh (less st) 85=1:=by unfold sh less;rw[xQ (by omega),ak8 (by simp;omega)];rfl
 have e86:pbool (less st) 86=true:=by unfold pbool less;rw[ak8 (by simp;omega)];rfl
 have hol:pbool (less st) 58=true:=by unfold pbool;rw[alc (by omega)];exact ho
 obtain⟨C,Z,Yf,hR1,hP2⟩:=alT hPl hol e84 e85 e86;have at1:=alV hPl (j:=1) (lo:=0) (hi:=100) (by kernel_rfl)
 have at2:=alV hPl (j:=2) (lo:=0) (hi:=100) (by kernel_rfl)
 have amE:pbool (ak7 (less st) C Z) 58=true:=by unfold pbool;rw[alb (by omega)];exact hol
 obtain⟨C',z23z,Yg,hR2,_⟩:=alT hP2 amE (by unfold pbool;rw[alb (by omega)];exact e84) (by unfold sh;rw[alb (by omega)];exact e85) (by unfold pbool;rw[alb (by omega)];exact e86)
 obtain⟨rfl,rfl⟩:=amp (fun _ _ _ _ h h'=>h.AR h') (fun hl h hg=>alB hl h hg) hPl hP2 hR1 hR2
 have w1:sh (ak7 (less st) C' z23z) 1=sh (less st) 1:=by unfold sh;rw[alb (by omega)]
 have w2:sh (ak7 (less st) C' z23z) 2=sh (less st) 2:=by unfold sh;rw[alb (by omega)]
 rw[w1,w2]at Yg;have pv:(alx 1).map (DE.ae e1)=st:=lW (b:=1) hP.has (fun j hj=>Qw j (by omega)) (by kernel_rfl)
 have a1:alL.map (DE.ae e1)=less st:=by
   rw[alU,List.map_set,List.map_set,List.map_set,pv];rfl
 refine iB (pre:=fun ds=>ds=less st) (rel:=fun _ dW=>dW=[.i (sh (less st) 1),.i (sh (less st) 2),.l C',.l z23z]) (fun ds h=>by subst h;exact⟨_,Yf,rfl⟩) a1 ?_
 rintro _ _ rfl;obtain⟨e2,tz,o2,v2⟩:=nxt e1 97 [.i (sh (less st) 1),.i (sh (less st) 2),.l C',.l z23z];rw[<- tz];refine iB (pre:=fun ds=>ds=[]) (rel:=fun _ dW=>dW=[DV.b true]) (fun ds h=>by subst h;exact⟨_,Aw.MR,rfl⟩) rfl ?_
 rintro _ _ rfl;obtain⟨e3,wm,o3,v3⟩:=nxt e2 102 [.b true];have Wn:e3 102 = .b true:=v3 0 (by simp)
 rw[<- wm];have u97:e3 97 = .i (sh (less st) 1):=by rw[o3 _ (by omega)];exact v2 0 (by simp)
 have u98:e3 98 = .i (sh (less st) 2):=by rw[o3 _ (by omega)];exact v2 1 (by simp)
 have u99:e3 99 = .l C':=by rw[o3 _ (by omega)];exact v2 2 (by simp)
 have akk:e3 100 = .l z23z:=by rw[o3 _ (by omega)];exact v2 3 (by simp)
 have pv3:(alx 1).map (DE.ae e3)=st:=lW (b:=1) hP.has (fun j hj=>by rw[o3 _ (by omega),o2 _ (by omega)];exact Qw j (by omega)) (by kernel_rfl)
 have a2:alv.map (DE.ae e3)=ak7 (less st) C' z23z:=by
   rw[alC,List.map_set,List.map_set,List.map_set,List.map_set,List.map_set,List.map_set,List.map_set,pv3];simp only[DE.ae,IE.ae,BE.ae,u97,u98,u99,akk,di,dl];show((((less st).set 1 _).set 2 _).set 3 _).set 4 _=_;rw[alg (by omega) at1,alg (by omega) at2]
   rfl
 refine akQ (pre:=fun ds=>ds=ak7 (less st) C' z23z) (rel:=fun _ dW=>dW=[.i (sh (less st) 1),.i (sh (less st) 2),.l C',.l z23z]) (fun ds h=>by subst h;exact⟨_,Yg,rfl⟩) (by show(e3 102).bool=true;rw[Wn];rfl) a2 ?_
 rintro _ _ rfl;obtain⟨e4,he4,o4,v4⟩:=nxt e3 1638 [.i (sh (less st) 1),.i (sh (less st) 2),.l C',.l z23z];have z0:e4 1638 = .i (sh (less st) 1):=v4 0 (by simp)
 have z1:e4 1639 = .i (sh (less st) 2):=v4 1 (by simp)
 have z2:e4 1640 = .l C':=v4 2 (by simp)
 have z3:e4 1641 = .l z23z:=v4 3 (by simp)
 rw[<- he4];have bnd:∀j,j=1\/j=2->mn<=sh (less st) j/\sh (less st) j<=mx:=fun j hj=>by
   obtain⟨d,hd,ha⟩:=hPl.has.at (i:=j) (a:=.i 0 100) (by rcases hj with rfl|rfl<;>kernel_rfl)
   unfold sh;rw[cH,hd];cases d with
   |i n=>have:0<=n/\n<=100:=ha;show mn<=n/\n<=mx;unfold mn mx;omega
   |_=>exact ha.elim
 have lst:∀j D,j=3\/j=4->(ak7 (less st) C' z23z).getD j (.i 0) = .l D->A.has (.l 0 (some 10000) [cI]) (.l D):=fun j D hj e=>by
   obtain⟨d,hd,ha⟩:=hP2.has.at (i:=j) (a:=.l 0 (some 10000) [cI]) (by rcases hj with rfl|rfl<;>kernel_rfl)
   rw[cH,hd]at e;have e:d = .l D:=e;rw[e]at ha;exact ha
 have hC:=lst 3 C' (.inl rfl) (by unfold ak7;rw[xQ (by omega),ak8 (by omega)])
 have z16z:=lst 4 z23z (.inr rfl) (by unfold ak7;rw[ak8 (by simp;omega)])
 refine akQ (pre:=fun ds=>ds=[.i (sh (less st) 1),.i (sh (less st) 2),.l C',.l z23z,.i (sh (less st) 1),.i (sh (less st) 2),.l C',.l z23z]) (rel:=fun _ dW=>dW=[DV.b true])
   (fun ds h=>by subst h;exact⟨_,alX (bnd 1 (.inl rfl)) (bnd 2 (.inr rfl)) hC z16z,rfl⟩) (by show(e4 102).bool=true;rw[o4 _ (by omega),Wn];rfl) ?_ ?_
 . simp only[List.map_cons,List.map_nil,DE.ae,IE.ae,z0,z1,z2,z3,o4 97 (by omega),o4 98 (by omega),o4 99 (by omega),o4 100 (by omega),u97,u98,u99,akk,di,dl]
 . rintro _ _ rfl;obtain⟨e5,he5,z6z,v5⟩:=nxt e4 2662 [.b true];have amq:e5 2662 = .b true:=v5 0 (by simp)
   rw[<- he5];refine LW ?_;simp only[List.map_cons,List.map_nil,DE.ae,BE.ae,amq,z6z 102 (by omega),o4 102 (by omega),Wn,db]
   rfl
end Go.Proofs.YtohebioanhliiaaGreatDoor.aD

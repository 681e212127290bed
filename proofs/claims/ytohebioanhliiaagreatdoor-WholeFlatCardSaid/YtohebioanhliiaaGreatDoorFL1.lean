/- What xint computes; what two pipes have alike. -/
import Derived.Test.YtohebioanhliiaaGreatDoorFZ1
set_option maxRecDepth 100000
set_option linter.unusedVariables false
set_option linter.unusedSimpArgs false
namespace Go.Proofs.YtohebioanhliiaaGreatDoor.aN
section
open Go.Sx Go
variable {X:bY}
variable{k:Nat}{s:List (FuncId×Nat)}{t:aA}
def gP(s:List (FuncId×Nat)):Bool:=s.all fun p=>Nat.beq p.2 999999
theorem aa'(h:gP s=true)(g:FuncId):(⟨k,t,s⟩:iU).key g=g\/(⟨k,t,s⟩:iU).key g=999999:=by
 show(match s.find? (fun p=>p.1==g)with
   |some p=>p.2
   |none=>g)=g\/(match s.find? (fun p=>p.1==g)with
   |some p=>p.2
   |none=>g)=999999
 cases hf:s.find? (fun p=>p.1==g)with
 |none=>exact .inl rfl
 |some p=>exact .inr (tm (mE.1 h p (xR hf)))
theorem aM(hX:HC X)(h:gP s=true){g:FuncId}{ds rs:List DV}(hg:cX (TT PP) X ((⟨k,t,s⟩:iU).key g) ds rs):cX (TT PP) X g ds rs:=by
 rcases aa' (k:=k) (t:=t) h g with e|e;rwa[e]at hg;rw[e]at hg;exact(HP hX.no hg).elim
theorem Rh:(kc 18).args=pA:=by kernel_rfl
theorem WL:(kc 18).pre=tZ 0:=by kernel_rfl
theorem BO{st:List DV}(h:gY st):(kc 18).il st:=by
 refine⟨by rw[Rh];exact h.has,?_⟩;have hl:=h.len;have ea:∀j,j<94->a8.au 0 st j=st.getD j (.i 0):=fun j hj=>fH (by omega);rw[WL];intro p hp;simp only[tZ,bC,gu,or_false,fR]at hp;rcases hp with rfl|rfl|rfl;simp only[BE.af,IE.af,ea 3 (by omega),ea 1 (by omega),ea 2 (by omega),aO];exact h.c3;simp only[BE.af,IE.af,ea 4 (by omega),ea 1 (by omega),ea 2 (by omega),aO];exact h.c4;simp only[BE.af,IE.af,ea 60 (by omega),ea 61 (by omega),aO];have:=h.c60;unfold sw at this;omega
section
variable {E:Nat->List DV->List DV->Prop}{R:List DV->Prop}{Ps:List (Int->Prop)}{ae:aF}{F:Nat->List DV->Prop}{t t':aA}
variable{id:Nat}{bM:List DE}{c:BE}
theorem bA{p:BE}(ht:p.af ae=true->t.par E R Ps ae F):(aA.ev (.aH p) t).par E R Ps ae F:=ht
theorem oX{op:ew}(ht:t.par E R Ps (ae.set id (.l (op.af ae))) F):(aA.ev (.b8 id op) t).par E R Ps ae F:=ht
theorem nq{entry:List DE}{ks:List CT}{base:Nat}{body:aA}(inv:List DV->Prop)(h0:inv (entry.map (DE.af ae)))
   (hb:∀ds,inv ds->body.par E R Ps (ae.au base ds) (kO F id inv)):(aA.loop id entry ks base body).par E R Ps ae F:=⟨inv,h0,hb⟩
theorem lC{G:List DV->Prop}(h:G (bM.map (DE.af ae))):(aA.again id bM).par E R Ps ae (kO F id G):=by
 simpa[aA.par,kO]using h
theorem mC{a b:IE}(h1:a.af ae<b.af ae->t.par E R Ps ae F)(h2:b.af ae<=a.af ae->t'.par E R Ps ae F):(aA.ite (.lt a b) t t').par E R Ps ae F:=
 eT (fun h=>h1 (jY h)) (fun h=>h2 (Int.not_lt.1 (Dc h)))
theorem FQ{a b:IE}(h1:a.af ae=b.af ae->t.par E R Ps ae F)(h2:a.af ae≠b.af ae->t'.par E R Ps ae F):(aA.ite (.eq a b) t t').par E R Ps ae F:=
 eT (fun h=>h1 (jY h)) (fun h=>h2 (Dc h))
theorem HF(hc:c.af ae=true)(h:t.par E R Ps ae F):(aA.ite c t t').par E R Ps ae F:=eT (fun _=>h) (fun h'=>by rw[hc]at h';cases h')
theorem vb(hc:c.af ae=false)(h:t'.par E R Ps ae F):(aA.ite c t t').par E R Ps ae F:=eT (fun h'=>by rw[hc]at h';cases h') (fun _=>h)
theorem abb{rs:List DV}(e:bM.map (DE.af ae)=rs)(h:R rs):(aA.ret bM).par E R Ps ae F:=by subst e;exact h
end
theorem yK(e:aF)(b:Nat)(ds:List DV):∃e':aF,e'=e.au b ds/\(∀k,k<b->e' k=e k)/\∀j,j<ds.length->e' (b+j)=ds.getD j (.i 0):=
 ⟨_,rfl,fun k hk=>aF.aT hk,fun j hj=>ny hj⟩
theorem HL(e:aF)(b:Nat)(d:DV):∃e':aF,e'=e.set b d/\(∀k,k<b->e' k=e k)/\e' b=d:=by
 refine⟨_,rfl,fun k hk=>?_,?_⟩;simp only[aF.set];rw[if_neg (by omega)];simp only[aF.set,if_pos]
theorem mP(n:Int):IntKind.u64.wrap n=n%18446744073709551616:=IntKind.wrap_u64 n
end
section
open Go.Sx Go
variable{d:DV}{st:List DV}
theorem K9{a:A}:∀ {al:List A} {ds:List DV} {i:Nat},nh al ds->al[i]?=some a->a.has d->nh al (ds.set i d):=by
 intro al;induction al with
 |nil=>intro ds i h e;cases e
 | cons x al ih=>
   intro ds i h e ha;cases ds with
   |nil=>exact h.elim
   | cons y ds=>
     cases i with
     |zero=>cases e;exact⟨ha,h.2⟩
     |succ i=>exact⟨h.1,ih h.2 e ha⟩
def Yw(b:Nat):List DE:=pA.zipIdx.map fun x=>match x.1 with
 |.i _ _=>.i (.v (b+x.2))
 |.b=>.b (.v (b+x.2))
 |_=>.l (b+x.2)
theorem lx{i j:Nat}(h:j≠i):(st.set i d).getD j (.i 0)=st.getD j (.i 0):=by
 simp only[cm];rw[List.getElem?_set_ne (Ne.symm h)]
theorem vy{i:Nat}(h:i<st.length):(st.set i d).getD i (.i 0)=d:=by
 simp only[cm];rw[List.getElem?_set_self h];rfl
theorem Ny(h:gY st):yI.map (DE.af (a8.au 0 st))=st:=by
 have hl:=h.len;exact mu (b:=0) h.has (fun j hj=>by rw[fR];exact fH hj) (by kernel_rfl)
end
section
open Go.Sx Go
variable{rs:List DV}{d x c y:Int}{k:Nat}{s:Int}
def t139:aA:=
.ret [.i (.wrap .u64 (.add (.wrap .u64 (.add (.wrap .u64 (.mul (.ediv (.v 0) 4294967296) (.ediv (.v 1) 4294967296))) (.ediv (.wrap .u64 (.add (.wrap .u64 (.mul (.ediv (.v 0) 4294967296) (.emod (.v 1) 4294967296))) (.ediv (.wrap .u64 (.mul (.emod (.v 0) 4294967296) (.emod (.v 1) 4294967296))) 4294967296))) 4294967296))) (.ediv (.wrap .u64 (.add (.emod (.wrap .u64 (.add (.wrap .u64 (.mul (.ediv (.v 0) 4294967296) (.emod (.v 1) 4294967296))) (.ediv (.wrap .u64 (.mul (.emod (.v 0) 4294967296) (.emod (.v 1) 4294967296))) 4294967296))) 4294967296) (.wrap .u64 (.mul (.emod (.v 0) 4294967296) (.ediv (.v 1) 4294967296))))) 4294967296))),.i (.wrap .u64 (.mul (.v 0) (.v 1)))]
theorem al1:TT PP 139=some ⟨139,t139,(rowOf 139).sub⟩:=by kernel_rfl
def t196:aA:=
.ite (.lt (.v 0) (.c 0)) (
.ret [.i (.wrap .u64 (.sub (.c 0) (.wrap .u64 (.v 0))))]) (
.ret [.i (.wrap .u64 (.v 0))])
theorem ad4:TT PP 196=some ⟨196,t196,(rowOf 196).sub⟩:=by kernel_rfl
def t197:aA:=
.ite (.v 2) (
.ev (.call 240 (.c true) [.i (.wrap .i64 (.v 0)),.i (.v 1)] [.agg [.c i6,.c (.i .u64)]] 5) (
.ret [.i (.v 5),.i (.v 6),.b (.or (.lt (.v 5) (.c 0)) (.and (.eq (.v 5) (.c 0)) (.eq (.v 6) (.c 0))))])) (
.ret [.i (.wrap .i64 (.v 0)),.i (.v 1),.b (.le (.c 0) (.wrap .i64 (.v 0)))])
theorem al2:TT PP 197=some ⟨197,t197,(rowOf 197).sub⟩:=by kernel_rfl
def t156:aA:=
.ev (.call 196 (.c true) [.i (.v 0)] [.one (.c (.i .u64))] 3) (
.ev (.call 196 (.c true) [.i (.v 1)] [.one (.c (.i .u64))] 4) (
.ev (.call 139 (.c true) [.i (.v 3),.i (.v 4)] [.one (.c (.i .u64)),.one (.c (.i .u64))] 5) (
.ev (.call 197 (.c true) [.i (.v 5),.i (.v 6),.b (.not (.iff (.lt (.v 0) (.c 0)) (.lt (.v 1) (.c 0))))] [.agg [.c i6,.c (.i .u64)],oB] 7) (
.ret [.i (.v 7),.i (.v 8)]))))
theorem al3:TT PP 156=some ⟨156,t156,(rowOf 156).sub⟩:=by kernel_rfl
def t240:aA:=
.ev (.call 266 (.c true) [.i (.c 0),.i (.v 1),.i (.c 0)] [.one (.c (.i .u64)),.one (.c (.i .u64))] 4) (
.ev (.call 266 (.c true) [.i (.c 0),.i (.wrap .u64 (.v 0)),.i (.v 5)] [.one (.c (.i .u64)),.one (.c (.i .u64))] 6) (
.ret [.i (.wrap .i64 (.v 6)),.i (.v 4)]))
theorem al4:TT PP 240=some ⟨240,t240,(rowOf 240).sub⟩:=by kernel_rfl
def t242:aA:=
.ev (.call 266 (.c true) [.i (.v 1),.i (.v 3),.i (.c 0)] [.one (.c (.i .u64)),.one (.c (.i .u64))] 7) (
.ev (.call 266 (.c true) [.i (.wrap .u64 (.v 0)),.i (.wrap .u64 (.v 2)),.i (.v 8)] [.one (.c (.i .u64)),.one (.c (.i .u64))] 9) (
.ite (.and (.not (.iff (.lt (.v 0) (.c 0)) (.lt (.v 2) (.c 0)))) (.not (.iff (.lt (.wrap .i64 (.v 9)) (.c 0)) (.lt (.v 0) (.c 0))))) (
.ret [.i (.c 0),.i (.c 0),.b (.c false)]) (
.ret [.i (.wrap .i64 (.v 9)),.i (.v 7),.b (.c true)])))
theorem al5:TT PP 242=some ⟨242,t242,(rowOf 242).sub⟩:=by kernel_rfl
def t214:aA:=
.ev (.call 243 (.c true) [.i (.v 1),.i (.v 3),.i (.c 0)] [.one (.c (.i .u64)),.one (.c (.i .u64))] 7) (
.ev (.call 243 (.c true) [.i (.wrap .u64 (.v 0)),.i (.wrap .u64 (.v 2)),.i (.v 8)] [.one (.c (.i .u64)),.one (.c (.i .u64))] 9) (
.ite (.and (.iff (.lt (.v 0) (.c 0)) (.lt (.v 2) (.c 0))) (.not (.iff (.lt (.wrap .i64 (.v 9)) (.c 0)) (.lt (.v 0) (.c 0))))) (
.ret [.i (.c 0),.i (.c 0),.b (.c false)]) (
.ret [.i (.wrap .i64 (.v 9)),.i (.v 7),.b (.c true)])))
theorem al6:TT PP 214=some ⟨214,t214,(rowOf 214).sub⟩:=by kernel_rfl
def t198:aA:=
.ite (.lt (.v 2) (.c 1)) (
.ret [.i (.c 0),.i (.c 0),.i (.c 0),.b (.c false)]) (
.ite (.lt (.v 0) (.c 0)) (
.ev (.call 240 (.c true) [.i (.v 0),.i (.v 1)] [.agg [.c i6,.c (.i .u64)]] 6) (
.ev (.aH (.sM (.wrap .u64 (.v 2)))) (
.ev (.call 241 (.c true) [.i (.tmod (.wrap .u64 (.v 6)) (.wrap .u64 (.v 2))),.i (.v 7),.i (.wrap .u64 (.v 2))] [.one (.c (.i .u64)),.one (.c (.i .u64))] 4104) (
.ite (.le (.c 0) (.v 0)) (
.ret [.i (.wrap .i64 (.wrap .u64 (.tdiv (.wrap .u64 (.v 6)) (.wrap .u64 (.v 2))))),.i (.v 4104),.i (.wrap .i64 (.v 4105)),.b (.c true)]) (
.ev (.call 240 (.c true) [.i (.wrap .i64 (.wrap .u64 (.tdiv (.wrap .u64 (.v 6)) (.wrap .u64 (.v 2))))),.i (.v 4104)] [.agg [.c i6,.c (.i .u64)]] 4107) (
.ite (.eq (.v 4105) (.c 0)) (
.ret [.i (.v 4107),.i (.v 4108),.i (.c 0),.b (.c true)]) (
.ev (.call 242 (.c true) [.i (.v 4107),.i (.v 4108),.i (.c 0),.i (.c 1)] [.agg [.c i6,.c (.i .u64)],oB] 4109) (
.ret [.i (.v 4109),.i (.v 4110),.i (.wrap .i64 (.wrap .u64 (.sub (.wrap .u64 (.v 2)) (.v 4105)))),.b (.c true)])))))))) (
.ev (.aH (.sM (.wrap .u64 (.v 2)))) (
.ev (.call 241 (.c true) [.i (.tmod (.wrap .u64 (.v 0)) (.wrap .u64 (.v 2))),.i (.v 1),.i (.wrap .u64 (.v 2))] [.one (.c (.i .u64)),.one (.c (.i .u64))] 4102) (
.ite (.le (.c 0) (.v 0)) (
.ret [.i (.wrap .i64 (.wrap .u64 (.tdiv (.wrap .u64 (.v 0)) (.wrap .u64 (.v 2))))),.i (.v 4102),.i (.wrap .i64 (.v 4103)),.b (.c true)]) (
.ev (.call 240 (.c true) [.i (.wrap .i64 (.wrap .u64 (.tdiv (.wrap .u64 (.v 0)) (.wrap .u64 (.v 2))))),.i (.v 4102)] [.agg [.c i6,.c (.i .u64)]] 4105) (
.ite (.eq (.v 4103) (.c 0)) (
.ret [.i (.v 4105),.i (.v 4106),.i (.c 0),.b (.c true)]) (
.ev (.call 242 (.c true) [.i (.v 4105),.i (.v 4106),.i (.c 0),.i (.c 1)] [.agg [.c i6,.c (.i .u64)],oB] 4107) (
.ret [.i (.v 4107),.i (.v 4108),.i (.wrap .i64 (.wrap .u64 (.sub (.wrap .u64 (.v 2)) (.v 4103)))),.b (.c true)]))))))))
theorem al7:TT PP 198=some ⟨198,t198,(rowOf 198).sub⟩:=by kernel_rfl
def t199:aA:=
.ite (.not (.eq (.ediv (.wrap .i64 (.v 1)) 9223372036854775808) (.v 0))) (
.ret [.i (.c 0),.b (.c false)]) (
.ret [.i (.wrap .i64 (.v 1)),.b (.c true)])
theorem al8:TT PP 199=some ⟨199,t199,(rowOf 199).sub⟩:=by kernel_rfl
def t200:aA:=
.ite (.lt (.v 0) (.c 0)) (
.ev (.call 240 (.c true) [.i (.v 0),.i (.v 1)] [.agg [.c i6,.c (.i .u64)]] 6) (
.ev (.call 196 (.c true) [.i (.v 2)] [.one (.c (.i .u64))] 8) (
.ev (.call 139 (.c true) [.i (.wrap .u64 (.v 6)),.i (.v 8)] [.one (.c (.i .u64)),.one (.c (.i .u64))] 9) (
.ev (.call 139 (.c true) [.i (.v 7),.i (.v 8)] [.one (.c (.i .u64)),.one (.c (.i .u64))] 11) (
.ev (.call 243 (.c true) [.i (.v 10),.i (.v 11),.i (.c 0)] [.one (.c (.i .u64)),.one (.c (.i .u64))] 13) (
.ite (.lt (.c 0) (.wrap .u64 (.add (.v 9) (.v 14)))) (
.ret [.i (.c 0),.i (.c 0),.b (.c false)]) (
.ev (.call 197 (.c true) [.i (.v 13),.i (.v 12),.b (.not (.iff (.lt (.v 0) (.c 0)) (.lt (.v 2) (.c 0))))] [.agg [.c i6,.c (.i .u64)],oB] 15) (
.ite (.not (.v 17)) (
.ret [.i (.c 0),.i (.c 0),.b (.c false)]) (
.ret [.i (.v 15),.i (.v 16),.b (.c true)]))))))))) (
.ev (.call 196 (.c true) [.i (.v 2)] [.one (.c (.i .u64))] 6) (
.ev (.call 139 (.c true) [.i (.wrap .u64 (.v 0)),.i (.v 6)] [.one (.c (.i .u64)),.one (.c (.i .u64))] 7) (
.ev (.call 139 (.c true) [.i (.v 1),.i (.v 6)] [.one (.c (.i .u64)),.one (.c (.i .u64))] 9) (
.ev (.call 243 (.c true) [.i (.v 8),.i (.v 9),.i (.c 0)] [.one (.c (.i .u64)),.one (.c (.i .u64))] 11) (
.ite (.lt (.c 0) (.wrap .u64 (.add (.v 7) (.v 12)))) (
.ret [.i (.c 0),.i (.c 0),.b (.c false)]) (
.ev (.call 197 (.c true) [.i (.v 11),.i (.v 10),.b (.not (.iff (.lt (.v 0) (.c 0)) (.lt (.v 2) (.c 0))))] [.agg [.c i6,.c (.i .u64)],oB] 13) (
.ite (.not (.v 15)) (
.ret [.i (.c 0),.i (.c 0),.b (.c false)]) (
.ret [.i (.v 13),.i (.v 14),.b (.c true)]))))))))
theorem ajM:TT PP 200=some ⟨200,t200,(rowOf 200).sub⟩:=by kernel_rfl
abbrev Gf(k:Nat)(ds rs:List DV):Prop:=cX (TT PP) XF k ds rs
def dp(v:Int):Int:=v/18446744073709551616
def eA(v:Int):Int:=v%18446744073709551616
abbrev gF(n:Int):Prop:=-9223372036854775808<=n/\n<=9223372036854775807
abbrev pU(n:Int):Prop:=-170141183460469231731687303715884105728<n/\n<170141183460469231731687303715884105728
theorem sx(n:Int):IntKind.i64.wrap n=(n+9223372036854775808)%18446744073709551616-9223372036854775808:=IntKind.wrap_i64 n
theorem abl:([139,196,197,155,156,240,242,214,216,198,199,201,200].all fun k=>gP (rowOf k).sub)=true:=by kernel_rfl
theorem hU(h:k∈[139,196,197,155,156,240,242,214,216,198,199,201,200]):gP (rowOf k).sub=true:=mE.1 abl k h
theorem Ll{ds:List DV}(hk:TT PP k=none)(h:Gf k ds rs):XF k ds=some rs:=by
 obtain⟨n,hn⟩:=h;cases n with
 |zero=>cases hn
 |succ n=>simpa only[ev,hk]using hn
theorem Lm(h:Gf 266 [.i x,.i y,.i c] rs):rs=[.i ((x+18446744073709551616-y-c)%18446744073709551616),.i (if x<y+c then 1 else 0)]:=by
 have h:BB [.i x,.i y,.i c]=some rs:=Ll Yl h;unfold BB at h;simp only at h;split at h;injection h with h;exact h.symm;cases h
theorem QU(h:Gf 243 [.i x,.i y,.i c] rs):rs=[.i ((x+y+c)%18446744073709551616),.i ((x+y+c)/18446744073709551616)]:=by
 have h:BA [.i x,.i y,.i c]=some rs:=Ll Yk h;unfold BA at h;simp only at h;split at h;injection h with h;exact h.symm;cases h
theorem BV{a:Int}(ha:pU a)(hg:Gf 240 [.i (dp a),.i (eA a)] rs):rs=[.i (dp (-a)),.i (eA (-a))]:=by
 refine bF (R:=fun rs=>rs=[DV.i (dp (-a)),.i (eA (-a))]) al4 ?_ hg;refine aY fun r1 g1=>?_;have g1:Gf 266 [.i 0,.i (eA a),.i 0] r1:=aM aX (hU (by simp)) g1;obtain rfl:=Lm g1;refine aY fun r2 g2=>?_;have g2:Gf 266 [.i 0,.i (IntKind.u64.wrap (dp a)),.i (if 0<eA a+0 then 1 else 0)] r2:=aM aX (hU (by simp)) g2;obtain rfl:=Lm g2;refine cj ?_;show [DV.i (IntKind.i64.wrap ((0+18446744073709551616-IntKind.u64.wrap (dp a)-(if 0<eA a+0 then 1 else 0))%18446744073709551616)),.i ((0+18446744073709551616-eA a-0)%18446744073709551616)]=_;rw[sx,mP];unfold dp eA;have e:∀p q r s:Int,p=r->q=s->[DV.i p,DV.i q]=[.i r,.i s]:=fun p q r s h1 h2=>by rw[h1,h2]
 refine e _ _ _ _ ?_ ?_;split<;>omega;omega
theorem Rw{p q r:Int}{b:Bool}(h1:p=r)(h2:q=s): [DV.i p,DV.i q,.b b]=[.i r,.i s,.b b]:=by rw[h1,h2]
theorem ad3{a b:Int}(ha:pU a)(hb:pU b)(OH:pU (a+b))(hg:Gf 214 [.i (dp a),.i (eA a),.i (dp b),.i (eA b)] rs):rs=[.i (dp (a+b)),.i (eA (a+b)),.b true]:=by
 refine bF (R:=fun rs=>rs=[DV.i (dp (a+b)),.i (eA (a+b)),.b true]) al6 ?_ hg;refine aY fun r1 g1=>?_;have g1:Gf 243 [.i (eA a),.i (eA b),.i 0] r1:=aM aX (hU (by simp)) g1;obtain rfl:=QU g1;refine aY fun r2 g2=>?_;have g2:Gf 243 [.i (IntKind.u64.wrap (dp a)),.i (IntKind.u64.wrap (dp b)),.i ((eA a+eA b+0)/18446744073709551616)] r2:=aM aX (hU (by simp)) g2;obtain rfl:=QU g2;have key:IntKind.i64.wrap ((IntKind.u64.wrap (dp a)+IntKind.u64.wrap (dp b)+(eA a+eA b+0)/18446744073709551616)%18446744073709551616)=dp (a+b):=by
   rw[sx,mP,mP];unfold dp eA;omega
 have Cs:(eA a+eA b+0)%18446744073709551616=eA (a+b):=by unfold eA;omega
 refine eT (fun hc=>?_) (fun _=>cj ?_);have hc:(((decide (dp a<0)==decide (dp b<0)) && !(decide (IntKind.i64.wrap ((IntKind.u64.wrap (dp a)+IntKind.u64.wrap (dp b)+(eA a+eA b+0)/18446744073709551616)%18446744073709551616)<0)==decide (dp a<0))))=true:=hc;rw[key]at hc;exfalso;simp only[ao,beq_iff_eq,nJ,beq_eq_false_iff_ne,ne_eq,decide_eq_decide]at hc;unfold dp at hc;omega;exact Rw key Cs
theorem afs{a b:Int}(ha:pU a)(hb:pU b)(OH:pU (a-b))(hg:Gf 242 [.i (dp a),.i (eA a),.i (dp b),.i (eA b)] rs):rs=[.i (dp (a-b)),.i (eA (a-b)),.b true]:=by
 refine bF (R:=fun rs=>rs=[DV.i (dp (a-b)),.i (eA (a-b)),.b true]) al5 ?_ hg;refine aY fun r1 g1=>?_;have g1:Gf 266 [.i (eA a),.i (eA b),.i 0] r1:=aM aX (hU (by simp)) g1;obtain rfl:=Lm g1;refine aY fun r2 g2=>?_;have g2:Gf 266 [.i (IntKind.u64.wrap (dp a)),.i (IntKind.u64.wrap (dp b)),.i (if eA a<eA b+0 then 1 else 0)] r2:=aM aX (hU (by simp)) g2;obtain rfl:=Lm g2;have key:IntKind.i64.wrap ((IntKind.u64.wrap (dp a)+18446744073709551616-IntKind.u64.wrap (dp b)-(if eA a<eA b+0 then 1 else 0))%18446744073709551616)=dp (a-b):=by
   rw[sx,mP,mP];unfold dp eA;split<;>omega
 have Cs:(eA a+18446744073709551616-eA b-0)%18446744073709551616=eA (a-b):=by unfold eA;omega
 refine eT (fun hc=>?_) (fun _=>cj ?_);have hc:((!(decide (dp a<0)==decide (dp b<0)) && !(decide (IntKind.i64.wrap ((IntKind.u64.wrap (dp a)+18446744073709551616-IntKind.u64.wrap (dp b)-(if eA a<eA b+0 then 1 else 0))%18446744073709551616)<0)==decide (dp a<0))))=true:=hc;rw[key]at hc;exfalso;simp only[ao,beq_iff_eq,nJ,beq_eq_false_iff_ne,ne_eq,decide_eq_decide]at hc;unfold dp at hc;omega;exact Rw key Cs
theorem FM{a:Int}(ha:gF a)(hg:Gf 199 [.i (dp a),.i (eA a)] rs):rs=[.i a,.b true]:=by
 refine bF (R:=fun rs=>rs=[DV.i a,.b true]) al8 ?_ hg;have key:IntKind.i64.wrap (eA a)=a:=by rw[sx];unfold eA;omega
 refine vb ?_ (cj ?_);show(!(decide (IntKind.i64.wrap (eA a)/9223372036854775808=dp a)))=false;rw[key,ja (by unfold dp;omega)];rfl;show [DV.i (IntKind.i64.wrap (eA a)),.b true]=_;rw[key]
theorem Rx{n:Int}(hn:gF n)(hg:Gf 196 [.i n] rs):rs=[.i n.natAbs]:=by
 refine bF (R:=fun rs=>rs=[DV.i n.natAbs]) ad4 ?_ hg;refine eT (fun hc=>cj ?_) (fun hc=>cj ?_);have hc:n<0:=jY hc;show [DV.i (IntKind.u64.wrap (0-IntKind.u64.wrap n))]=_;rw[mP,mP,show(0-n%18446744073709551616)%18446744073709551616=(n.natAbs:Int)by omega];have hc:¬ n<0:=Dc hc;show [DV.i (IntKind.u64.wrap n)]=_;rw[mP,show n%18446744073709551616=(n.natAbs:Int)by omega]
theorem abm{a b:Int}(ha:0<=a/\a<4294967296)(hb:0<=b/\b<4294967296)(hc:0<=c/\c<4294967296)(hd:0<=d/\d<4294967296){p q r:Int}(hp:p=a*c)(hq:q=a*d)(hr:r=b*c)(hs:s=b*d) :
   (((p%18446744073709551616+((q%18446744073709551616+(s%18446744073709551616)/4294967296)%18446744073709551616)/4294967296)%18446744073709551616)+((((q%18446744073709551616+(s%18446744073709551616)/4294967296)%18446744073709551616)%4294967296+r%18446744073709551616)%18446744073709551616)/4294967296)%18446744073709551616=(p*18446744073709551616+(q+r)*4294967296+s)/18446744073709551616:=by
 have m:∀ {x y:Int},0<=x/\x<4294967296->0<=y/\y<4294967296->0<=x*y/\x*y<=18446744065119617025:=fun {x y} hx hy=>by
   have h1:=qJ hx.1 hy.1;have h2:=zQ (show x<=4294967295 by omega) (show y<=4294967295 by omega) hy.1 (by omega);omega
 have h1:=m ha hc;have h2:=m ha hd;have h3:=m hb hc;have h4:=m hb hd
 rw[<- hp]at h1;rw[<- hq]at h2;rw[<- hr]at h3;rw[<- hs]at h4;clear hp hq hr hs;omega
theorem FL(hx:0<=x/\x<18446744073709551616)(hy:0<=y/\y<18446744073709551616)(hg:Gf 139 [.i x,.i y] rs):rs=[.i (dp (x*y)),.i (eA (x*y))]:=by
 refine bF (R:=fun rs=>rs=[DV.i (dp (x*y)),.i (eA (x*y))]) al1 ?_ hg;refine cj ?_;have ex:x=x/4294967296*4294967296+x%4294967296:=by omega
 have ey:y=y/4294967296*4294967296+y%4294967296:=by omega
 have e:x*y=(x/4294967296*(y/4294967296))*18446744073709551616+(x/4294967296*(y%4294967296)+x%4294967296*(y/4294967296))*4294967296+x%4294967296*(y%4294967296):=by
   conv=>lhs;rw[ex,ey]
   grind
 have h:=abm (a:=x/4294967296) (b:=x%4294967296) (c:=y/4294967296) (d:=y%4294967296) (by omega) (by omega) (by omega) (by omega) rfl rfl rfl rfl;rw[<- e]at h;have e2:∀p q r s:Int,p=r->q=s->[DV.i p,DV.i q]=[.i r,.i s]:=fun p q r s h1 h2=>by rw[h1,h2]
 refine e2 _ _ _ _ ?_ ?_;show IntKind.u64.wrap (IntKind.u64.wrap (IntKind.u64.wrap (x/4294967296*(y/4294967296))+(IntKind.u64.wrap (IntKind.u64.wrap (x/4294967296*(y%4294967296))+IntKind.u64.wrap (x%4294967296*(y%4294967296))/4294967296))/4294967296)+(IntKind.u64.wrap ((IntKind.u64.wrap (IntKind.u64.wrap (x/4294967296*(y%4294967296))+IntKind.u64.wrap (x%4294967296*(y%4294967296))/4294967296))%4294967296+IntKind.u64.wrap (x%4294967296*(y/4294967296))))/4294967296)=_;simp only[mP];exact h;show IntKind.u64.wrap (x*y)=_;rw[mP];rfl
theorem HI{v:Int}(h0:0<=v)(h1:v<170141183460469231731687303715884105728){m:Bool}(hg:Gf 197 [.i (dp v),.i (eA v),.b m] rs):rs=[.i (dp (if m then -v else v)),.i (eA (if m then -v else v)),.b true]:=by
 have w:IntKind.i64.wrap (dp v)=dp v:=by rw[sx];unfold dp;omega
 refine bF (R:=fun rs=>rs=[DV.i (dp (if m then -v else v)),.i (eA (if m then -v else v)),.b true]) al2 ?_ hg;refine eT (fun hc=>?_) (fun hc=>cj ?_);have hc:m=true:=hc;subst hc;refine aY fun r g=>?_;have g:Gf 240 [.i (IntKind.i64.wrap (dp v)),.i (eA v)] r:=aM aX (hU (by simp)) g;rw[w]at g;obtain rfl:=BV (by constructor<;>omega) g;refine cj ?_;show [DV.i (dp (-v)),.i (eA (-v)),.b (decide (dp (-v)<0)||(decide (dp (-v)=0)&&decide (eA (-v)=0)))]=_;have:(decide (dp (-v)<0)||(decide (dp (-v)=0)&&decide (eA (-v)=0)))=true:=by
   simp only[hZ,ao,aO];unfold dp eA;omega
 rw[this];rfl;have hc:m=false:=hc;subst hc;show [DV.i (IntKind.i64.wrap (dp v)),.i (eA v),.b (decide (0<=IntKind.i64.wrap (dp v)))]=_;rw[w,ja (by unfold dp;omega)];rfl
theorem HG{a b:Int}(ha:gF a)(hb:gF b)(hg:Gf 156 [.i a,.i b] rs):rs=[.i (dp (a*b)),.i (eA (a*b))]:=by
 refine bF (R:=fun rs=>rs=[DV.i (dp (a*b)),.i (eA (a*b))]) al3 ?_ hg;refine aY fun r1 g1=>?_;have g1:Gf 196 [.i a] r1:=aM aX (hU (by simp)) g1;obtain rfl:=Rx ha g1;refine aY fun r2 g2=>?_;have g2:Gf 196 [.i b] r2:=aM aX (hU (by simp)) g2;obtain rfl:=Rx hb g2;refine aY fun r3 g3=>?_;have g3:Gf 139 [.i a.natAbs,.i b.natAbs] r3:=aM aX (hU (by simp)) g3;obtain rfl:=FL (by omega) (by omega) g3;refine aY fun r4 g4=>?_;have g4:Gf 197 [.i (dp (a.natAbs*b.natAbs)),.i (eA (a.natAbs*b.natAbs)),.b (!(decide (a<0)==decide (b<0)))] r4:=aM aX (hU (by simp)) g4;have n0:(0:Int)<=(a.natAbs:Int)*b.natAbs:=qJ (by omega) (by omega);have n1:=zQ (show(a.natAbs:Int)<=9223372036854775808 by omega) (show(b.natAbs:Int)<=9223372036854775808 by omega) (by omega) (by omega);obtain rfl:=HI n0 (by omega) g4;refine cj ?_;have e:(if(!(decide (a<0)==decide (b<0)))=true then -((a.natAbs:Int)*b.natAbs)else(a.natAbs:Int)*b.natAbs)=a*b:=by
   by_cases h1:a<0<;>by_cases h2:b<0;rw[show(a.natAbs:Int) = -a by omega,show(b.natAbs:Int) = -b by omega];simp[h1,h2,Int.neg_mul,Int.mul_neg];rw[show(a.natAbs:Int) = -a by omega,show(b.natAbs:Int)=b by omega];simp[h1,h2,Int.neg_mul,Int.mul_neg];rw[show(a.natAbs:Int)=a by omega,show(b.natAbs:Int) = -b by omega];simp[h1,h2,Int.neg_mul,Int.mul_neg];rw[show(a.natAbs:Int)=a by omega,show(b.natAbs:Int)=b by omega];simp[h1,h2,Int.neg_mul,Int.mul_neg]
 show [DV.i (dp (if(!(decide (a<0)==decide (b<0)))=true then -((a.natAbs:Int)*b.natAbs)else(a.natAbs:Int)*b.natAbs)),DV.i (eA (if(!(decide (a<0)==decide (b<0)))=true then -((a.natAbs:Int)*b.natAbs)else(a.natAbs:Int)*b.natAbs))]=_;rw[e]
theorem div_pos{q r:Int}(hd:0<d)(e:x=q*d+r)(h0:0<=r)(h1:r<d):x/d=q/\x%d=r:=by
 have:=Int.ediv_emod_unique hd (a:=x) (q:=q) (r:=r);exact this.2 ⟨by rw[e,mY q d,Int.add_comm],h0,h1⟩
theorem aft{h l m:Int}(h0:0<=h)(h1:h<m)(m1:m<18446744073709551616)(l0:0<=l)(l1:l<18446744073709551616)(hg:Gf 241 [.i h,.i l,.i m] rs):rs=[.i ((h*18446744073709551616+l)/m),.i ((h*18446744073709551616+l)%m)]:=by
 obtain⟨fw,g,q⟩:=adx (X:=XF) rfl [.i h,.i l,.i m] ⟨h,l,m,rfl,h0,h1,m1,l0,l1⟩;cases hg.Ut g;exact q h l m rfl
theorem quot{a:Int}(a0:0<=a)(a1:a<170141183460469231731687303715884105728)(d1:1<=d)(d2:d<=9223372036854775807) :
   dp a/d=dp (a/d)/\(dp a%d*18446744073709551616+eA a)/d=eA (a/d)/\(dp a%d*18446744073709551616+eA a)%d=a%d/\0<=dp (a/d)/\dp (a/d)<9223372036854775808/\0<=eA (a/d)/\eA (a/d)<18446744073709551616/\0<=a%d/\a%d<d/\0<=a/d:=by
 have hw:0<=dp a/\dp a<9223372036854775808:=by unfold dp;omega
 have lw:0<=eA a/\eA a<18446744073709551616:=by unfold eA;omega
 have ea:a=dp a*18446744073709551616+eA a:=by unfold dp eA;omega
 have r0:=zG (dp a) (show d≠0 by omega);have r1:=ym (dp a) (show 0<d by omega);have e1:=Int.mul_ediv_add_emod (dp a) d;have y0:0<=dp a%d*18446744073709551616+eA a:=by omega
 have e2:=Int.mul_ediv_add_emod (dp a%d*18446744073709551616+eA a) d;have s0:=zG (dp a%d*18446744073709551616+eA a) (show d≠0 by omega);have s1:=ym (dp a%d*18446744073709551616+eA a) (show 0<d by omega);have t0:=uW y0 (show 0<=d by omega);have t1:(dp a%d*18446744073709551616+eA a)/d<18446744073709551616:=by
   refine Ez (by omega) ?_;have:=zQ (show dp a%d<=d-1 by omega) (Int.le_refl (18446744073709551616:Int)) (by omega) (by omega);have e:(d-1)*18446744073709551616=d*18446744073709551616-18446744073709551616:=by omega
   have e':18446744073709551616*d=d*18446744073709551616:=mY ..;omega
 have u0:=uW hw.1 (show 0<=d by omega);have u1:=Int.ediv_le_self d hw.1;obtain⟨q,hq⟩:∃q,(dp a%d*18446744073709551616+eA a)/d=q:=⟨_,rfl⟩;obtain⟨r,hr⟩:∃r,(dp a%d*18446744073709551616+eA a)%d=r:=⟨_,rfl⟩;obtain⟨p,hp⟩:∃p,dp a/d=p:=⟨_,rfl⟩;obtain⟨k,hk⟩:∃k,dp a%d=k:=⟨_,rfl⟩;rw[hq,hr,hk]at e2;rw[hp,hk]at e1;rw[hq]at t0 t1;rw[hr]at s0 s1;rw[hp]at u0 u1;have key:a=(p*18446744073709551616+q)*d+r:=by
   have e3:(p*18446744073709551616+q)*d+r=(d*p)*18446744073709551616+(d*q+r):=by grind
   rw[e3];omega
 obtain⟨v1,v2⟩:=div_pos (by omega) key s0 s1;rw[hp,hq,hr,v1,v2];unfold dp eA;unfold dp at u1 hw;omega
theorem QV{a:Int}(ha:pU a)(d1:1<=d)(d2:d<=9223372036854775807)(hg:Gf 198 [.i (dp a),.i (eA a),.i d] rs):rs=[.i (dp (a/d)),.i (eA (a/d)),.i (a%d),.b true]:=by
 refine bF (R:=fun rs=>rs=[DV.i (dp (a/d)),.i (eA (a/d)),.i (a%d),.b true]) al7 ?_ hg;have wd:IntKind.u64.wrap d=d:=by rw[mP];omega
 have four:∀p q r p' q' r':Int,p=p'->q=q'->r=r'->[DV.i p,DV.i q,DV.i r,DV.b true]=[.i p',.i q',.i r',.b true]:=fun p q r p' q' r' h1 h2 h3=>by rw[h1,h2,h3]
 refine vb (by show decide (d<1)=false;exact decide_eq_false (by omega)) (eT (fun hc=>?_) (fun hc=>?_));have hc:dp a<0:=jY hc;have an:a<0:=by unfold dp at hc;omega
 refine aY fun r1 g1=>?_;have g1:Gf 240 [.i (dp a),.i (eA a)] r1:=aM aX (hU (by simp)) g1;obtain rfl:=BV ha g1;obtain⟨k1,k2,k3,k4,k5,k6,k7,k8,k9,k10⟩:=quot (a:=-a) (by omega) (by omega) d1 d2;have wn:IntKind.u64.wrap (dp (-a))=dp (-a):=by rw[mP];unfold dp;omega
 have iO:0<=dp (-a):=by unfold dp;omega
 have ln:0<=eA (-a)/\eA (-a)<18446744073709551616:=by unfold eA;omega
 refine bA fun _=>aY fun r2 g2=>?_;have g2:Gf 241 [.i ((IntKind.u64.wrap (dp (-a))).tmod (IntKind.u64.wrap d)),.i (eA (-a)),.i (IntKind.u64.wrap d)] r2:=aM aX (hU (by simp)) g2;rw[wn,wd,Int.tmod_eq_emod_of_nonneg iO]at g2;obtain rfl:=aft (zG _ (by omega)) (ym _ (by omega)) (by omega) ln.1 ln.2 g2;rw[k2,k3];refine vb (by show decide (0<=dp a)=false;exact decide_eq_false (by omega)) (aY fun r3 g3=>?_);have g3:Gf 240 [.i (IntKind.i64.wrap (IntKind.u64.wrap ((IntKind.u64.wrap (dp (-a))).tdiv (IntKind.u64.wrap d)))),.i (eA (-a/d))] r3:=aM aX (hU (by simp)) g3;rw[wn,wd,Ey iO,k1,show IntKind.u64.wrap (dp (-a/d))=dp (-a/d)by rw[mP];omega,show IntKind.i64.wrap (dp (-a/d))=dp (-a/d)by rw[sx];omega]at g3;have qb: -a/d<=-a:=Int.ediv_le_self _ (by omega);obtain rfl:=BV (by constructor<;>omega) g3;have e0:=Int.mul_ediv_add_emod (-a) d;refine eT (fun hr=>?_) (fun hr=>?_);have hr: -a%d=0:=jY hr;rw[hr]at e0;obtain⟨v1,v2⟩:=div_pos (x:=a) (d:=d) (q:=-(-a/d)) (r:=0) (by omega) (by rw[Int.neg_mul,mY];omega) (by omega) (by omega);refine cj ?_;rw[v1,v2];rfl;have hr:¬ -a%d=0:=Dc hr;obtain⟨v1,v2⟩:=div_pos (x:=a) (d:=d) (q:=-(-a/d)-1) (r:=d - -a%d) (by omega) (by rw[Int.sub_mul,Int.neg_mul,mY (-a/d) d];omega) (by omega) (by omega);refine aY fun r4 g4=>?_;have g4:Gf 242 [.i (dp (-(-a/d))),.i (eA (-(-a/d))),.i 0,.i 1] r4:=aM aX (hU (by simp)) g4;have dd:=qk (show 2<=d by omega) k10;obtain rfl:=afs (a:=-(-a/d)) (b:=1) (by constructor<;>omega) (by constructor<;>omega) (by constructor<;>omega) g4;refine cj ?_;rw[v1,v2];refine four _ _ _ _ _ _ rfl rfl ?_;show IntKind.i64.wrap (IntKind.u64.wrap (IntKind.u64.wrap d - -a%d))=_;rw[wd,mP,sx];omega;have hc:¬ dp a<0:=Dc hc;have an:0<=a:=by unfold dp at hc;omega
 obtain⟨k1,k2,k3,k4,k5,k6,k7,k8,k9,k10⟩:=quot (a:=a) an (by omega) d1 d2;have wn:IntKind.u64.wrap (dp a)=dp a:=by rw[mP];unfold dp;omega
 have iO:0<=dp a:=by omega
 have ln:0<=eA a/\eA a<18446744073709551616:=by unfold eA;omega
 refine bA fun _=>aY fun r2 g2=>?_;have g2:Gf 241 [.i ((IntKind.u64.wrap (dp a)).tmod (IntKind.u64.wrap d)),.i (eA a),.i (IntKind.u64.wrap d)] r2:=aM aX (hU (by simp)) g2;rw[wn,wd,Int.tmod_eq_emod_of_nonneg iO]at g2;obtain rfl:=aft (zG _ (by omega)) (ym _ (by omega)) (by omega) ln.1 ln.2 g2;rw[k2,k3];refine HF (by show decide (0<=dp a)=true;exact ja (by omega)) (cj ?_);refine four _ _ _ _ _ _ ?_ rfl ?_;show IntKind.i64.wrap (IntKind.u64.wrap ((IntKind.u64.wrap (dp a)).tdiv (IntKind.u64.wrap d)))=_;rw[wn,wd,Ey iO,k1,mP,sx];omega;show IntKind.i64.wrap (a%d)=_;rw[sx];omega
end
section
open Go.Sx Go
variable{rs:List DV}{n d:Int}{v:List Int}{k:Nat}{s:List Int}
def t67:aA:=
.ite (.eq (.v 0) (.c 0)) (
.ret [.i (.wrap .i64 (.sub (.v 8) (.c 1)))]) (
.ite (.eq (.v 0) (.c 1)) (
.ret [.i (.wrap .i64 (.add (.v 7) (.v 8)))]) (
.ite (.eq (.v 0) (.c 2)) (
.ret [.i (.wrap .i64 (.sub (.v 8) (.v 7)))]) (
.ev (.call 101 (.c true) (iv 5 8) [.agg [.c i6,.c i6,.c i6,.c i6]] 15) (
.ret [.i (.wrap .i64 (.add (.wrap .i64 (.add (.wrap .i64 (.add (.wrap .i64 (.wrap .i64 (.mul (.v 1) (.v 15)))) (.wrap .i64 (.mul (.v 2) (.v 16))))) (.wrap .i64 (.mul (.v 3) (.v 17))))) (.wrap .i64 (.mul (.v 4) (.v 18)))))]))))
theorem T67:TT PP 67=some ⟨67,t67,(rowOf 67).sub⟩:=by kernel_rfl
def t101:aA:=
.ret (iv 0 4)
theorem al9:TT PP 101=some ⟨101,t101,(rowOf 101).sub⟩:=by kernel_rfl
def t109:aA:=
.ev (.call 67 (.c true) (iv 0 13) [oI] 1048) (
.ev (.call 67 (.c true) (iv 0 5++iv 13 8) [oI] 2584) (
.ite (.and (.lt (.v 1048) (.c 0)) (.lt (.v 2584) (.c 0))) (
.ret [.i (.c 3),.i (.c 0),.i (.c 0)]) (
.ite (.lt (.v 1048) (.c 0)) (
.ret [.i (.c 1),.i (.wrap .i64 (.sub (.c 0) (.v 1048))),.i (.wrap .i64 (.sub (.v 2584) (.v 1048)))]) (
.ite (.lt (.v 2584) (.c 0)) (
.ret [.i (.c 2),.i (.v 1048),.i (.wrap .i64 (.sub (.v 1048) (.v 2584)))]) (
.ret [.i (.c 0),.i (.c 0),.i (.c 0)])))))
theorem al':TT PP 109=some ⟨109,t109,(rowOf 109).sub⟩:=by kernel_rfl
def t158:aA:=
.ev (.call 156 (.c true) [.i (.wrap .i64 (.sub (.v 1) (.v 0))),.i (.v 2)] [.agg [.c i6,.c (.i .u64)]] 4) (
.ev (.call 198 (.c true) [.i (.v 4),.i (.v 5),.i (.v 3)] [.agg [.c i6,.c (.i .u64)],oI,oB] 6) (
.ev (.call 199 (.c true) [.i (.v 6),.i (.v 7)] [oI,oB] 11) (
.ret [.i (.wrap .i64 (.add (.v 0) (.v 11)))])))
theorem ama:TT PP 158=some ⟨158,t158,(rowOf 158).sub⟩:=by kernel_rfl
def t111:aA:=
.ev (.call 157 (.c true) (iv 0 8) [oB] 21) (
.ev (.call 157 (.v 21) (iv 8 8) [oB] 22) (
.ite (.or (.or (.or (.or (.not (.v 21)) (.not (.v 22))) (.lt (.v 17) (.c 1))) (.lt (.v 16) (.c 0))) (.lt (.v 17) (.v 16))) (
.ret [.i (.c 0),.i (.c 0),.i (.c 0),.i (.c 0),.i (.c 0),.i (.c 0),.i (.c 0),.i (.c 0),.i (.c 1)]) (
.ev (.call 101 (.c true) (iv 0 8) [.agg [.c i6,.c i6,.c i6,.c i6]] 535) (
.ev (.call 101 (.c true) (iv 8 8) [.agg [.c i6,.c i6,.c i6,.c i6]] 1559) (
.ev (.call 158 (.c true) [.i (.v 535),.i (.v 1559),.i (.v 16),.i (.v 17)] [oI] 7194) (
.ev (.call 158 (.c true) [.i (.v 4),.i (.v 12),.i (.v 16),.i (.v 17)] [oI] 12827) (
.ev (.call 158 (.c true) [.i (.v 536),.i (.v 1560),.i (.v 16),.i (.v 17)] [oI] 17436) (
.ev (.call 158 (.c true) [.i (.v 5),.i (.v 13),.i (.v 16),.i (.v 17)] [oI] 23069) (
.ev (.call 158 (.c true) [.i (.v 537),.i (.v 1561),.i (.v 16),.i (.v 17)] [oI] 27678) (
.ev (.call 158 (.c true) [.i (.v 6),.i (.v 14),.i (.v 16),.i (.v 17)] [oI] 33311) (
.ev (.call 158 (.c true) [.i (.v 538),.i (.v 1562),.i (.v 16),.i (.v 17)] [oI] 37920) (
.ev (.call 158 (.c true) [.i (.v 7),.i (.v 15),.i (.v 16),.i (.v 17)] [oI] 43553) (
.ret [.i (.v 7194),.i (.v 17436),.i (.v 27678),.i (.v 37920),.i (.v 12827),.i (.v 23069),.i (.v 33311),.i (.v 43553),.i (.c 0)])))))))))))))
theorem amb:TT PP 111=some ⟨111,t111,(rowOf 111).sub⟩:=by kernel_rfl
theorem abn:([67,101,109,110,158,111,71].all fun k=>gP (rowOf k).sub)=true:=by kernel_rfl
theorem dZ(h:k∈[67,101,109,110,158,111,71]):gP (rowOf k).sub=true:=mE.1 abn k h
theorem gj(h:gF n):IntKind.i64.wrap n=n:=by rw[sx];omega
theorem HX(n:Int):gF (IntKind.i64.wrap n):=by rw[sx];constructor<;>omega
def BJ(p q n d:Int):Int:=IntKind.i64.wrap (p+IntKind.i64.wrap (q-p)*n/d)
theorem WR{w:Int}(hw:gF w)(h0:0<=n)(h1:n<=d)(h2:1<=d)(h3:d<=9223372036854775807):pU (w*n)/\gF (w*n/d):=by
 have a1:=qk hw.2 h0;have a2:=qk hw.1 h0;have b1:=oK h1 (show(0:Int)<=9223372036854775807 by omega);have b2:=oK h1 (show(0:Int)<=9223372036854775808 by omega);have e:=Int.mul_ediv_add_emod (w*n) d;have r0:=zG (w*n) (show d≠0 by omega);have r1:=ym (w*n) (show 0<d by omega);refine⟨by constructor<;>omega,?_,?_⟩;refine Int.le_ediv_of_mul_le (by omega) ?_;omega;refine Int.ediv_le_of_le_mul (by omega) ?_;omega
theorem zB{p q:Int}(h0:0<=n)(h1:n<=d)(h2:1<=d)(h3:d<=9223372036854775807)(hg:Gf 158 [.i p,.i q,.i n,.i d] rs):rs=[.i (BJ p q n d)]:=by
 refine bF (R:=fun rs=>rs=[DV.i (BJ p q n d)]) ama ?_ hg;obtain⟨k1,k2⟩:=WR (HX (q-p)) h0 h1 h2 h3;refine aY fun r1 g1=>?_;have g1:Gf 156 [.i (IntKind.i64.wrap (q-p)),.i n] r1:=aM aX (dZ (by simp)) g1;obtain rfl:=HG (HX _) (by constructor<;>omega) g1;refine aY fun r2 g2=>?_;have g2:Gf 198 [.i (dp (IntKind.i64.wrap (q-p)*n)),.i (eA (IntKind.i64.wrap (q-p)*n)),.i d] r2:=aM aX (dZ (by simp)) g2;obtain rfl:=QV k1 h2 h3 g2;refine aY fun r3 g3=>?_;have g3:Gf 199 [.i (dp (IntKind.i64.wrap (q-p)*n/d)),.i (eA (IntKind.i64.wrap (q-p)*n/d))] r3:=aM aX (dZ (by simp)) g3;obtain rfl:=FM k2 g3;exact cj rfl
theorem HJ{p:Int}(hp:gF p):BJ p p n d=p:=by
 unfold BJ;rw[show p-p=0 by omega,show IntKind.i64.wrap 0=0 by rfl,Int.zero_mul,Int.zero_ediv,Int.add_zero];exact gj hp
def atV(u v:List Int)(n d:Int):List DV:=(List.range 8).map fun j=>.i (BJ (u.getD j 0) (v.getD j 0) n d)
def AtR(u v:List Int)(n d:Int)(rs:List DV):Prop:=
 (Gf 157 (cells 8 u) [.b true]/\Gf 157 (cells 8 v) [.b true]/\rs=atV u v n d++[.i 0])\/((Gf 157 (cells 8 u) [.b false]\/Gf 157 (cells 8 v) [.b false])/\rs=List.replicate 8 (.i 0)++[.i 1])
theorem Ln:lD 157=some ⟨(lD 157).get!.args,[oB],0⟩:=by kernel_rfl
theorem Ry{s:bX}(hs:lD k=some s)(hc:bP s.res=[.c .b]){ds:List DV}(hg:Gf k ds rs):∃b,rs=[.b b]:=by
 have:=aX.kd k s ds rs hs hg;rw[hc]at this;obtain⟨b,r,rfl,h⟩:=adz this;obtain rfl:=jR h;exact⟨b,rfl⟩
theorem FO{x0 x1 x2 x3 x4 x5 x6 x7:Int}(hg:Gf 101 [.i x0,.i x1,.i x2,.i x3,.i x4,.i x5,.i x6,.i x7] rs):rs=[.i x0,.i x1,.i x2,.i x3]:=
 bF (R:=fun rs=>rs=[DV.i x0,.i x1,.i x2,.i x3]) al9 (cj rfl) hg
theorem ad8{u:List Int}(h0:0<=n)(h1:n<=d)(h2:1<=d)(h3:d<=9223372036854775807)(hg:Gf 111 (cells 8 u++cells 8 v++[.i n,.i d]) rs):AtR u v n d rs:=by
 refine bF (R:=AtR u v n d) amb ?_ hg;have bad:∀ {e:aF} {Ps F},Gf 157 (cells 8 u) [.b false]\/Gf 157 (cells 8 v) [.b false]->(aA.ret [.i (.c 0),.i (.c 0),.i (.c 0),.i (.c 0),.i (.c 0),.i (.c 0),.i (.c 0),.i (.c 0),.i (.c 1)]).par (fun g=>cX (TT PP) XF ((⟨111,t111,(rowOf 111).sub⟩:iU).key g)) (AtR u v n d) Ps e F:=fun h=>cj (.inr ⟨h,rfl⟩);refine aY fun r1 g1=>?_;have g1:Gf 157 (cells 8 u) r1:=aM aX (dZ (by simp)) g1;obtain⟨b1,rfl⟩:=Ry Ln rfl g1;refine sa (fun hb r2 g2=>?_) (fun hb=>?_);have hb:b1=true:=hb;subst hb;have g2:Gf 157 (cells 8 v) r2:=aM aX (dZ (by simp)) g2;obtain⟨b2,rfl⟩:=Ry Ln rfl g2;refine eT (fun hc=>?_) (fun hc=>?_);have hc:(((((!true)||(!b2))||decide (d<1))||decide (n<0))||decide (d<n))=true:=hc;cases b2 with
 |false=>exact bad (.inr g2)
 | true=>
   exfalso;simp at hc;omega
 have hc:(((((!true)||(!b2))||decide (d<1))||decide (n<0))||decide (d<n))=false:=hc;cases b2 with
 |false=>simp at hc
 | true=>
   refine aY fun r3 g3=>?_;have g3:Gf 101 (cells 8 u) r3:=aM aX (dZ (by simp)) g3;obtain rfl:=FO g3;refine aY fun r4 g4=>?_;have g4:Gf 101 (cells 8 v) r4:=aM aX (dZ (by simp)) g4;obtain rfl:=FO g4;refine aY fun r5 g5=>?_;have g5:Gf 158 [.i (u.getD 0 0),.i (v.getD 0 0),.i n,.i d] r5:=aM aX (dZ (by simp)) g5;obtain rfl:=zB h0 h1 h2 h3 g5;refine aY fun r6 g6=>?_;have g6:Gf 158 [.i (u.getD 4 0),.i (v.getD 4 0),.i n,.i d] r6:=aM aX (dZ (by simp)) g6;obtain rfl:=zB h0 h1 h2 h3 g6;refine aY fun r7 g7=>?_;have g7:Gf 158 [.i (u.getD 1 0),.i (v.getD 1 0),.i n,.i d] r7:=aM aX (dZ (by simp)) g7;obtain rfl:=zB h0 h1 h2 h3 g7;refine aY fun r8 g8=>?_;have g8:Gf 158 [.i (u.getD 5 0),.i (v.getD 5 0),.i n,.i d] r8:=aM aX (dZ (by simp)) g8;obtain rfl:=zB h0 h1 h2 h3 g8;refine aY fun r9 g9=>?_;have g9:Gf 158 [.i (u.getD 2 0),.i (v.getD 2 0),.i n,.i d] r9:=aM aX (dZ (by simp)) g9;obtain rfl:=zB h0 h1 h2 h3 g9;refine aY fun r10 g10=>?_;have g10:Gf 158 [.i (u.getD 6 0),.i (v.getD 6 0),.i n,.i d] r10:=aM aX (dZ (by simp)) g10;obtain rfl:=zB h0 h1 h2 h3 g10;refine aY fun r11 g11=>?_;have g11:Gf 158 [.i (u.getD 3 0),.i (v.getD 3 0),.i n,.i d] r11:=aM aX (dZ (by simp)) g11;obtain rfl:=zB h0 h1 h2 h3 g11;refine aY fun r12 g12=>?_;have g12:Gf 158 [.i (u.getD 7 0),.i (v.getD 7 0),.i n,.i d] r12:=aM aX (dZ (by simp)) g12;obtain rfl:=zB h0 h1 h2 h3 g12;exact cj (.inl ⟨g1,g2,rfl⟩)
 have hb:b1=false:=hb;subst hb;exact HF rfl (bad (.inl g1))
def wx(s:List Int):Prop:=∀j,1<=j->j<=4->-32768<=s.getD j 0/\s.getD j 0<=32768
def mr(v:List Int):Prop:=∀j,j<4->-68719476736<=v.getD j 0/\v.getD j 0<=68719476736
abbrev DZ(x:Int):Prop:=-4611686018427387904<x/\x<4611686018427387904
theorem Aj{a b:Int}(ha: -32768<=a/\a<=32768)(hb: -68719476736<=b/\b<=68719476736): -2251799813685248<=a*b/\a*b<=2251799813685248:=by
 rcases Int.le_total 0 a with h|h;have h1:=oK hb.2 h;have h2:=oK hb.1 h;omega;have h1:=oK hb.2 (show 0<=-a by omega);have h2:=oK hb.1 (show 0<=-a by omega);have e: -a*b = -(a*b):=Int.neg_mul ..;omega
theorem Ju(hs:wx s)(hv:mr v)(hg:Gf 67 (cells 5 s++cells 8 v) rs):∃x,rs=[.i x]/\DZ x:=by
 refine bF (R:=fun rs=>∃x,rs=[DV.i x]/\DZ x) T67 ?_ hg;have v2:=hv 2 (by omega);have v3:=hv 3 (by omega);have v0:=hv 0 (by omega);have v1:=hv 1 (by omega)
 refine eT (fun _=>cj ⟨_,rfl,?_⟩) (fun _=>eT (fun _=>cj ⟨_,rfl,?_⟩) (fun _=>eT (fun _=>cj ⟨_,rfl,?_⟩) (fun _=>?_)));show DZ (IntKind.i64.wrap (v.getD 3 0-1));rw[gj (by constructor<;>omega)];constructor<;>omega;show DZ (IntKind.i64.wrap (v.getD 2 0+v.getD 3 0));rw[gj (by constructor<;>omega)];constructor<;>omega;show DZ (IntKind.i64.wrap (v.getD 3 0-v.getD 2 0));rw[gj (by constructor<;>omega)];constructor<;>omega;refine aY fun r g=>?_;have g:Gf 101 (cells 8 v) r:=aM aX (dZ (by simp)) g;obtain rfl:=FO g;refine cj ⟨_,rfl,?_⟩;have p1:=Aj (hs 1 (by omega) (by omega)) v0;have p2:=Aj (hs 2 (by omega) (by omega)) v1;have p3:=Aj (hs 3 (by omega) (by omega)) v2;have p4:=Aj (hs 4 (by omega) (by omega)) v3;show DZ (IntKind.i64.wrap (IntKind.i64.wrap (IntKind.i64.wrap (IntKind.i64.wrap (IntKind.i64.wrap (s.getD 1 0*v.getD 0 0))+IntKind.i64.wrap (s.getD 2 0*v.getD 1 0))+IntKind.i64.wrap (s.getD 3 0*v.getD 2 0))+IntKind.i64.wrap (s.getD 4 0*v.getD 3 0)));simp only[sx];generalize s.getD 1 0*v.getD 0 0=a at *;generalize s.getD 2 0*v.getD 1 0=b at *;generalize s.getD 3 0*v.getD 2 0=c at *;generalize s.getD 4 0*v.getD 3 0=d at *;constructor<;>omega
def Rz(rs:List DV):Prop:=∃k n d:Int,rs=[.i k,.i n,.i d]/\(k=0\/k=3\/((k=1\/k=2)/\0<=n/\n<=d/\1<=d/\d<=9223372036854775807))
theorem aa5{u:List Int}(hs:wx s)(hu:mr u)(hv:mr v)(hg:Gf 109 (cells 5 s++cells 8 u++cells 8 v) rs):Rz rs:=by
 refine bF (R:=Rz) al' ?_ hg;refine aY fun r1 g1=>?_;have g1:Gf 67 (cells 5 s++cells 8 u) r1:=aM aX (dZ (by simp)) g1;obtain⟨p,rfl,hp⟩:=Ju hs hu g1;refine aY fun r2 g2=>?_;have g2:Gf 67 (cells 5 s++cells 8 v) r2:=aM aX (dZ (by simp)) g2;obtain⟨q,rfl,hq⟩:=Ju hs hv g2;refine eT (fun _=>cj ⟨_,_,_,rfl,.inr (.inl rfl)⟩) (fun hc=>eT (fun h1=>cj ⟨_,_,_,rfl,.inr (.inr ⟨.inl rfl,?_⟩)⟩) (fun h1=>eT (fun h2=>cj ⟨_,_,_,rfl,.inr (.inr ⟨.inr rfl,?_⟩)⟩) (fun _=>cj ⟨_,_,_,rfl,.inl rfl⟩)));have hc:(decide (p<0)&&decide (q<0))=false:=hc;have h1:p<0:=jY h1;rw[ja h1,Bool.true_and,sO]at hc;show 0<=IntKind.i64.wrap (0-p)/\IntKind.i64.wrap (0-p)<=IntKind.i64.wrap (q-p)/\1<=IntKind.i64.wrap (q-p)/\IntKind.i64.wrap (q-p)<=9223372036854775807;rw[gj (by constructor<;>omega),gj (by constructor<;>omega)];omega;have h1:¬ p<0:=Dc h1;have h2:q<0:=jY h2;show 0<=p/\p<=IntKind.i64.wrap (p-q)/\1<=IntKind.i64.wrap (p-q)/\IntKind.i64.wrap (p-q)<=9223372036854775807;rw[gj (by constructor<;>omega)];omega
end
end Go.Proofs.YtohebioanhliiaaGreatDoor.aN

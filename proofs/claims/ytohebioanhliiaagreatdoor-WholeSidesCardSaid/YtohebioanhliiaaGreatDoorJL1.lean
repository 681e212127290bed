/- What xint computes; what two pipes have alike. -/
import Derived.Test.YtohebioanhliiaaGreatDoorJZ1
import Derived.Test.YtohebioanhliiaaGreatDoorJC2
import Derived.Test.YtohebioanhliiaaGreatDoorJA4
set_option maxRecDepth 100000
set_option linter.unusedVariables false
set_option linter.unusedSimpArgs false
namespace Go.Proofs.YtohebioanhliiaaGreatDoor.aF
section
open Go.Sx Go
variable {X:bH}
def jC(s:List (FuncId×Nat)):Bool:=s.all fun p=>Nat.beq p.2 999999
theorem aad{k:Nat}{t:au}{s:List (FuncId×Nat)}(h:jC s=true)(g:FuncId):(⟨k,t,s⟩:iG).key g=g\/(⟨k,t,s⟩:iG).key g=999999:=by
 show(match s.find? (fun p=>p.1==g)with
   |some p=>p.2
   |none=>g)=g\/(match s.find? (fun p=>p.1==g)with
   |some p=>p.2
   |none=>g)=999999
 cases hf:s.find? (fun p=>p.1==g)with
 |none=>exact .inl rfl
 |some p=>exact .inr (DR (jE.1 h p (Dv hf)))
theorem bC(hX:GO X){k:Nat}{t:au}{s:List (FuncId×Nat)}(h:jC s=true){g:FuncId}{ds rs:List DV}(hg:cK (TT Tryz.prog) X ((⟨k,t,s⟩:iG).key g) ds rs):cK (TT Tryz.prog) X g ds rs:=by
 rcases aad (k:=k) (t:=t) h g with e|e;rwa[e]at hg;rw[e]at hg;exact(GR hX.no hg).elim
theorem aeN{a b:Nat}(h:a≠b):Nat.beq a b=false:=by
 cases e:Nat.beq a b with
 |false=>rfl
 |true=>exact absurd (DR e) h
theorem Qe:(kc 18).args=pA:=by kernel_rfl
theorem VB:(kc 18).pre=tf 0:=by kernel_rfl
theorem A5{st:List DV}(h:fy st):(kc 18).gN st:=by
 refine⟨by rw[Qe];exact h.has,?_⟩;have hl:=h.len;have ea:∀j,j<94->aR.av 0 st j=st.getD j (.i 0):=fun j hj=>iD (by omega);rw[VB];intro p hp;simp only[tf,bD,gE,or_false,fC]at hp;rcases hp with rfl|rfl|rfl;simp only[BE.af,IE.af,ea 3 (by omega),ea 1 (by omega),ea 2 (by omega),aC];exact h.c3;simp only[BE.af,IE.af,ea 4 (by omega),ea 1 (by omega),ea 2 (by omega),aC];exact h.c4;simp only[BE.af,IE.af,ea 60 (by omega),ea 61 (by omega),aC];have:=h.c60;unfold uD at this;omega
section
variable {E:Nat->List DV->List DV->Prop}{R:List DV->Prop}{Ps:List (Int->Prop)}{ae:az}{F:Nat->List DV->Prop}{t t':au}
theorem gn{p:BE}(ht:p.af ae=true->t.par E R Ps ae F):(au.ev (.aG p) t).par E R Ps ae F:=ht
theorem AS{id:Nat}{op:cU}(ht:t.par E R Ps (ae.set id (.l (op.af ae))) F):(au.ev (.bW id op) t).par E R Ps ae F:=ht
theorem xG{id:Nat}{entry:List DE}{ks:List CT}{base:Nat}{body:au}(inv:List DV->Prop)(h0:inv (entry.map (DE.af ae)))
   (hb:∀ds,inv ds->body.par E R Ps (ae.av base ds) (lN F id inv)):(au.loop id entry ks base body).par E R Ps ae F:=⟨inv,h0,hb⟩
theorem re{id:Nat}{bG:List DE}{G:List DV->Prop}(h:G (bG.map (DE.af ae))):(au.again id bG).par E R Ps ae (lN F id G):=by
 simpa[au.par,lN]using h
theorem JJ{f:FuncId}{g:BE}{args:List DE}{res:List VT}{base:Nat}{pre:List DV->Prop}{rel:List DV->List DV->Prop}(hc:∀ds,pre ds->∃rs,E f ds rs/\rel ds rs)(hg:g.af ae=true)(hp:pre (args.map (DE.af ae)))
   (ht:∀rs,E f (args.map (DE.af ae)) rs->rel (args.map (DE.af ae)) rs->t.gC E R Ps (ae.av base rs) F):(au.ev (.call f g args res base) t).gC E R Ps ae F:=
 Em hc (fun _=>hp) (fun _=>ht) (fun h=>by rw[hg]at h;cases h)
theorem ri{a b:IE}(h1:a.af ae<b.af ae->t.par E R Ps ae F)(h2:b.af ae<=a.af ae->t'.par E R Ps ae F):(au.ite (.lt a b) t t').par E R Ps ae F:=
 iC (fun h=>h1 (mC h)) (fun h=>h2 (Int.not_lt.1 (Fc h)))
theorem EZ{a b:IE}(h1:a.af ae=b.af ae->t.par E R Ps ae F)(h2:a.af ae≠b.af ae->t'.par E R Ps ae F):(au.ite (.eq a b) t t').par E R Ps ae F:=
 iC (fun h=>h1 (mC h)) (fun h=>h2 (Fc h))
theorem Qf{c:BE}(hc:c.af ae=true)(h:t.par E R Ps ae F):(au.ite c t t').par E R Ps ae F:=iC (fun _=>h) (fun h'=>by rw[hc]at h';cases h')
theorem IH{c:BE}(hc:c.af ae=false)(h:t'.par E R Ps ae F):(au.ite c t t').par E R Ps ae F:=iC (fun h'=>by rw[hc]at h';cases h') (fun _=>h)
theorem A6{bG:List DE}{rs:List DV}(e:bG.map (DE.af ae)=rs)(h:R rs):(au.ret bG).par E R Ps ae F:=by subst e;exact h
end
theorem A7(e:az)(b:Nat)(ds:List DV):∃e':az,e'=e.av b ds/\(∀k,k<b->e' k=e k)/\∀j,j<ds.length->e' (b+j)=ds.getD j (.i 0):=
 ⟨_,rfl,fun k hk=>az.bd hk,fun j hj=>mz hj⟩
theorem ME(e:az)(b:Nat)(d:DV):∃e':az,e'=e.set b d/\(∀k,k<b->e' k=e k)/\e' b=d:=by
 refine⟨_,rfl,fun k hk=>?_,?_⟩;simp only[az.set];rw[if_neg (by omega)];simp only[az.set,if_pos]
theorem oS(n:Int):IntKind.u64.wrap n=n%18446744073709551616:=IntKind.wrap_u64 n
end
section
open Go.Sx Go
theorem UQ{d:DV}{a:A}:∀ {al:List A} {ds:List DV} {i:Nat},kO al ds->al[i]?=some a->a.has d->kO al (ds.set i d):=by
 intro al;induction al with
 |nil=>intro ds i h e;cases e
 | cons x al ih=>
   intro ds i h e ha;cases ds with
   |nil=>exact h.elim
   | cons y ds=>
     cases i with
     |zero=>cases e;exact⟨ha,h.2⟩
     |succ i=>exact⟨h.1,ih h.2 e ha⟩
def Py(b:Nat):List DE:=pA.zipIdx.map fun x=>match x.1 with
 |.i _ _=>.i (.v (b+x.2))
 |.b=>.b (.v (b+x.2))
 |_=>.l (b+x.2)
theorem pZ{st:List DV}{i j:Nat}{d:DV}(h:j≠i):(st.set i d).getD j (.i 0)=st.getD j (.i 0):=by
 simp only[cq];rw[List.getElem?_set_ne (Ne.symm h)]
theorem Cb{st:List DV}{i:Nat}{d:DV}(h:i<st.length):(st.set i d).getD i (.i 0)=d:=by
 simp only[cq];rw[List.getElem?_set_self h];rfl
theorem C7{st:List DV}(h:fy st):vm.map (DE.af (aR.av 0 st))=st:=by
 have hl:=h.len;exact lF (b:=0) h.has (fun j hj=>by rw[fC];exact iD hj) (by kernel_rfl)
end
section
open Go.Sx Go
def t139:au:=
.ret [.i (.wrap .u64 (.add (.wrap .u64 (.add (.wrap .u64 (.mul (.ediv (.v 0) 4294967296) (.ediv (.v 1) 4294967296))) (.ediv (.wrap .u64 (.add (.wrap .u64 (.mul (.ediv (.v 0) 4294967296) (.emod (.v 1) 4294967296))) (.ediv (.wrap .u64 (.mul (.emod (.v 0) 4294967296) (.emod (.v 1) 4294967296))) 4294967296))) 4294967296))) (.ediv (.wrap .u64 (.add (.emod (.wrap .u64 (.add (.wrap .u64 (.mul (.ediv (.v 0) 4294967296) (.emod (.v 1) 4294967296))) (.ediv (.wrap .u64 (.mul (.emod (.v 0) 4294967296) (.emod (.v 1) 4294967296))) 4294967296))) 4294967296) (.wrap .u64 (.mul (.emod (.v 0) 4294967296) (.ediv (.v 1) 4294967296))))) 4294967296))),.i (.wrap .u64 (.mul (.v 0) (.v 1)))]
theorem alV:TT Tryz.prog 139=some ⟨139,t139,(rowOf 139).sub⟩:=by kernel_rfl
def t196:au:=
.ite (.lt (.v 0) (.c 0)) (
.ret [.i (.wrap .u64 (.sub (.c 0) (.wrap .u64 (.v 0))))]) (
.ret [.i (.wrap .u64 (.v 0))])
theorem alW:TT Tryz.prog 196=some ⟨196,t196,(rowOf 196).sub⟩:=by kernel_rfl
def t197:au:=
.ite (.v 2) (
.ev (.call 240 (.c true) [.i (.wrap .i64 (.v 0)),.i (.v 1)] [.agg [.c i6,.c (.i .u64)]] 5) (
.ret [.i (.v 5),.i (.v 6),.b (.or (.lt (.v 5) (.c 0)) (.and (.eq (.v 5) (.c 0)) (.eq (.v 6) (.c 0))))])) (
.ret [.i (.wrap .i64 (.v 0)),.i (.v 1),.b (.le (.c 0) (.wrap .i64 (.v 0)))])
theorem alX:TT Tryz.prog 197=some ⟨197,t197,(rowOf 197).sub⟩:=by kernel_rfl
def t155:au:=
.ite (.or (.lt (.v 0) (.v 2)) (.and (.eq (.v 0) (.v 2)) (.lt (.v 1) (.v 3)))) (
.ret [.i (.c (-1))]) (
.ite (.and (.eq (.v 0) (.v 2)) (.eq (.v 1) (.v 3))) (
.ret [.i (.c 0)]) (
.ret [.i (.c 1)]))
theorem alY:TT Tryz.prog 155=some ⟨155,t155,(rowOf 155).sub⟩:=by kernel_rfl
def t156:au:=
.ev (.call 196 (.c true) [.i (.v 0)] [.one (.c (.i .u64))] 3) (
.ev (.call 196 (.c true) [.i (.v 1)] [.one (.c (.i .u64))] 4) (
.ev (.call 139 (.c true) [.i (.v 3),.i (.v 4)] [.one (.c (.i .u64)),.one (.c (.i .u64))] 5) (
.ev (.call 197 (.c true) [.i (.v 5),.i (.v 6),.b (.not (.iff (.lt (.v 0) (.c 0)) (.lt (.v 1) (.c 0))))] [.agg [.c i6,.c (.i .u64)],oB] 7) (
.ret [.i (.v 7),.i (.v 8)]))))
theorem alZ:TT Tryz.prog 156=some ⟨156,t156,(rowOf 156).sub⟩:=by kernel_rfl
def t240:au:=
.ev (.call 266 (.c true) [.i (.c 0),.i (.v 1),.i (.c 0)] [.one (.c (.i .u64)),.one (.c (.i .u64))] 4) (
.ev (.call 266 (.c true) [.i (.c 0),.i (.wrap .u64 (.v 0)),.i (.v 5)] [.one (.c (.i .u64)),.one (.c (.i .u64))] 6) (
.ret [.i (.wrap .i64 (.v 6)),.i (.v 4)]))
theorem al0:TT Tryz.prog 240=some ⟨240,t240,(rowOf 240).sub⟩:=by kernel_rfl
def t242:au:=
.ev (.call 266 (.c true) [.i (.v 1),.i (.v 3),.i (.c 0)] [.one (.c (.i .u64)),.one (.c (.i .u64))] 7) (
.ev (.call 266 (.c true) [.i (.wrap .u64 (.v 0)),.i (.wrap .u64 (.v 2)),.i (.v 8)] [.one (.c (.i .u64)),.one (.c (.i .u64))] 9) (
.ite (.and (.not (.iff (.lt (.v 0) (.c 0)) (.lt (.v 2) (.c 0)))) (.not (.iff (.lt (.wrap .i64 (.v 9)) (.c 0)) (.lt (.v 0) (.c 0))))) (
.ret [.i (.c 0),.i (.c 0),.b (.c false)]) (
.ret [.i (.wrap .i64 (.v 9)),.i (.v 7),.b (.c true)])))
theorem al1:TT Tryz.prog 242=some ⟨242,t242,(rowOf 242).sub⟩:=by kernel_rfl
def t198:au:=
.ite (.lt (.v 2) (.c 1)) (
.ret [.i (.c 0),.i (.c 0),.i (.c 0),.b (.c false)]) (
.ite (.lt (.v 0) (.c 0)) (
.ev (.call 240 (.c true) [.i (.v 0),.i (.v 1)] [.agg [.c i6,.c (.i .u64)]] 6) (
.ev (.aG (.tu (.wrap .u64 (.v 2)))) (
.ev (.call 241 (.c true) [.i (.tmod (.wrap .u64 (.v 6)) (.wrap .u64 (.v 2))),.i (.v 7),.i (.wrap .u64 (.v 2))] [.one (.c (.i .u64)),.one (.c (.i .u64))] 4104) (
.ite (.le (.c 0) (.v 0)) (
.ret [.i (.wrap .i64 (.wrap .u64 (.tdiv (.wrap .u64 (.v 6)) (.wrap .u64 (.v 2))))),.i (.v 4104),.i (.wrap .i64 (.v 4105)),.b (.c true)]) (
.ev (.call 240 (.c true) [.i (.wrap .i64 (.wrap .u64 (.tdiv (.wrap .u64 (.v 6)) (.wrap .u64 (.v 2))))),.i (.v 4104)] [.agg [.c i6,.c (.i .u64)]] 4107) (
.ite (.eq (.v 4105) (.c 0)) (
.ret [.i (.v 4107),.i (.v 4108),.i (.c 0),.b (.c true)]) (
.ev (.call 242 (.c true) [.i (.v 4107),.i (.v 4108),.i (.c 0),.i (.c 1)] [.agg [.c i6,.c (.i .u64)],oB] 4109) (
.ret [.i (.v 4109),.i (.v 4110),.i (.wrap .i64 (.wrap .u64 (.sub (.wrap .u64 (.v 2)) (.v 4105)))),.b (.c true)])))))))) (
.ev (.aG (.tu (.wrap .u64 (.v 2)))) (
.ev (.call 241 (.c true) [.i (.tmod (.wrap .u64 (.v 0)) (.wrap .u64 (.v 2))),.i (.v 1),.i (.wrap .u64 (.v 2))] [.one (.c (.i .u64)),.one (.c (.i .u64))] 4102) (
.ite (.le (.c 0) (.v 0)) (
.ret [.i (.wrap .i64 (.wrap .u64 (.tdiv (.wrap .u64 (.v 0)) (.wrap .u64 (.v 2))))),.i (.v 4102),.i (.wrap .i64 (.v 4103)),.b (.c true)]) (
.ev (.call 240 (.c true) [.i (.wrap .i64 (.wrap .u64 (.tdiv (.wrap .u64 (.v 0)) (.wrap .u64 (.v 2))))),.i (.v 4102)] [.agg [.c i6,.c (.i .u64)]] 4105) (
.ite (.eq (.v 4103) (.c 0)) (
.ret [.i (.v 4105),.i (.v 4106),.i (.c 0),.b (.c true)]) (
.ev (.call 242 (.c true) [.i (.v 4105),.i (.v 4106),.i (.c 0),.i (.c 1)] [.agg [.c i6,.c (.i .u64)],oB] 4107) (
.ret [.i (.v 4107),.i (.v 4108),.i (.wrap .i64 (.wrap .u64 (.sub (.wrap .u64 (.v 2)) (.v 4103)))),.b (.c true)]))))))))
theorem al2:TT Tryz.prog 198=some ⟨198,t198,(rowOf 198).sub⟩:=by kernel_rfl
def t199:au:=
.ite (.not (.eq (.ediv (.wrap .i64 (.v 1)) 9223372036854775808) (.v 0))) (
.ret [.i (.c 0),.b (.c false)]) (
.ret [.i (.wrap .i64 (.v 1)),.b (.c true)])
theorem al3:TT Tryz.prog 199=some ⟨199,t199,(rowOf 199).sub⟩:=by kernel_rfl
abbrev Gf(k:Nat)(ds rs:List DV):Prop:=cK (TT Tryz.prog) XF k ds rs
def et(v:Int):Int:=v/18446744073709551616
def fQ(v:Int):Int:=v%18446744073709551616
abbrev wJ(n:Int):Prop:=-9223372036854775808<=n/\n<=9223372036854775807
abbrev Dg(n:Int):Prop:=-170141183460469231731687303715884105728<n/\n<170141183460469231731687303715884105728
theorem tk(n:Int):IntKind.i64.wrap n=(n+9223372036854775808)%18446744073709551616-9223372036854775808:=IntKind.wrap_i64 n
theorem aam:([139,196,197,155,156,240,242,214,216,198,199,201,200].all fun k=>jC (rowOf k).sub)=true:=by kernel_rfl
theorem iE{k:Nat}(h:k∈[139,196,197,155,156,240,242,214,216,198,199,201,200]):jC (rowOf k).sub=true:=jE.1 aam k h
theorem VF{k:Nat}{ds rs:List DV}(hk:TT Tryz.prog k=none)(h:Gf k ds rs):XF k ds=some rs:=by
 obtain⟨n,hn⟩:=h;cases n with
 |zero=>cases hn
 |succ n=>simpa only[ev,hk]using hn
theorem Kr{x y c:Int}{rs:List DV}(h:Gf 266 [.i x,.i y,.i c] rs):rs=[.i ((x+18446744073709551616-y-c)%18446744073709551616),.i (if x<y+c then 1 else 0)]:=by
 have h:A2 [.i x,.i y,.i c]=some rs:=VF Xt h;unfold A2 at h;simp only at h;split at h;injection h with h;exact h.symm;cases h
theorem Bd{a:Int}(ha:Dg a){rs:List DV}(hg:Gf 240 [.i (et a),.i (fQ a)] rs):rs=[.i (et (-a)),.i (fQ (-a))]:=by
 refine cX (R:=fun rs=>rs=[DV.i (et (-a)),.i (fQ (-a))]) al0 ?_ hg;refine cM fun r1 g1=>?_;have g1:Gf 266 [.i 0,.i (fQ a),.i 0] r1:=bC bX (iE (by simp)) g1;obtain rfl:=Kr g1;refine cM fun r2 g2=>?_;have g2:Gf 266 [.i 0,.i (IntKind.u64.wrap (et a)),.i (if 0<fQ a+0 then 1 else 0)] r2:=bC bX (iE (by simp)) g2;obtain rfl:=Kr g2;refine fe ?_;show [DV.i (IntKind.i64.wrap ((0+18446744073709551616-IntKind.u64.wrap (et a)-(if 0<fQ a+0 then 1 else 0))%18446744073709551616)),.i ((0+18446744073709551616-fQ a-0)%18446744073709551616)]=_;rw[tk,oS];unfold et fQ;have e:∀p q r s:Int,p=r->q=s->[DV.i p,DV.i q]=[.i r,.i s]:=fun p q r s h1 h2=>by rw[h1,h2]
 refine e _ _ _ _ ?_ ?_;split<;>omega;omega
theorem aan{p q r s:Int}{b:Bool}(h1:p=r)(h2:q=s): [DV.i p,DV.i q,.b b]=[.i r,.i s,.b b]:=by rw[h1,h2]
theorem aeV{a b:Int}(ha:Dg a)(hb:Dg b)(hab:Dg (a-b)){rs:List DV}(hg:Gf 242 [.i (et a),.i (fQ a),.i (et b),.i (fQ b)] rs):rs=[.i (et (a-b)),.i (fQ (a-b)),.b true]:=by
 refine cX (R:=fun rs=>rs=[DV.i (et (a-b)),.i (fQ (a-b)),.b true]) al1 ?_ hg;refine cM fun r1 g1=>?_;have g1:Gf 266 [.i (fQ a),.i (fQ b),.i 0] r1:=bC bX (iE (by simp)) g1;obtain rfl:=Kr g1;refine cM fun r2 g2=>?_;have g2:Gf 266 [.i (IntKind.u64.wrap (et a)),.i (IntKind.u64.wrap (et b)),.i (if fQ a<fQ b+0 then 1 else 0)] r2:=bC bX (iE (by simp)) g2;obtain rfl:=Kr g2;have key:IntKind.i64.wrap ((IntKind.u64.wrap (et a)+18446744073709551616-IntKind.u64.wrap (et b)-(if fQ a<fQ b+0 then 1 else 0))%18446744073709551616)=et (a-b):=by
   rw[tk,oS,oS];unfold et fQ;split<;>omega
 have FL:(fQ a+18446744073709551616-fQ b-0)%18446744073709551616=fQ (a-b):=by unfold fQ;omega
 refine iC (fun hc=>?_) (fun _=>fe ?_);have hc:((!(decide (et a<0)==decide (et b<0)) && !(decide (IntKind.i64.wrap ((IntKind.u64.wrap (et a)+18446744073709551616-IntKind.u64.wrap (et b)-(if fQ a<fQ b+0 then 1 else 0))%18446744073709551616)<0)==decide (et a<0))))=true:=hc;rw[key]at hc;exfalso;simp only[ao,beq_iff_eq,mg,beq_eq_false_iff_ne,ne_eq,decide_eq_decide]at hc;unfold et at hc;omega;exact aan key FL
theorem VG{a:Int}(ha:wJ a){rs:List DV}(hg:Gf 199 [.i (et a),.i (fQ a)] rs):rs=[.i a,.b true]:=by
 refine cX (R:=fun rs=>rs=[DV.i a,.b true]) al3 ?_ hg;have key:IntKind.i64.wrap (fQ a)=a:=by rw[tk];unfold fQ;omega
 refine IH ?_ (fe ?_);show(!(decide (IntKind.i64.wrap (fQ a)/9223372036854775808=et a)))=false;rw[key,gQ (by unfold et;omega)];rfl;show [DV.i (IntKind.i64.wrap (fQ a)),.b true]=_;rw[key]
theorem aeW{a b:Int}{rs:List DV}(hg:Gf 155 [.i (et a),.i (fQ a),.i (et b),.i (fQ b)] rs):rs=[.i (if a<b then -1 else if a=b then 0 else 1)]:=by
 refine cX (R:=fun rs=>rs=[DV.i (if a<b then -1 else if a=b then 0 else 1)]) alY ?_ hg;refine iC (fun hc=>fe ?_) (fun hc=>iC (fun hd=>fe ?_) (fun hd=>fe ?_));have hc:(decide (et a<et b)||(decide (et a=et b)&&decide (fQ a<fQ b)))=true:=hc;simp only[fF,ao,aC]at hc;unfold et fQ at hc;rw[if_pos (by omega)];rfl;have hd:(decide (et a=et b)&&decide (fQ a=fQ b))=true:=hd;simp only[ao,aC]at hd;unfold et fQ at hd;rw[if_neg (by omega),if_pos (by omega)];rfl;have hc:(decide (et a<et b)||(decide (et a=et b)&&decide (fQ a<fQ b)))=false:=hc;have hd:(decide (et a=et b)&&decide (fQ a=fQ b))=false:=hd;simp only[uL,Bool.and_eq_false_imp,aC,tZ]at hc hd;unfold et fQ at hc hd;rw[if_neg (by omega),if_neg (by omega)];rfl
theorem Qv{n:Int}(hn:wJ n){rs:List DV}(hg:Gf 196 [.i n] rs):rs=[.i n.natAbs]:=by
 refine cX (R:=fun rs=>rs=[DV.i n.natAbs]) alW ?_ hg;refine iC (fun hc=>fe ?_) (fun hc=>fe ?_);have hc:n<0:=mC hc;show [DV.i (IntKind.u64.wrap (0-IntKind.u64.wrap n))]=_;rw[oS,oS,show(0-n%18446744073709551616)%18446744073709551616=(n.natAbs:Int)by omega];have hc:¬ n<0:=Fc hc;show [DV.i (IntKind.u64.wrap n)]=_;rw[oS,show n%18446744073709551616=(n.natAbs:Int)by omega]
theorem aao{a b c d:Int}(ha:0<=a/\a<4294967296)(hb:0<=b/\b<4294967296)(hc:0<=c/\c<4294967296)(hd:0<=d/\d<4294967296){p q r s:Int}(hp:p=a*c)(hq:q=a*d)(hr:r=b*c)(hs:s=b*d) :
   (((p%18446744073709551616+((q%18446744073709551616+(s%18446744073709551616)/4294967296)%18446744073709551616)/4294967296)%18446744073709551616)+((((q%18446744073709551616+(s%18446744073709551616)/4294967296)%18446744073709551616)%4294967296+r%18446744073709551616)%18446744073709551616)/4294967296)%18446744073709551616=(p*18446744073709551616+(q+r)*4294967296+s)/18446744073709551616:=by
 have m:∀ {x y:Int},0<=x/\x<4294967296->0<=y/\y<4294967296->0<=x*y/\x*y<=18446744065119617025:=fun {x y} hx hy=>by
   have h1:=sy hx.1 hy.1;have h2:=yX (show x<=4294967295 by omega) (show y<=4294967295 by omega) hy.1 (by omega);omega
 have h1:=m ha hc;have h2:=m ha hd;have h3:=m hb hc;have h4:=m hb hd
 rw[<- hp]at h1;rw[<- hq]at h2;rw[<- hr]at h3;rw[<- hs]at h4;clear hp hq hr hs;omega
theorem VH{x y:Int}(hx:0<=x/\x<18446744073709551616)(hy:0<=y/\y<18446744073709551616){rs:List DV}(hg:Gf 139 [.i x,.i y] rs):rs=[.i (et (x*y)),.i (fQ (x*y))]:=by
 refine cX (R:=fun rs=>rs=[DV.i (et (x*y)),.i (fQ (x*y))]) alV ?_ hg;refine fe ?_;have ex:x=x/4294967296*4294967296+x%4294967296:=by omega
 have ey:y=y/4294967296*4294967296+y%4294967296:=by omega
 have e:x*y=(x/4294967296*(y/4294967296))*18446744073709551616+(x/4294967296*(y%4294967296)+x%4294967296*(y/4294967296))*4294967296+x%4294967296*(y%4294967296):=by
   conv=>lhs;rw[ex,ey]
   grind
 have h:=aao (a:=x/4294967296) (b:=x%4294967296) (c:=y/4294967296) (d:=y%4294967296) (by omega) (by omega) (by omega) (by omega) rfl rfl rfl rfl;rw[<- e]at h;have e2:∀p q r s:Int,p=r->q=s->[DV.i p,DV.i q]=[.i r,.i s]:=fun p q r s h1 h2=>by rw[h1,h2]
 refine e2 _ _ _ _ ?_ ?_;show IntKind.u64.wrap (IntKind.u64.wrap (IntKind.u64.wrap (x/4294967296*(y/4294967296))+(IntKind.u64.wrap (IntKind.u64.wrap (x/4294967296*(y%4294967296))+IntKind.u64.wrap (x%4294967296*(y%4294967296))/4294967296))/4294967296)+(IntKind.u64.wrap ((IntKind.u64.wrap (IntKind.u64.wrap (x/4294967296*(y%4294967296))+IntKind.u64.wrap (x%4294967296*(y%4294967296))/4294967296))%4294967296+IntKind.u64.wrap (x%4294967296*(y/4294967296))))/4294967296)=_;simp only[oS];exact h;show IntKind.u64.wrap (x*y)=_;rw[oS];rfl
theorem Qw{v:Int}(h0:0<=v)(h1:v<170141183460469231731687303715884105728){m:Bool}{rs:List DV}(hg:Gf 197 [.i (et v),.i (fQ v),.b m] rs):rs=[.i (et (if m then -v else v)),.i (fQ (if m then -v else v)),.b true]:=by
 have w:IntKind.i64.wrap (et v)=et v:=by rw[tk];unfold et;omega
 refine cX (R:=fun rs=>rs=[DV.i (et (if m then -v else v)),.i (fQ (if m then -v else v)),.b true]) alX ?_ hg;refine iC (fun hc=>?_) (fun hc=>fe ?_);have hc:m=true:=hc;subst hc;refine cM fun r g=>?_;have g:Gf 240 [.i (IntKind.i64.wrap (et v)),.i (fQ v)] r:=bC bX (iE (by simp)) g;rw[w]at g;obtain rfl:=Bd (by constructor<;>omega) g;refine fe ?_;show [DV.i (et (-v)),.i (fQ (-v)),.b (decide (et (-v)<0)||(decide (et (-v)=0)&&decide (fQ (-v)=0)))]=_;have:(decide (et (-v)<0)||(decide (et (-v)=0)&&decide (fQ (-v)=0)))=true:=by
   simp only[fF,ao,aC];unfold et fQ;omega
 rw[this];rfl;have hc:m=false:=hc;subst hc;show [DV.i (IntKind.i64.wrap (et v)),.i (fQ v),.b (decide (0<=IntKind.i64.wrap (et v)))]=_;rw[w,gQ (by unfold et;omega)];rfl
theorem Qx{a b:Int}(ha:wJ a)(hb:wJ b){rs:List DV}(hg:Gf 156 [.i a,.i b] rs):rs=[.i (et (a*b)),.i (fQ (a*b))]:=by
 refine cX (R:=fun rs=>rs=[DV.i (et (a*b)),.i (fQ (a*b))]) alZ ?_ hg;refine cM fun r1 g1=>?_;have g1:Gf 196 [.i a] r1:=bC bX (iE (by simp)) g1;obtain rfl:=Qv ha g1;refine cM fun r2 g2=>?_;have g2:Gf 196 [.i b] r2:=bC bX (iE (by simp)) g2;obtain rfl:=Qv hb g2;refine cM fun r3 g3=>?_;have g3:Gf 139 [.i a.natAbs,.i b.natAbs] r3:=bC bX (iE (by simp)) g3;obtain rfl:=VH (by omega) (by omega) g3;refine cM fun r4 g4=>?_;have g4:Gf 197 [.i (et (a.natAbs*b.natAbs)),.i (fQ (a.natAbs*b.natAbs)),.b (!(decide (a<0)==decide (b<0)))] r4:=bC bX (iE (by simp)) g4;have n0:(0:Int)<=(a.natAbs:Int)*b.natAbs:=sy (by omega) (by omega);have n1:=yX (show(a.natAbs:Int)<=9223372036854775808 by omega) (show(b.natAbs:Int)<=9223372036854775808 by omega) (by omega) (by omega);obtain rfl:=Qw n0 (by omega) g4;refine fe ?_;have e:(if(!(decide (a<0)==decide (b<0)))=true then -((a.natAbs:Int)*b.natAbs)else(a.natAbs:Int)*b.natAbs)=a*b:=by
   by_cases h1:a<0<;>by_cases h2:b<0;rw[show(a.natAbs:Int) = -a by omega,show(b.natAbs:Int) = -b by omega];simp[h1,h2,Int.neg_mul,Int.mul_neg];rw[show(a.natAbs:Int) = -a by omega,show(b.natAbs:Int)=b by omega];simp[h1,h2,Int.neg_mul,Int.mul_neg];rw[show(a.natAbs:Int)=a by omega,show(b.natAbs:Int) = -b by omega];simp[h1,h2,Int.neg_mul,Int.mul_neg];rw[show(a.natAbs:Int)=a by omega,show(b.natAbs:Int)=b by omega];simp[h1,h2,Int.neg_mul,Int.mul_neg]
 show [DV.i (et (if(!(decide (a<0)==decide (b<0)))=true then -((a.natAbs:Int)*b.natAbs)else(a.natAbs:Int)*b.natAbs)),DV.i (fQ (if(!(decide (a<0)==decide (b<0)))=true then -((a.natAbs:Int)*b.natAbs)else(a.natAbs:Int)*b.natAbs))]=_;rw[e]
theorem div_pos{x d q r:Int}(hd:0<d)(e:x=q*d+r)(h0:0<=r)(h1:r<d):x/d=q/\x%d=r:=by
 have:=Int.ediv_emod_unique hd (a:=x) (q:=q) (r:=r);exact this.2 ⟨by rw[e,ko q d,Int.add_comm],h0,h1⟩
theorem aeX{h l m:Int}(h0:0<=h)(h1:h<m)(m1:m<18446744073709551616)(l0:0<=l)(l1:l<18446744073709551616){rs:List DV}(hg:Gf 241 [.i h,.i l,.i m] rs):rs=[.i ((h*18446744073709551616+l)/m),.i ((h*18446744073709551616+l)%m)]:=by
 obtain⟨eo,g,q⟩:=adl (X:=XF) rfl [.i h,.i l,.i m] ⟨h,l,m,rfl,h0,h1,m1,l0,l1⟩;cases hg.uf g;exact q h l m rfl
theorem quot{a d:Int}(a0:0<=a)(a1:a<170141183460469231731687303715884105728)(d1:1<=d)(d2:d<=9223372036854775807) :
   et a/d=et (a/d)/\(et a%d*18446744073709551616+fQ a)/d=fQ (a/d)/\(et a%d*18446744073709551616+fQ a)%d=a%d/\0<=et (a/d)/\et (a/d)<9223372036854775808/\0<=fQ (a/d)/\fQ (a/d)<18446744073709551616/\0<=a%d/\a%d<d/\0<=a/d:=by
 have hw:0<=et a/\et a<9223372036854775808:=by unfold et;omega
 have lw:0<=fQ a/\fQ a<18446744073709551616:=by unfold fQ;omega
 have ea:a=et a*18446744073709551616+fQ a:=by unfold et fQ;omega
 have r0:=yM (et a) (show d≠0 by omega);have r1:=xp (et a) (show 0<d by omega);have e1:=Int.mul_ediv_add_emod (et a) d;have y0:0<=et a%d*18446744073709551616+fQ a:=by omega
 have e2:=Int.mul_ediv_add_emod (et a%d*18446744073709551616+fQ a) d;have s0:=yM (et a%d*18446744073709551616+fQ a) (show d≠0 by omega);have s1:=xp (et a%d*18446744073709551616+fQ a) (show 0<d by omega);have t0:=uU y0 (show 0<=d by omega);have t1:(et a%d*18446744073709551616+fQ a)/d<18446744073709551616:=by
   refine DS (by omega) ?_;have:=yX (show et a%d<=d-1 by omega) (Int.le_refl (18446744073709551616:Int)) (by omega) (by omega);have e:(d-1)*18446744073709551616=d*18446744073709551616-18446744073709551616:=by omega
   have e':18446744073709551616*d=d*18446744073709551616:=ko ..;omega
 have u0:=uU hw.1 (show 0<=d by omega);have u1:=Int.ediv_le_self d hw.1;obtain⟨q,hq⟩:∃q,(et a%d*18446744073709551616+fQ a)/d=q:=⟨_,rfl⟩;obtain⟨r,hr⟩:∃r,(et a%d*18446744073709551616+fQ a)%d=r:=⟨_,rfl⟩;obtain⟨p,hp⟩:∃p,et a/d=p:=⟨_,rfl⟩;obtain⟨k,hk⟩:∃k,et a%d=k:=⟨_,rfl⟩;rw[hq,hr,hk]at e2;rw[hp,hk]at e1;rw[hq]at t0 t1;rw[hr]at s0 s1;rw[hp]at u0 u1;have key:a=(p*18446744073709551616+q)*d+r:=by
   have e3:(p*18446744073709551616+q)*d+r=(d*p)*18446744073709551616+(d*q+r):=by grind
   rw[e3];omega
 obtain⟨v1,v2⟩:=div_pos (by omega) key s0 s1;rw[hp,hq,hr,v1,v2];unfold et fQ;unfold et at u1 hw;omega
theorem aeY{a d:Int}(ha:Dg a)(d1:1<=d)(d2:d<=9223372036854775807){rs:List DV}(hg:Gf 198 [.i (et a),.i (fQ a),.i d] rs):rs=[.i (et (a/d)),.i (fQ (a/d)),.i (a%d),.b true]:=by
 refine cX (R:=fun rs=>rs=[DV.i (et (a/d)),.i (fQ (a/d)),.i (a%d),.b true]) al2 ?_ hg;have wd:IntKind.u64.wrap d=d:=by rw[oS];omega
 have four:∀p q r p' q' r':Int,p=p'->q=q'->r=r'->[DV.i p,DV.i q,DV.i r,DV.b true]=[.i p',.i q',.i r',.b true]:=fun p q r p' q' r' h1 h2 h3=>by rw[h1,h2,h3]
 refine IH (by show decide (d<1)=false;exact decide_eq_false (by omega)) (iC (fun hc=>?_) (fun hc=>?_));have hc:et a<0:=mC hc;have an:a<0:=by unfold et at hc;omega
 refine cM fun r1 g1=>?_;have g1:Gf 240 [.i (et a),.i (fQ a)] r1:=bC bX (iE (by simp)) g1;obtain rfl:=Bd ha g1;obtain⟨k1,k2,k3,k4,k5,k6,k7,k8,k9,k10⟩:=quot (a:=-a) (by omega) (by omega) d1 d2;have wn:IntKind.u64.wrap (et (-a))=et (-a):=by rw[oS];unfold et;omega
 have iq:0<=et (-a):=by unfold et;omega
 have ln:0<=fQ (-a)/\fQ (-a)<18446744073709551616:=by unfold fQ;omega
 refine gn fun _=>cM fun r2 g2=>?_;have g2:Gf 241 [.i ((IntKind.u64.wrap (et (-a))).tmod (IntKind.u64.wrap d)),.i (fQ (-a)),.i (IntKind.u64.wrap d)] r2:=bC bX (iE (by simp)) g2;rw[wn,wd,Int.tmod_eq_emod_of_nonneg iq]at g2;obtain rfl:=aeX (yM _ (by omega)) (xp _ (by omega)) (by omega) ln.1 ln.2 g2;rw[k2,k3];refine IH (by show decide (0<=et a)=false;exact decide_eq_false (by omega)) (cM fun r3 g3=>?_);have g3:Gf 240 [.i (IntKind.i64.wrap (IntKind.u64.wrap ((IntKind.u64.wrap (et (-a))).tdiv (IntKind.u64.wrap d)))),.i (fQ (-a/d))] r3:=bC bX (iE (by simp)) g3;rw[wn,wd,DQ iq,k1,show IntKind.u64.wrap (et (-a/d))=et (-a/d)by rw[oS];omega,show IntKind.i64.wrap (et (-a/d))=et (-a/d)by rw[tk];omega]at g3;have qb: -a/d<=-a:=Int.ediv_le_self _ (by omega);obtain rfl:=Bd (by constructor<;>omega) g3;have e0:=Int.mul_ediv_add_emod (-a) d;refine iC (fun hr=>?_) (fun hr=>?_);have hr: -a%d=0:=mC hr;rw[hr]at e0;obtain⟨v1,v2⟩:=div_pos (x:=a) (d:=d) (q:=-(-a/d)) (r:=0) (by omega) (by rw[Int.neg_mul,ko];omega) (by omega) (by omega);refine fe ?_;rw[v1,v2];rfl;have hr:¬ -a%d=0:=Fc hr;obtain⟨v1,v2⟩:=div_pos (x:=a) (d:=d) (q:=-(-a/d)-1) (r:=d - -a%d) (by omega) (by rw[Int.sub_mul,Int.neg_mul,ko (-a/d) d];omega) (by omega) (by omega);refine cM fun r4 g4=>?_;have g4:Gf 242 [.i (et (-(-a/d))),.i (fQ (-(-a/d))),.i 0,.i 1] r4:=bC bX (iE (by simp)) g4;have dd:=qF (show 2<=d by omega) k10;obtain rfl:=aeV (a:=-(-a/d)) (b:=1) (by constructor<;>omega) (by constructor<;>omega) (by constructor<;>omega) g4;refine fe ?_;rw[v1,v2];refine four _ _ _ _ _ _ rfl rfl ?_;show IntKind.i64.wrap (IntKind.u64.wrap (IntKind.u64.wrap d - -a%d))=_;rw[wd,oS,tk];omega;have hc:¬ et a<0:=Fc hc;have an:0<=a:=by unfold et at hc;omega
 obtain⟨k1,k2,k3,k4,k5,k6,k7,k8,k9,k10⟩:=quot (a:=a) an (by omega) d1 d2;have wn:IntKind.u64.wrap (et a)=et a:=by rw[oS];unfold et;omega
 have iq:0<=et a:=by omega
 have ln:0<=fQ a/\fQ a<18446744073709551616:=by unfold fQ;omega
 refine gn fun _=>cM fun r2 g2=>?_;have g2:Gf 241 [.i ((IntKind.u64.wrap (et a)).tmod (IntKind.u64.wrap d)),.i (fQ a),.i (IntKind.u64.wrap d)] r2:=bC bX (iE (by simp)) g2;rw[wn,wd,Int.tmod_eq_emod_of_nonneg iq]at g2;obtain rfl:=aeX (yM _ (by omega)) (xp _ (by omega)) (by omega) ln.1 ln.2 g2;rw[k2,k3];refine Qf (by show decide (0<=et a)=true;exact gQ (by omega)) (fe ?_);refine four _ _ _ _ _ _ ?_ rfl ?_;show IntKind.i64.wrap (IntKind.u64.wrap ((IntKind.u64.wrap (et a)).tdiv (IntKind.u64.wrap d)))=_;rw[wn,wd,DQ iq,k1,oS,tk];omega;show IntKind.i64.wrap (a%d)=_;rw[tk];omega
end
section
open Go.Sx Go
def t67:au:=
.ite (.eq (.v 0) (.c 0)) (
.ret [.i (.wrap .i64 (.sub (.v 8) (.c 1)))]) (
.ite (.eq (.v 0) (.c 1)) (
.ret [.i (.wrap .i64 (.add (.v 7) (.v 8)))]) (
.ite (.eq (.v 0) (.c 2)) (
.ret [.i (.wrap .i64 (.sub (.v 8) (.v 7)))]) (
.ev (.call 101 (.c true) (iv 5 8) [.agg [.c i6,.c i6,.c i6,.c i6]] 15) (
.ret [.i (.wrap .i64 (.add (.wrap .i64 (.add (.wrap .i64 (.add (.wrap .i64 (.wrap .i64 (.mul (.v 1) (.v 15)))) (.wrap .i64 (.mul (.v 2) (.v 16))))) (.wrap .i64 (.mul (.v 3) (.v 17))))) (.wrap .i64 (.mul (.v 4) (.v 18)))))]))))
theorem T67:TT Tryz.prog 67=some ⟨67,t67,(rowOf 67).sub⟩:=by kernel_rfl
def t101:au:=
.ret (iv 0 4)
theorem al4:TT Tryz.prog 101=some ⟨101,t101,(rowOf 101).sub⟩:=by kernel_rfl
def t109:au:=
.ev (.call 67 (.c true) (iv 0 13) [oI] 1048) (
.ev (.call 67 (.c true) (iv 0 5++iv 13 8) [oI] 2584) (
.ite (.and (.lt (.v 1048) (.c 0)) (.lt (.v 2584) (.c 0))) (
.ret [.i (.c 3),.i (.c 0),.i (.c 0)]) (
.ite (.lt (.v 1048) (.c 0)) (
.ret [.i (.c 1),.i (.wrap .i64 (.sub (.c 0) (.v 1048))),.i (.wrap .i64 (.sub (.v 2584) (.v 1048)))]) (
.ite (.lt (.v 2584) (.c 0)) (
.ret [.i (.c 2),.i (.v 1048),.i (.wrap .i64 (.sub (.v 1048) (.v 2584)))]) (
.ret [.i (.c 0),.i (.c 0),.i (.c 0)])))))
theorem al5:TT Tryz.prog 109=some ⟨109,t109,(rowOf 109).sub⟩:=by kernel_rfl
def t110:au:=
.ev (.call 156 (.c true) [.i (.v 0),.i (.v 3)] [.agg [.c i6,.c (.i .u64)]] 2054) (
.ev (.call 156 (.c true) [.i (.v 2),.i (.v 1)] [.agg [.c i6,.c (.i .u64)]] 4614) (
.ev (.call 155 (.c true) [.i (.v 2054),.i (.v 2055),.i (.v 4614),.i (.v 4615)] [oI] 5126) (
.ret [.b (.lt (.v 5126) (.c 0))])))
theorem al6:TT Tryz.prog 110=some ⟨110,t110,(rowOf 110).sub⟩:=by kernel_rfl
def t158:au:=
.ev (.call 156 (.c true) [.i (.wrap .i64 (.sub (.v 1) (.v 0))),.i (.v 2)] [.agg [.c i6,.c (.i .u64)]] 4) (
.ev (.call 198 (.c true) [.i (.v 4),.i (.v 5),.i (.v 3)] [.agg [.c i6,.c (.i .u64)],oI,oB] 6) (
.ev (.call 199 (.c true) [.i (.v 6),.i (.v 7)] [oI,oB] 11) (
.ret [.i (.wrap .i64 (.add (.v 0) (.v 11)))])))
theorem al7:TT Tryz.prog 158=some ⟨158,t158,(rowOf 158).sub⟩:=by kernel_rfl
def t111:au:=
.ev (.call 157 (.c true) (iv 0 8) [oB] 21) (
.ev (.call 157 (.v 21) (iv 8 8) [oB] 22) (
.ite (.or (.or (.or (.or (.not (.v 21)) (.not (.v 22))) (.lt (.v 17) (.c 1))) (.lt (.v 16) (.c 0))) (.lt (.v 17) (.v 16))) (
.ret [.i (.c 0),.i (.c 0),.i (.c 0),.i (.c 0),.i (.c 0),.i (.c 0),.i (.c 0),.i (.c 0),.i (.c 1)]) (
.ev (.call 101 (.c true) (iv 0 8) [.agg [.c i6,.c i6,.c i6,.c i6]] 535) (
.ev (.call 101 (.c true) (iv 8 8) [.agg [.c i6,.c i6,.c i6,.c i6]] 1559) (
.ev (.call 158 (.c true) [.i (.v 535),.i (.v 1559),.i (.v 16),.i (.v 17)] [oI] 7194) (
.ev (.call 158 (.c true) [.i (.v 4),.i (.v 12),.i (.v 16),.i (.v 17)] [oI] 12827) (
.ev (.call 158 (.c true) [.i (.v 536),.i (.v 1560),.i (.v 16),.i (.v 17)] [oI] 17436) (
.ev (.call 158 (.c true) [.i (.v 5),.i (.v 13),.i (.v 16),.i (.v 17)] [oI] 23069) (
.ev (.call 158 (.c true) [.i (.v 537),.i (.v 1561),.i (.v 16),.i (.v 17)] [oI] 27678) (
.ev (.call 158 (.c true) [.i (.v 6),.i (.v 14),.i (.v 16),.i (.v 17)] [oI] 33311) (
.ev (.call 158 (.c true) [.i (.v 538),.i (.v 1562),.i (.v 16),.i (.v 17)] [oI] 37920) (
.ev (.call 158 (.c true) [.i (.v 7),.i (.v 15),.i (.v 16),.i (.v 17)] [oI] 43553) (
.ret [.i (.v 7194),.i (.v 17436),.i (.v 27678),.i (.v 37920),.i (.v 12827),.i (.v 23069),.i (.v 33311),.i (.v 43553),.i (.c 0)])))))))))))))
theorem al8:TT Tryz.prog 111=some ⟨111,t111,(rowOf 111).sub⟩:=by kernel_rfl
theorem aap:([67,101,109,110,158,111,71].all fun k=>jC (rowOf k).sub)=true:=by kernel_rfl
theorem cD{k:Nat}(h:k∈[67,101,109,110,158,111,71]):jC (rowOf k).sub=true:=jE.1 aap k h
theorem qi{n:Int}(h:wJ n):IntKind.i64.wrap n=n:=by rw[tk];omega
theorem G2(n:Int):wJ (IntKind.i64.wrap n):=by rw[tk];constructor<;>omega
def MH(p q n d:Int):Int:=IntKind.i64.wrap (p+IntKind.i64.wrap (q-p)*n/d)
theorem VI{w n d:Int}(hw:wJ w)(h0:0<=n)(h1:n<=d)(h2:1<=d)(h3:d<=9223372036854775807):Dg (w*n)/\wJ (w*n/d):=by
 have a1:=qF hw.2 h0;have a2:=qF hw.1 h0;have b1:=o9 h1 (show(0:Int)<=9223372036854775807 by omega);have b2:=o9 h1 (show(0:Int)<=9223372036854775808 by omega);have e:=Int.mul_ediv_add_emod (w*n) d;have r0:=yM (w*n) (show d≠0 by omega);have r1:=xp (w*n) (show 0<d by omega);refine⟨by constructor<;>omega,?_,?_⟩;refine Int.le_ediv_of_mul_le (by omega) ?_;omega;refine Int.ediv_le_of_le_mul (by omega) ?_;omega
theorem yI{p q n d:Int}(h0:0<=n)(h1:n<=d)(h2:1<=d)(h3:d<=9223372036854775807){rs:List DV}(hg:Gf 158 [.i p,.i q,.i n,.i d] rs):rs=[.i (MH p q n d)]:=by
 refine cX (R:=fun rs=>rs=[DV.i (MH p q n d)]) al7 ?_ hg;obtain⟨k1,k2⟩:=VI (G2 (q-p)) h0 h1 h2 h3;refine cM fun r1 g1=>?_;have g1:Gf 156 [.i (IntKind.i64.wrap (q-p)),.i n] r1:=bC bX (cD (by simp)) g1;obtain rfl:=Qx (G2 _) (by constructor<;>omega) g1;refine cM fun r2 g2=>?_;have g2:Gf 198 [.i (et (IntKind.i64.wrap (q-p)*n)),.i (fQ (IntKind.i64.wrap (q-p)*n)),.i d] r2:=bC bX (cD (by simp)) g2;obtain rfl:=aeY k1 h2 h3 g2;refine cM fun r3 g3=>?_;have g3:Gf 199 [.i (et (IntKind.i64.wrap (q-p)*n/d)),.i (fQ (IntKind.i64.wrap (q-p)*n/d))] r3:=bC bX (cD (by simp)) g3;obtain rfl:=VG k2 g3;exact fe rfl
theorem Qy{w n d n' d':Int}(hd:1<=d)(YK:1<=d')(h:n*d'=n'*d):w*n/d=w*n'/d':=by
 have e1:w*n/d=(w*n*d')/(d*d'):=(Int.mul_ediv_mul_of_pos_left _ _ (by omega)).symm;have e2:w*n'/d'=(w*n'*d)/(d'*d):=(Int.mul_ediv_mul_of_pos_left _ _ (by omega)).symm;rw[e1,e2,ko d' d,Int.mul_assoc w n d',Int.mul_assoc w n' d,h]
theorem MI{p q n d n' d':Int}(hd:1<=d)(YK:1<=d')(h:n*d'=n'*d):MH p q n d=MH p q n' d':=by
 unfold MH;rw[Qy hd YK h]
def atV(u v:List Int)(n d:Int):List DV:=(List.range 8).map fun j=>.i (MH (u.getD j 0) (v.getD j 0) n d)
def AtR(u v:List Int)(n d:Int)(rs:List DV):Prop:=
 (Gf 157 (cells 8 u) [.b true]/\Gf 157 (cells 8 v) [.b true]/\rs=atV u v n d++[.i 0])\/((Gf 157 (cells 8 u) [.b false]\/Gf 157 (cells 8 v) [.b false])/\rs=List.replicate 8 (.i 0)++[.i 1])
theorem Ks:kI 157=some ⟨(kI 157).get!.args,[oB],0⟩:=by kernel_rfl
theorem Qz{k:Nat}{s:bR}(hs:kI k=some s)(hc:bI s.res=[.c .b]){ds rs:List DV}(hg:Gf k ds rs):∃b,rs=[.b b]:=by
 have:=bX.kd k s ds rs hs hg;rw[hc]at this;obtain⟨b,r,rfl,h⟩:=adn this;obtain rfl:=iT h;exact⟨b,rfl⟩
theorem IM{x0 x1 x2 x3 x4 x5 x6 x7:Int}{rs:List DV}(hg:Gf 101 [.i x0,.i x1,.i x2,.i x3,.i x4,.i x5,.i x6,.i x7] rs):rs=[.i x0,.i x1,.i x2,.i x3]:=
 cX (R:=fun rs=>rs=[DV.i x0,.i x1,.i x2,.i x3]) al4 (fe rfl) hg
theorem aeZ{u v:List Int}{n d:Int}(h0:0<=n)(h1:n<=d)(h2:1<=d)(h3:d<=9223372036854775807){rs:List DV}(hg:Gf 111 (cells 8 u++cells 8 v++[.i n,.i d]) rs):AtR u v n d rs:=by
 refine cX (R:=AtR u v n d) al8 ?_ hg;have bad:∀ {e:az} {Ps F},Gf 157 (cells 8 u) [.b false]\/Gf 157 (cells 8 v) [.b false]->(au.ret [.i (.c 0),.i (.c 0),.i (.c 0),.i (.c 0),.i (.c 0),.i (.c 0),.i (.c 0),.i (.c 0),.i (.c 1)]).par (fun g=>cK (TT Tryz.prog) XF ((⟨111,t111,(rowOf 111).sub⟩:iG).key g)) (AtR u v n d) Ps e F:=fun h=>fe (.inr ⟨h,rfl⟩);refine cM fun r1 g1=>?_;have g1:Gf 157 (cells 8 u) r1:=bC bX (cD (by simp)) g1;obtain⟨b1,rfl⟩:=Qz Ks rfl g1;refine wx (fun hb r2 g2=>?_) (fun hb=>?_);have hb:b1=true:=hb;subst hb;have g2:Gf 157 (cells 8 v) r2:=bC bX (cD (by simp)) g2;obtain⟨b2,rfl⟩:=Qz Ks rfl g2;refine iC (fun hc=>?_) (fun hc=>?_);have hc:(((((!true)||(!b2))||decide (d<1))||decide (n<0))||decide (d<n))=true:=hc;cases b2 with
 |false=>exact bad (.inr g2)
 | true=>
   exfalso;simp at hc;omega
 have hc:(((((!true)||(!b2))||decide (d<1))||decide (n<0))||decide (d<n))=false:=hc;cases b2 with
 |false=>simp at hc
 | true=>
   refine cM fun r3 g3=>?_;have g3:Gf 101 (cells 8 u) r3:=bC bX (cD (by simp)) g3;obtain rfl:=IM g3;refine cM fun r4 g4=>?_;have g4:Gf 101 (cells 8 v) r4:=bC bX (cD (by simp)) g4;obtain rfl:=IM g4;refine cM fun r5 g5=>?_;have g5:Gf 158 [.i (u.getD 0 0),.i (v.getD 0 0),.i n,.i d] r5:=bC bX (cD (by simp)) g5;obtain rfl:=yI h0 h1 h2 h3 g5;refine cM fun r6 g6=>?_;have g6:Gf 158 [.i (u.getD 4 0),.i (v.getD 4 0),.i n,.i d] r6:=bC bX (cD (by simp)) g6;obtain rfl:=yI h0 h1 h2 h3 g6;refine cM fun r7 g7=>?_;have g7:Gf 158 [.i (u.getD 1 0),.i (v.getD 1 0),.i n,.i d] r7:=bC bX (cD (by simp)) g7;obtain rfl:=yI h0 h1 h2 h3 g7;refine cM fun r8 g8=>?_;have g8:Gf 158 [.i (u.getD 5 0),.i (v.getD 5 0),.i n,.i d] r8:=bC bX (cD (by simp)) g8;obtain rfl:=yI h0 h1 h2 h3 g8;refine cM fun r9 g9=>?_;have g9:Gf 158 [.i (u.getD 2 0),.i (v.getD 2 0),.i n,.i d] r9:=bC bX (cD (by simp)) g9;obtain rfl:=yI h0 h1 h2 h3 g9;refine cM fun Y' g10=>?_;have g10:Gf 158 [.i (u.getD 6 0),.i (v.getD 6 0),.i n,.i d] Y':=bC bX (cD (by simp)) g10;obtain rfl:=yI h0 h1 h2 h3 g10;refine cM fun Za g11=>?_;have g11:Gf 158 [.i (u.getD 3 0),.i (v.getD 3 0),.i n,.i d] Za:=bC bX (cD (by simp)) g11;obtain rfl:=yI h0 h1 h2 h3 g11;refine cM fun r12 g12=>?_;have g12:Gf 158 [.i (u.getD 7 0),.i (v.getD 7 0),.i n,.i d] r12:=bC bX (cD (by simp)) g12;obtain rfl:=yI h0 h1 h2 h3 g12;exact fe (.inl ⟨g1,g2,rfl⟩)
 have hb:b1=false:=hb;subst hb;exact Qf rfl (bad (.inl g1))
theorem G3{u v:List Int}{n d n' d':Int}(h0:0<=n)(h1:n<=d)(h2:1<=d)(h3:d<=9223372036854775807)(h0':0<=n')(uK:n'<=d')(Hi:1<=d')(T8:d'<=9223372036854775807)(h:n*d'=n'*d){r r':List DV}
   (hg:Gf 111 (cells 8 u++cells 8 v++[.i n,.i d]) r) (zh:Gf 111 (cells 8 u++cells 8 v++[.i n',.i d']) r'):r=r':=by
 have ne:∀ {x:List DV},Gf 157 x [.b true]->Gf 157 x [.b false]->False:=fun a b=>by have:=a.uf b;cases this
 rcases aeZ h0 h1 h2 h3 hg with⟨a1,a2,rfl⟩|⟨a1,rfl⟩<;>rcases aeZ h0' uK Hi T8 zh with⟨b1,b2,rfl⟩|⟨b1,rfl⟩;unfold atV;simp only[MI h2 Hi h];rcases b1 with b1|b1;exact(ne a1 b1).elim;exact(ne a2 b1).elim;rcases a1 with a1|a1;exact(ne b1 a1).elim;exact(ne b2 a1).elim;rfl
theorem IN{a b c d:Int}(ha:wJ a)(hb:wJ b)(hc:wJ c)(hd:wJ d){rs:List DV}(hg:Gf 110 [.i a,.i b,.i c,.i d] rs):rs=[.b (decide (a*d<c*b))]:=by
 refine cX (R:=fun rs=>rs=[DV.b (decide (a*d<c*b))]) al6 ?_ hg;refine cM fun r1 g1=>?_;have g1:Gf 156 [.i a,.i d] r1:=bC bX (cD (by simp)) g1;obtain rfl:=Qx ha hd g1;refine cM fun r2 g2=>?_;have g2:Gf 156 [.i c,.i b] r2:=bC bX (cD (by simp)) g2;obtain rfl:=Qx hc hb g2;refine cM fun r3 g3=>?_;have g3:Gf 155 [.i (et (a*d)),.i (fQ (a*d)),.i (et (c*b)),.i (fQ (c*b))] r3:=bC bX (cD (by simp)) g3;obtain rfl:=aeW g3;refine fe ?_;show [DV.b (decide ((if a*d<c*b then(-1:Int)else if a*d=c*b then 0 else 1)<0))]=_;have:((if a*d<c*b then(-1:Int)else if a*d=c*b then 0 else 1)<0)↔a*d<c*b:=by
   by_cases h1:a*d<c*b;rw[if_pos h1];omega;rw[if_neg h1];by_cases h2:a*d=c*b;rw[if_pos h2];omega;rw[if_neg h2];omega
 rw[decide_eq_decide.2 this]
def rj(s:List Int):Prop:=∀j,1<=j->j<=4->-32768<=s.getD j 0/\s.getD j 0<=32768
def mB(v:List Int):Prop:=∀j,j<4->-68719476736<=v.getD j 0/\v.getD j 0<=68719476736
abbrev Dh(x:Int):Prop:=-4611686018427387904<x/\x<4611686018427387904
theorem zt{a b:Int}(ha: -32768<=a/\a<=32768)(hb: -68719476736<=b/\b<=68719476736): -2251799813685248<=a*b/\a*b<=2251799813685248:=by
 rcases Int.le_total 0 a with h|h;have h1:=o9 hb.2 h;have h2:=o9 hb.1 h;omega;have h1:=o9 hb.2 (show 0<=-a by omega);have h2:=o9 hb.1 (show 0<=-a by omega);have e: -a*b = -(a*b):=Int.neg_mul ..;omega
theorem QA{s v:List Int}(hs:rj s)(hv:mB v){rs:List DV}(hg:Gf 67 (cells 5 s++cells 8 v) rs):∃x,rs=[.i x]/\Dh x:=by
 refine cX (R:=fun rs=>∃x,rs=[DV.i x]/\Dh x) T67 ?_ hg;have v2:=hv 2 (by omega);have v3:=hv 3 (by omega);have v0:=hv 0 (by omega);have v1:=hv 1 (by omega)
 refine iC (fun _=>fe ⟨_,rfl,?_⟩) (fun _=>iC (fun _=>fe ⟨_,rfl,?_⟩) (fun _=>iC (fun _=>fe ⟨_,rfl,?_⟩) (fun _=>?_)));show Dh (IntKind.i64.wrap (v.getD 3 0-1));rw[qi (by constructor<;>omega)];constructor<;>omega;show Dh (IntKind.i64.wrap (v.getD 2 0+v.getD 3 0));rw[qi (by constructor<;>omega)];constructor<;>omega;show Dh (IntKind.i64.wrap (v.getD 3 0-v.getD 2 0));rw[qi (by constructor<;>omega)];constructor<;>omega;refine cM fun r g=>?_;have g:Gf 101 (cells 8 v) r:=bC bX (cD (by simp)) g;obtain rfl:=IM g;refine fe ⟨_,rfl,?_⟩;have p1:=zt (hs 1 (by omega) (by omega)) v0;have p2:=zt (hs 2 (by omega) (by omega)) v1;have p3:=zt (hs 3 (by omega) (by omega)) v2;have p4:=zt (hs 4 (by omega) (by omega)) v3;show Dh (IntKind.i64.wrap (IntKind.i64.wrap (IntKind.i64.wrap (IntKind.i64.wrap (IntKind.i64.wrap (s.getD 1 0*v.getD 0 0))+IntKind.i64.wrap (s.getD 2 0*v.getD 1 0))+IntKind.i64.wrap (s.getD 3 0*v.getD 2 0))+IntKind.i64.wrap (s.getD 4 0*v.getD 3 0)));simp only[tk];generalize s.getD 1 0*v.getD 0 0=a at *;generalize s.getD 2 0*v.getD 1 0=b at *;generalize s.getD 3 0*v.getD 2 0=c at *;generalize s.getD 4 0*v.getD 3 0=d at *;constructor<;>omega
def QB(rs:List DV):Prop:=∃k n d:Int,rs=[.i k,.i n,.i d]/\(k=0\/k=3\/((k=1\/k=2)/\0<=n/\n<=d/\1<=d/\d<=9223372036854775807))
theorem aaq{s u v:List Int}(hs:rj s)(hu:mB u)(hv:mB v){rs:List DV}(hg:Gf 109 (cells 5 s++cells 8 u++cells 8 v) rs):QB rs:=by
 refine cX (R:=QB) al5 ?_ hg;refine cM fun r1 g1=>?_;have g1:Gf 67 (cells 5 s++cells 8 u) r1:=bC bX (cD (by simp)) g1;obtain⟨p,rfl,hp⟩:=QA hs hu g1;refine cM fun r2 g2=>?_;have g2:Gf 67 (cells 5 s++cells 8 v) r2:=bC bX (cD (by simp)) g2;obtain⟨q,rfl,hq⟩:=QA hs hv g2;refine iC (fun _=>fe ⟨_,_,_,rfl,.inr (.inl rfl)⟩) (fun hc=>iC (fun h1=>fe ⟨_,_,_,rfl,.inr (.inr ⟨.inl rfl,?_⟩)⟩) (fun h1=>iC (fun h2=>fe ⟨_,_,_,rfl,.inr (.inr ⟨.inr rfl,?_⟩)⟩) (fun _=>fe ⟨_,_,_,rfl,.inl rfl⟩)));have hc:(decide (p<0)&&decide (q<0))=false:=hc;have h1:p<0:=mC h1;rw[gQ h1,Bool.true_and,tZ]at hc;show 0<=IntKind.i64.wrap (0-p)/\IntKind.i64.wrap (0-p)<=IntKind.i64.wrap (q-p)/\1<=IntKind.i64.wrap (q-p)/\IntKind.i64.wrap (q-p)<=9223372036854775807;rw[qi (by constructor<;>omega),qi (by constructor<;>omega)];omega;have h1:¬ p<0:=Fc h1;have h2:q<0:=mC h2;show 0<=p/\p<=IntKind.i64.wrap (p-q)/\1<=IntKind.i64.wrap (p-q)/\IntKind.i64.wrap (p-q)<=9223372036854775807;rw[qi (by constructor<;>omega)];omega
end
end Go.Proofs.YtohebioanhliiaaGreatDoor.aF

/- What xint computes. -/
import Derived.Test.YtohebioanhliiaaGreatDoorGZ1
set_option maxRecDepth 100000
set_option linter.unusedVariables false
set_option linter.unusedSimpArgs false
namespace Go.Proofs.YtohebioanhliiaaGreatDoor.av
section
open Go.Sx Go
variable {X:bY}
variable{k:Nat}{s:List (FuncId×Nat)}{t:au}
def mC(s:List (FuncId×Nat)):Bool:=s.all fun p=>Nat.beq p.2 999999
theorem abO(h:mC s=true)(g:FuncId):(⟨k,t,s⟩:ir).key g=g\/(⟨k,t,s⟩:ir).key g=999999:=by
 show(match s.find? (fun p=>p.1==g)with
   |some p=>p.2
   |none=>g)=g\/(match s.find? (fun p=>p.1==g)with
   |some p=>p.2
   |none=>g)=999999
 cases hf:s.find? (fun p=>p.1==g)with
 |none=>exact .inl rfl
 |some p=>exact .inr (mq (kG.1 h p (A8 hf)))
theorem aP(hX:Zn X)(h:mC s=true){g:FuncId}{ds rs:List DV}(hg:eR (TT PP) X ((⟨k,t,s⟩:ir).key g) ds rs):eR (TT PP) X g ds rs:=by
 rcases abO (k:=k) (t:=t) h g with e|e;rwa[e]at hg;rw[e]at hg;exact(SD hX.no hg).elim
section
variable {E:Nat->List DV->List DV->Prop}{R:List DV->Prop}{Ps:List (Int->Prop)}{ae:aH}{F:Nat->List DV->Prop}{t t':au}
variable{id:Nat}{c:BE}
theorem bh{p:BE}(ht:p.af ae=true->t.par E R Ps ae F):(au.ev (.aL p) t).par E R Ps ae F:=ht
theorem xV{op:dw}(ht:t.par E R Ps (ae.set id (.l (op.af ae))) F):(au.ev (.cH id op) t).par E R Ps ae F:=ht
theorem ll{entry:List DE}{ks:List CT}{base:Nat}{body:au}(inv:List DV->Prop)(h0:inv (entry.map (DE.af ae)))
   (hb:∀ds,inv ds->body.par E R Ps (ae.aB base ds) (qv F id inv)):(au.loop id entry ks base body).par E R Ps ae F:=⟨inv,h0,hb⟩
theorem vb{bP:List DE}{G:List DV->Prop}(h:G (bP.map (DE.af ae))):(au.again id bP).par E R Ps ae (qv F id G):=by
 simpa[au.par,qv]using h
theorem gb{a b:IE}(h1:a.af ae<b.af ae->t.par E R Ps ae F)(h2:b.af ae<=a.af ae->t'.par E R Ps ae F):(au.ite (.lt a b) t t').par E R Ps ae F:=
 lk (fun h=>h1 (mW h)) (fun h=>h2 (Int.not_lt.1 (Jq h)))
theorem Gj{a b:IE}(h1:a.af ae=b.af ae->t.par E R Ps ae F)(h2:a.af ae≠b.af ae->t'.par E R Ps ae F):(au.ite (.eq a b) t t').par E R Ps ae F:=
 lk (fun h=>h1 (mW h)) (fun h=>h2 (Jq h))
theorem Sr(hc:c.af ae=true)(h:t.par E R Ps ae F):(au.ite c t t').par E R Ps ae F:=lk (fun _=>h) (fun h'=>by rw[hc]at h';cases h')
theorem OR(hc:c.af ae=false)(h:t'.par E R Ps ae F):(au.ite c t t').par E R Ps ae F:=lk (fun h'=>by rw[hc]at h';cases h') (fun _=>h)
end
theorem oY(e:aH)(b:Nat)(ds:List DV):∃e':aH,e'=e.aB b ds/\(∀k,k<b->e' k=e k)/\∀j,j<ds.length->e' (b+j)=ds.getD j (.i 0):=
 ⟨_,rfl,fun k hk=>aH.cA hk,fun j hj=>zm hj⟩
theorem Ip(e:aH)(b:Nat)(d:DV):∃e':aH,e'=e.set b d/\(∀k,k<b->e' k=e k)/\e' b=d:=by
 refine⟨_,rfl,fun k hk=>?_,?_⟩;simp only[aH.set];rw[if_neg (by omega)];simp only[aH.set,if_pos]
theorem lQ(n:Int):IntKind.u64.wrap n=n%18446744073709551616:=IntKind.wrap_u64 n
end
section
open Go.Sx Go
def uB(b:Nat):List DE:=pA.zipIdx.map fun x=>match x.1 with
 |.i _ _=>.i (.v (b+x.2))
 |.b=>.b (.v (b+x.2))
 |_=>.l (b+x.2)
end
section
open Go.Sx Go
variable{rs:List DV}{d x c y:Int}{k:Nat}{s:Int}
def t139:au:=
.ret [.i (.wrap .u64 (.add (.wrap .u64 (.add (.wrap .u64 (.mul (.ediv (.v 0) 4294967296) (.ediv (.v 1) 4294967296))) (.ediv (.wrap .u64 (.add (.wrap .u64 (.mul (.ediv (.v 0) 4294967296) (.emod (.v 1) 4294967296))) (.ediv (.wrap .u64 (.mul (.emod (.v 0) 4294967296) (.emod (.v 1) 4294967296))) 4294967296))) 4294967296))) (.ediv (.wrap .u64 (.add (.emod (.wrap .u64 (.add (.wrap .u64 (.mul (.ediv (.v 0) 4294967296) (.emod (.v 1) 4294967296))) (.ediv (.wrap .u64 (.mul (.emod (.v 0) 4294967296) (.emod (.v 1) 4294967296))) 4294967296))) 4294967296) (.wrap .u64 (.mul (.emod (.v 0) 4294967296) (.ediv (.v 1) 4294967296))))) 4294967296))),.i (.wrap .u64 (.mul (.v 0) (.v 1)))]
theorem alz:TT PP 139=some ⟨139,t139,(rowOf 139).sub⟩:=by kernel_rfl
def t196:au:=
.ite (.lt (.v 0) (.c 0)) (
.ret [.i (.wrap .u64 (.sub (.c 0) (.wrap .u64 (.v 0))))]) (
.ret [.i (.wrap .u64 (.v 0))])
theorem ae':TT PP 196=some ⟨196,t196,(rowOf 196).sub⟩:=by kernel_rfl
def t197:au:=
.ite (.v 2) (
.ev (.call 240 (.c true) [.i (.wrap .i64 (.v 0)),.i (.v 1)] [.agg [.c i6,.c (.i .u64)]] 5) (
.ret [.i (.v 5),.i (.v 6),.b (.or (.lt (.v 5) (.c 0)) (.and (.eq (.v 5) (.c 0)) (.eq (.v 6) (.c 0))))])) (
.ret [.i (.wrap .i64 (.v 0)),.i (.v 1),.b (.le (.c 0) (.wrap .i64 (.v 0)))])
theorem alA:TT PP 197=some ⟨197,t197,(rowOf 197).sub⟩:=by kernel_rfl
def t156:au:=
.ev (.call 196 (.c true) [.i (.v 0)] [.one (.c (.i .u64))] 3) (
.ev (.call 196 (.c true) [.i (.v 1)] [.one (.c (.i .u64))] 4) (
.ev (.call 139 (.c true) [.i (.v 3),.i (.v 4)] [.one (.c (.i .u64)),.one (.c (.i .u64))] 5) (
.ev (.call 197 (.c true) [.i (.v 5),.i (.v 6),.b (.not (.iff (.lt (.v 0) (.c 0)) (.lt (.v 1) (.c 0))))] [.agg [.c i6,.c (.i .u64)],oB] 7) (
.ret [.i (.v 7),.i (.v 8)]))))
theorem alB:TT PP 156=some ⟨156,t156,(rowOf 156).sub⟩:=by kernel_rfl
def t240:au:=
.ev (.call 266 (.c true) [.i (.c 0),.i (.v 1),.i (.c 0)] [.one (.c (.i .u64)),.one (.c (.i .u64))] 4) (
.ev (.call 266 (.c true) [.i (.c 0),.i (.wrap .u64 (.v 0)),.i (.v 5)] [.one (.c (.i .u64)),.one (.c (.i .u64))] 6) (
.ret [.i (.wrap .i64 (.v 6)),.i (.v 4)]))
theorem alC:TT PP 240=some ⟨240,t240,(rowOf 240).sub⟩:=by kernel_rfl
def t242:au:=
.ev (.call 266 (.c true) [.i (.v 1),.i (.v 3),.i (.c 0)] [.one (.c (.i .u64)),.one (.c (.i .u64))] 7) (
.ev (.call 266 (.c true) [.i (.wrap .u64 (.v 0)),.i (.wrap .u64 (.v 2)),.i (.v 8)] [.one (.c (.i .u64)),.one (.c (.i .u64))] 9) (
.ite (.and (.not (.iff (.lt (.v 0) (.c 0)) (.lt (.v 2) (.c 0)))) (.not (.iff (.lt (.wrap .i64 (.v 9)) (.c 0)) (.lt (.v 0) (.c 0))))) (
.ret [.i (.c 0),.i (.c 0),.b (.c false)]) (
.ret [.i (.wrap .i64 (.v 9)),.i (.v 7),.b (.c true)])))
theorem alD:TT PP 242=some ⟨242,t242,(rowOf 242).sub⟩:=by kernel_rfl
def t214:au:=
.ev (.call 243 (.c true) [.i (.v 1),.i (.v 3),.i (.c 0)] [.one (.c (.i .u64)),.one (.c (.i .u64))] 7) (
.ev (.call 243 (.c true) [.i (.wrap .u64 (.v 0)),.i (.wrap .u64 (.v 2)),.i (.v 8)] [.one (.c (.i .u64)),.one (.c (.i .u64))] 9) (
.ite (.and (.iff (.lt (.v 0) (.c 0)) (.lt (.v 2) (.c 0))) (.not (.iff (.lt (.wrap .i64 (.v 9)) (.c 0)) (.lt (.v 0) (.c 0))))) (
.ret [.i (.c 0),.i (.c 0),.b (.c false)]) (
.ret [.i (.wrap .i64 (.v 9)),.i (.v 7),.b (.c true)])))
theorem alE:TT PP 214=some ⟨214,t214,(rowOf 214).sub⟩:=by kernel_rfl
def t198:au:=
.ite (.lt (.v 2) (.c 1)) (
.ret [.i (.c 0),.i (.c 0),.i (.c 0),.b (.c false)]) (
.ite (.lt (.v 0) (.c 0)) (
.ev (.call 240 (.c true) [.i (.v 0),.i (.v 1)] [.agg [.c i6,.c (.i .u64)]] 6) (
.ev (.aL (.sP (.wrap .u64 (.v 2)))) (
.ev (.call 241 (.c true) [.i (.tmod (.wrap .u64 (.v 6)) (.wrap .u64 (.v 2))),.i (.v 7),.i (.wrap .u64 (.v 2))] [.one (.c (.i .u64)),.one (.c (.i .u64))] 4104) (
.ite (.le (.c 0) (.v 0)) (
.ret [.i (.wrap .i64 (.wrap .u64 (.tdiv (.wrap .u64 (.v 6)) (.wrap .u64 (.v 2))))),.i (.v 4104),.i (.wrap .i64 (.v 4105)),.b (.c true)]) (
.ev (.call 240 (.c true) [.i (.wrap .i64 (.wrap .u64 (.tdiv (.wrap .u64 (.v 6)) (.wrap .u64 (.v 2))))),.i (.v 4104)] [.agg [.c i6,.c (.i .u64)]] 4107) (
.ite (.eq (.v 4105) (.c 0)) (
.ret [.i (.v 4107),.i (.v 4108),.i (.c 0),.b (.c true)]) (
.ev (.call 242 (.c true) [.i (.v 4107),.i (.v 4108),.i (.c 0),.i (.c 1)] [.agg [.c i6,.c (.i .u64)],oB] 4109) (
.ret [.i (.v 4109),.i (.v 4110),.i (.wrap .i64 (.wrap .u64 (.sub (.wrap .u64 (.v 2)) (.v 4105)))),.b (.c true)])))))))) (
.ev (.aL (.sP (.wrap .u64 (.v 2)))) (
.ev (.call 241 (.c true) [.i (.tmod (.wrap .u64 (.v 0)) (.wrap .u64 (.v 2))),.i (.v 1),.i (.wrap .u64 (.v 2))] [.one (.c (.i .u64)),.one (.c (.i .u64))] 4102) (
.ite (.le (.c 0) (.v 0)) (
.ret [.i (.wrap .i64 (.wrap .u64 (.tdiv (.wrap .u64 (.v 0)) (.wrap .u64 (.v 2))))),.i (.v 4102),.i (.wrap .i64 (.v 4103)),.b (.c true)]) (
.ev (.call 240 (.c true) [.i (.wrap .i64 (.wrap .u64 (.tdiv (.wrap .u64 (.v 0)) (.wrap .u64 (.v 2))))),.i (.v 4102)] [.agg [.c i6,.c (.i .u64)]] 4105) (
.ite (.eq (.v 4103) (.c 0)) (
.ret [.i (.v 4105),.i (.v 4106),.i (.c 0),.b (.c true)]) (
.ev (.call 242 (.c true) [.i (.v 4105),.i (.v 4106),.i (.c 0),.i (.c 1)] [.agg [.c i6,.c (.i .u64)],oB] 4107) (
.ret [.i (.v 4107),.i (.v 4108),.i (.wrap .i64 (.wrap .u64 (.sub (.wrap .u64 (.v 2)) (.v 4103)))),.b (.c true)]))))))))
theorem alF:TT PP 198=some ⟨198,t198,(rowOf 198).sub⟩:=by kernel_rfl
def t199:au:=
.ite (.not (.eq (.ediv (.wrap .i64 (.v 1)) 9223372036854775808) (.v 0))) (
.ret [.i (.c 0),.b (.c false)]) (
.ret [.i (.wrap .i64 (.v 1)),.b (.c true)])
theorem alG:TT PP 199=some ⟨199,t199,(rowOf 199).sub⟩:=by kernel_rfl
def t200:au:=
.ite (.lt (.v 0) (.c 0)) (
.ev (.call 240 (.c true) [.i (.v 0),.i (.v 1)] [.agg [.c i6,.c (.i .u64)]] 6) (
.ev (.call 196 (.c true) [.i (.v 2)] [.one (.c (.i .u64))] 8) (
.ev (.call 139 (.c true) [.i (.wrap .u64 (.v 6)),.i (.v 8)] [.one (.c (.i .u64)),.one (.c (.i .u64))] 9) (
.ev (.call 139 (.c true) [.i (.v 7),.i (.v 8)] [.one (.c (.i .u64)),.one (.c (.i .u64))] 11) (
.ev (.call 243 (.c true) [.i (.v 10),.i (.v 11),.i (.c 0)] [.one (.c (.i .u64)),.one (.c (.i .u64))] 13) (
.ite (.lt (.c 0) (.wrap .u64 (.add (.v 9) (.v 14)))) (
.ret [.i (.c 0),.i (.c 0),.b (.c false)]) (
.ev (.call 197 (.c true) [.i (.v 13),.i (.v 12),.b (.not (.iff (.lt (.v 0) (.c 0)) (.lt (.v 2) (.c 0))))] [.agg [.c i6,.c (.i .u64)],oB] 15) (
.ite (.not (.v 17)) (
.ret [.i (.c 0),.i (.c 0),.b (.c false)]) (
.ret [.i (.v 15),.i (.v 16),.b (.c true)]))))))))) (
.ev (.call 196 (.c true) [.i (.v 2)] [.one (.c (.i .u64))] 6) (
.ev (.call 139 (.c true) [.i (.wrap .u64 (.v 0)),.i (.v 6)] [.one (.c (.i .u64)),.one (.c (.i .u64))] 7) (
.ev (.call 139 (.c true) [.i (.v 1),.i (.v 6)] [.one (.c (.i .u64)),.one (.c (.i .u64))] 9) (
.ev (.call 243 (.c true) [.i (.v 8),.i (.v 9),.i (.c 0)] [.one (.c (.i .u64)),.one (.c (.i .u64))] 11) (
.ite (.lt (.c 0) (.wrap .u64 (.add (.v 7) (.v 12)))) (
.ret [.i (.c 0),.i (.c 0),.b (.c false)]) (
.ev (.call 197 (.c true) [.i (.v 11),.i (.v 10),.b (.not (.iff (.lt (.v 0) (.c 0)) (.lt (.v 2) (.c 0))))] [.agg [.c i6,.c (.i .u64)],oB] 13) (
.ite (.not (.v 15)) (
.ret [.i (.c 0),.i (.c 0),.b (.c false)]) (
.ret [.i (.v 13),.i (.v 14),.b (.c true)]))))))))
theorem ajZ:TT PP 200=some ⟨200,t200,(rowOf 200).sub⟩:=by kernel_rfl
abbrev Gf(k:Nat)(ds rs:List DV):Prop:=eR (TT PP) XF k ds rs
def dc(v:Int):Int:=v/18446744073709551616
def dW(v:Int):Int:=v%18446744073709551616
abbrev iU(n:Int):Prop:=-9223372036854775808<=n/\n<=9223372036854775807
abbrev ri(n:Int):Prop:=-170141183460469231731687303715884105728<n/\n<170141183460469231731687303715884105728
theorem vR(n:Int):IntKind.i64.wrap n=(n+9223372036854775808)%18446744073709551616-9223372036854775808:=IntKind.wrap_i64 n
theorem abU:([139,196,197,155,156,240,242,214,216,198,199,201,200].all fun k=>mC (rowOf k).sub)=true:=by kernel_rfl
theorem gN(h:k∈[139,196,197,155,156,240,242,214,216,198,199,201,200]):mC (rowOf k).sub=true:=kG.1 abU k h
theorem MA{ds:List DV}(hk:TT PP k=none)(h:Gf k ds rs):XF k ds=some rs:=by
 obtain⟨n,hn⟩:=h;cases n with
 |zero=>cases hn
 |succ n=>simpa only[ev,hk]using hn
theorem MB(h:Gf 266 [.i x,.i y,.i c] rs):rs=[.i ((x+18446744073709551616-y-c)%18446744073709551616),.i (if x<y+c then 1 else 0)]:=by
 have h:Ch [.i x,.i y,.i c]=some rs:=MA Y' h;unfold Ch at h;simp only at h;split at h;injection h with h;exact h.symm;cases h
theorem Su(h:Gf 243 [.i x,.i y,.i c] rs):rs=[.i ((x+y+c)%18446744073709551616),.i ((x+y+c)/18446744073709551616)]:=by
 have h:Cg [.i x,.i y,.i c]=some rs:=MA Y9 h;unfold Cg at h;simp only at h;split at h;injection h with h;exact h.symm;cases h
theorem CA{a:Int}(ha:ri a)(hg:Gf 240 [.i (dc a),.i (dW a)] rs):rs=[.i (dc (-a)),.i (dW (-a))]:=by
 refine bV (R:=fun rs=>rs=[DV.i (dc (-a)),.i (dW (-a))]) alC ?_ hg;refine bp fun r1 g1=>?_;have g1:Gf 266 [.i 0,.i (dW a),.i 0] r1:=aP bD (gN (by simp)) g1;obtain rfl:=MB g1;refine bp fun r2 g2=>?_;have g2:Gf 266 [.i 0,.i (IntKind.u64.wrap (dc a)),.i (if 0<dW a+0 then 1 else 0)] r2:=aP bD (gN (by simp)) g2;obtain rfl:=MB g2;refine c8 ?_;show [DV.i (IntKind.i64.wrap ((0+18446744073709551616-IntKind.u64.wrap (dc a)-(if 0<dW a+0 then 1 else 0))%18446744073709551616)),.i ((0+18446744073709551616-dW a-0)%18446744073709551616)]=_;rw[vR,lQ];unfold dc dW;have e:∀p q r s:Int,p=r->q=s->[DV.i p,DV.i q]=[.i r,.i s]:=fun p q r s h1 h2=>by rw[h1,h2]
 refine e _ _ _ _ ?_ ?_;split<;>omega;omega
theorem SM{p q r:Int}{b:Bool}(h1:p=r)(h2:q=s): [DV.i p,DV.i q,.b b]=[.i r,.i s,.b b]:=by rw[h1,h2]
theorem ae9{a b:Int}(ha:ri a)(hb:ri b)(VZ:ri (a+b))(hg:Gf 214 [.i (dc a),.i (dW a),.i (dc b),.i (dW b)] rs):rs=[.i (dc (a+b)),.i (dW (a+b)),.b true]:=by
 refine bV (R:=fun rs=>rs=[DV.i (dc (a+b)),.i (dW (a+b)),.b true]) alE ?_ hg;refine bp fun r1 g1=>?_;have g1:Gf 243 [.i (dW a),.i (dW b),.i 0] r1:=aP bD (gN (by simp)) g1;obtain rfl:=Su g1;refine bp fun r2 g2=>?_;have g2:Gf 243 [.i (IntKind.u64.wrap (dc a)),.i (IntKind.u64.wrap (dc b)),.i ((dW a+dW b+0)/18446744073709551616)] r2:=aP bD (gN (by simp)) g2;obtain rfl:=Su g2;have key:IntKind.i64.wrap ((IntKind.u64.wrap (dc a)+IntKind.u64.wrap (dc b)+(dW a+dW b+0)/18446744073709551616)%18446744073709551616)=dc (a+b):=by
   rw[vR,lQ,lQ];unfold dc dW;omega
 have Dg:(dW a+dW b+0)%18446744073709551616=dW (a+b):=by unfold dW;omega
 refine lk (fun hc=>?_) (fun _=>c8 ?_);have hc:(((decide (dc a<0)==decide (dc b<0)) && !(decide (IntKind.i64.wrap ((IntKind.u64.wrap (dc a)+IntKind.u64.wrap (dc b)+(dW a+dW b+0)/18446744073709551616)%18446744073709551616)<0)==decide (dc a<0))))=true:=hc;rw[key]at hc;exfalso;simp only[ao,beq_iff_eq,nQ,beq_eq_false_iff_ne,ne_eq,decide_eq_decide]at hc;unfold dc at hc;omega;exact SM key Dg
theorem afG{a b:Int}(ha:ri a)(hb:ri b)(VZ:ri (a-b))(hg:Gf 242 [.i (dc a),.i (dW a),.i (dc b),.i (dW b)] rs):rs=[.i (dc (a-b)),.i (dW (a-b)),.b true]:=by
 refine bV (R:=fun rs=>rs=[DV.i (dc (a-b)),.i (dW (a-b)),.b true]) alD ?_ hg;refine bp fun r1 g1=>?_;have g1:Gf 266 [.i (dW a),.i (dW b),.i 0] r1:=aP bD (gN (by simp)) g1;obtain rfl:=MB g1;refine bp fun r2 g2=>?_;have g2:Gf 266 [.i (IntKind.u64.wrap (dc a)),.i (IntKind.u64.wrap (dc b)),.i (if dW a<dW b+0 then 1 else 0)] r2:=aP bD (gN (by simp)) g2;obtain rfl:=MB g2;have key:IntKind.i64.wrap ((IntKind.u64.wrap (dc a)+18446744073709551616-IntKind.u64.wrap (dc b)-(if dW a<dW b+0 then 1 else 0))%18446744073709551616)=dc (a-b):=by
   rw[vR,lQ,lQ];unfold dc dW;split<;>omega
 have Dg:(dW a+18446744073709551616-dW b-0)%18446744073709551616=dW (a-b):=by unfold dW;omega
 refine lk (fun hc=>?_) (fun _=>c8 ?_);have hc:((!(decide (dc a<0)==decide (dc b<0)) && !(decide (IntKind.i64.wrap ((IntKind.u64.wrap (dc a)+18446744073709551616-IntKind.u64.wrap (dc b)-(if dW a<dW b+0 then 1 else 0))%18446744073709551616)<0)==decide (dc a<0))))=true:=hc;rw[key]at hc;exfalso;simp only[ao,beq_iff_eq,nQ,beq_eq_false_iff_ne,ne_eq,decide_eq_decide]at hc;unfold dc at hc;omega;exact SM key Dg
theorem XB{a:Int}(ha:iU a)(hg:Gf 199 [.i (dc a),.i (dW a)] rs):rs=[.i a,.b true]:=by
 refine bV (R:=fun rs=>rs=[DV.i a,.b true]) alG ?_ hg;have key:IntKind.i64.wrap (dW a)=a:=by rw[vR];unfold dW;omega
 refine OR ?_ (c8 ?_);show(!(decide (IntKind.i64.wrap (dW a)/9223372036854775808=dc a)))=false;rw[key,kR (by unfold dc;omega)];rfl;show [DV.i (IntKind.i64.wrap (dW a)),.b true]=_;rw[key]
theorem SN{n:Int}(hn:iU n)(hg:Gf 196 [.i n] rs):rs=[.i n.natAbs]:=by
 refine bV (R:=fun rs=>rs=[DV.i n.natAbs]) ae' ?_ hg;refine lk (fun hc=>c8 ?_) (fun hc=>c8 ?_);have hc:n<0:=mW hc;show [DV.i (IntKind.u64.wrap (0-IntKind.u64.wrap n))]=_;rw[lQ,lQ,show(0-n%18446744073709551616)%18446744073709551616=(n.natAbs:Int)by omega];have hc:¬ n<0:=Jq hc;show [DV.i (IntKind.u64.wrap n)]=_;rw[lQ,show n%18446744073709551616=(n.natAbs:Int)by omega]
theorem abV{a b:Int}(ha:0<=a/\a<4294967296)(hb:0<=b/\b<4294967296)(hc:0<=c/\c<4294967296)(hd:0<=d/\d<4294967296){p q r:Int}(hp:p=a*c)(hq:q=a*d)(hr:r=b*c)(hs:s=b*d) :
   (((p%18446744073709551616+((q%18446744073709551616+(s%18446744073709551616)/4294967296)%18446744073709551616)/4294967296)%18446744073709551616)+((((q%18446744073709551616+(s%18446744073709551616)/4294967296)%18446744073709551616)%4294967296+r%18446744073709551616)%18446744073709551616)/4294967296)%18446744073709551616=(p*18446744073709551616+(q+r)*4294967296+s)/18446744073709551616:=by
 have m:∀ {x y:Int},0<=x/\x<4294967296->0<=y/\y<4294967296->0<=x*y/\x*y<=18446744065119617025:=fun {x y} hx hy=>by
   have h1:=j7 hx.1 hy.1;have h2:=De (show x<=4294967295 by omega) (show y<=4294967295 by omega) hy.1 (by omega);omega
 have h1:=m ha hc;have h2:=m ha hd;have h3:=m hb hc;have h4:=m hb hd
 rw[<- hp]at h1;rw[<- hq]at h2;rw[<- hr]at h3;rw[<- hs]at h4;clear hp hq hr hs;omega
theorem GD(hx:0<=x/\x<18446744073709551616)(hy:0<=y/\y<18446744073709551616)(hg:Gf 139 [.i x,.i y] rs):rs=[.i (dc (x*y)),.i (dW (x*y))]:=by
 refine bV (R:=fun rs=>rs=[DV.i (dc (x*y)),.i (dW (x*y))]) alz ?_ hg;refine c8 ?_;have ex:x=x/4294967296*4294967296+x%4294967296:=by omega
 have ey:y=y/4294967296*4294967296+y%4294967296:=by omega
 have e:x*y=(x/4294967296*(y/4294967296))*18446744073709551616+(x/4294967296*(y%4294967296)+x%4294967296*(y/4294967296))*4294967296+x%4294967296*(y%4294967296):=by
   conv=>lhs;rw[ex,ey]
   grind
 have h:=abV (a:=x/4294967296) (b:=x%4294967296) (c:=y/4294967296) (d:=y%4294967296) (by omega) (by omega) (by omega) (by omega) rfl rfl rfl rfl;rw[<- e]at h;have e2:∀p q r s:Int,p=r->q=s->[DV.i p,DV.i q]=[.i r,.i s]:=fun p q r s h1 h2=>by rw[h1,h2]
 refine e2 _ _ _ _ ?_ ?_;show IntKind.u64.wrap (IntKind.u64.wrap (IntKind.u64.wrap (x/4294967296*(y/4294967296))+(IntKind.u64.wrap (IntKind.u64.wrap (x/4294967296*(y%4294967296))+IntKind.u64.wrap (x%4294967296*(y%4294967296))/4294967296))/4294967296)+(IntKind.u64.wrap ((IntKind.u64.wrap (IntKind.u64.wrap (x/4294967296*(y%4294967296))+IntKind.u64.wrap (x%4294967296*(y%4294967296))/4294967296))%4294967296+IntKind.u64.wrap (x%4294967296*(y/4294967296))))/4294967296)=_;simp only[lQ];exact h;show IntKind.u64.wrap (x*y)=_;rw[lQ];rfl
theorem ID{v:Int}(h0:0<=v)(h1:v<170141183460469231731687303715884105728){m:Bool}(hg:Gf 197 [.i (dc v),.i (dW v),.b m] rs):rs=[.i (dc (if m then -v else v)),.i (dW (if m then -v else v)),.b true]:=by
 have w:IntKind.i64.wrap (dc v)=dc v:=by rw[vR];unfold dc;omega
 refine bV (R:=fun rs=>rs=[DV.i (dc (if m then -v else v)),.i (dW (if m then -v else v)),.b true]) alA ?_ hg;refine lk (fun hc=>?_) (fun hc=>c8 ?_);have hc:m=true:=hc;subst hc;refine bp fun r g=>?_;have g:Gf 240 [.i (IntKind.i64.wrap (dc v)),.i (dW v)] r:=aP bD (gN (by simp)) g;rw[w]at g;obtain rfl:=CA (by constructor<;>omega) g;refine c8 ?_;show [DV.i (dc (-v)),.i (dW (-v)),.b (decide (dc (-v)<0)||(decide (dc (-v)=0)&&decide (dW (-v)=0)))]=_;have:(decide (dc (-v)<0)||(decide (dc (-v)=0)&&decide (dW (-v)=0)))=true:=by
   simp only[ig,ao,aM];unfold dc dW;omega
 rw[this];rfl;have hc:m=false:=hc;subst hc;show [DV.i (IntKind.i64.wrap (dc v)),.i (dW v),.b (decide (0<=IntKind.i64.wrap (dc v)))]=_;rw[w,kR (by unfold dc;omega)];rfl
theorem Ss{a b:Int}(ha:iU a)(hb:iU b)(hg:Gf 156 [.i a,.i b] rs):rs=[.i (dc (a*b)),.i (dW (a*b))]:=by
 refine bV (R:=fun rs=>rs=[DV.i (dc (a*b)),.i (dW (a*b))]) alB ?_ hg;refine bp fun r1 g1=>?_;have g1:Gf 196 [.i a] r1:=aP bD (gN (by simp)) g1;obtain rfl:=SN ha g1;refine bp fun r2 g2=>?_;have g2:Gf 196 [.i b] r2:=aP bD (gN (by simp)) g2;obtain rfl:=SN hb g2;refine bp fun r3 g3=>?_;have g3:Gf 139 [.i a.natAbs,.i b.natAbs] r3:=aP bD (gN (by simp)) g3;obtain rfl:=GD (by omega) (by omega) g3;refine bp fun r4 g4=>?_;have g4:Gf 197 [.i (dc (a.natAbs*b.natAbs)),.i (dW (a.natAbs*b.natAbs)),.b (!(decide (a<0)==decide (b<0)))] r4:=aP bD (gN (by simp)) g4;have n0:(0:Int)<=(a.natAbs:Int)*b.natAbs:=j7 (by omega) (by omega);have n1:=De (show(a.natAbs:Int)<=9223372036854775808 by omega) (show(b.natAbs:Int)<=9223372036854775808 by omega) (by omega) (by omega);obtain rfl:=ID n0 (by omega) g4;refine c8 ?_;have e:(if(!(decide (a<0)==decide (b<0)))=true then -((a.natAbs:Int)*b.natAbs)else(a.natAbs:Int)*b.natAbs)=a*b:=by
   by_cases h1:a<0<;>by_cases h2:b<0;rw[show(a.natAbs:Int) = -a by omega,show(b.natAbs:Int) = -b by omega];simp[h1,h2,Int.neg_mul,Int.mul_neg];rw[show(a.natAbs:Int) = -a by omega,show(b.natAbs:Int)=b by omega];simp[h1,h2,Int.neg_mul,Int.mul_neg];rw[show(a.natAbs:Int)=a by omega,show(b.natAbs:Int) = -b by omega];simp[h1,h2,Int.neg_mul,Int.mul_neg];rw[show(a.natAbs:Int)=a by omega,show(b.natAbs:Int)=b by omega];simp[h1,h2,Int.neg_mul,Int.mul_neg]
 show [DV.i (dc (if(!(decide (a<0)==decide (b<0)))=true then -((a.natAbs:Int)*b.natAbs)else(a.natAbs:Int)*b.natAbs)),DV.i (dW (if(!(decide (a<0)==decide (b<0)))=true then -((a.natAbs:Int)*b.natAbs)else(a.natAbs:Int)*b.natAbs))]=_;rw[e]
theorem div_pos{q r:Int}(hd:0<d)(e:x=q*d+r)(h0:0<=r)(h1:r<d):x/d=q/\x%d=r:=by
 have:=Int.ediv_emod_unique hd (a:=x) (q:=q) (r:=r);exact this.2 ⟨by rw[e,l6 q d,Int.add_comm],h0,h1⟩
theorem afH{h l m:Int}(h0:0<=h)(h1:h<m)(m1:m<18446744073709551616)(l0:0<=l)(l1:l<18446744073709551616)(hg:Gf 241 [.i h,.i l,.i m] rs):rs=[.i ((h*18446744073709551616+l)/m),.i ((h*18446744073709551616+l)%m)]:=by
 obtain⟨gh,g,q⟩:=aef (X:=XF) rfl [.i h,.i l,.i m] ⟨h,l,m,rfl,h0,h1,m1,l0,l1⟩;cases hg.det g;exact q h l m rfl
theorem quot{a:Int}(a0:0<=a)(a1:a<170141183460469231731687303715884105728)(d1:1<=d)(d2:d<=9223372036854775807) :
   dc a/d=dc (a/d)/\(dc a%d*18446744073709551616+dW a)/d=dW (a/d)/\(dc a%d*18446744073709551616+dW a)%d=a%d/\0<=dc (a/d)/\dc (a/d)<9223372036854775808/\0<=dW (a/d)/\dW (a/d)<18446744073709551616/\0<=a%d/\a%d<d/\0<=a/d:=by
 have hw:0<=dc a/\dc a<9223372036854775808:=by unfold dc;omega
 have lw:0<=dW a/\dW a<18446744073709551616:=by unfold dW;omega
 have ea:a=dc a*18446744073709551616+dW a:=by unfold dc dW;omega
 have r0:=Aj (dc a) (show d≠0 by omega);have r1:=yQ (dc a) (show 0<d by omega);have e1:=Int.mul_ediv_add_emod (dc a) d;have y0:0<=dc a%d*18446744073709551616+dW a:=by omega
 have e2:=Int.mul_ediv_add_emod (dc a%d*18446744073709551616+dW a) d;have s0:=Aj (dc a%d*18446744073709551616+dW a) (show d≠0 by omega);have s1:=yQ (dc a%d*18446744073709551616+dW a) (show 0<d by omega);have t0:=wo y0 (show 0<=d by omega);have t1:(dc a%d*18446744073709551616+dW a)/d<18446744073709551616:=by
   refine Fe (by omega) ?_;have:=De (show dc a%d<=d-1 by omega) (Int.le_refl (18446744073709551616:Int)) (by omega) (by omega);have e:(d-1)*18446744073709551616=d*18446744073709551616-18446744073709551616:=by omega
   have e':18446744073709551616*d=d*18446744073709551616:=l6 ..;omega
 have u0:=wo hw.1 (show 0<=d by omega);have u1:=Int.ediv_le_self d hw.1;obtain⟨q,hq⟩:∃q,(dc a%d*18446744073709551616+dW a)/d=q:=⟨_,rfl⟩;obtain⟨r,hr⟩:∃r,(dc a%d*18446744073709551616+dW a)%d=r:=⟨_,rfl⟩;obtain⟨p,hp⟩:∃p,dc a/d=p:=⟨_,rfl⟩;obtain⟨k,hk⟩:∃k,dc a%d=k:=⟨_,rfl⟩;rw[hq,hr,hk]at e2;rw[hp,hk]at e1;rw[hq]at t0 t1;rw[hr]at s0 s1;rw[hp]at u0 u1;have key:a=(p*18446744073709551616+q)*d+r:=by
   have e3:(p*18446744073709551616+q)*d+r=(d*p)*18446744073709551616+(d*q+r):=by grind
   rw[e3];omega
 obtain⟨v1,v2⟩:=div_pos (by omega) key s0 s1;rw[hp,hq,hr,v1,v2];unfold dc dW;unfold dc at u1 hw;omega
theorem afb{a:Int}(ha:ri a)(d1:1<=d)(d2:d<=9223372036854775807)(hg:Gf 198 [.i (dc a),.i (dW a),.i d] rs):rs=[.i (dc (a/d)),.i (dW (a/d)),.i (a%d),.b true]:=by
 refine bV (R:=fun rs=>rs=[DV.i (dc (a/d)),.i (dW (a/d)),.i (a%d),.b true]) alF ?_ hg;have wd:IntKind.u64.wrap d=d:=by rw[lQ];omega
 have four:∀p q r p' q' r':Int,p=p'->q=q'->r=r'->[DV.i p,DV.i q,DV.i r,DV.b true]=[.i p',.i q',.i r',.b true]:=fun p q r p' q' r' h1 h2 h3=>by rw[h1,h2,h3]
 refine OR (by show decide (d<1)=false;exact decide_eq_false (by omega)) (lk (fun hc=>?_) (fun hc=>?_));have hc:dc a<0:=mW hc;have an:a<0:=by unfold dc at hc;omega
 refine bp fun r1 g1=>?_;have g1:Gf 240 [.i (dc a),.i (dW a)] r1:=aP bD (gN (by simp)) g1;obtain rfl:=CA ha g1;obtain⟨k1,k2,k3,k4,k5,k6,k7,k8,k9,k10⟩:=quot (a:=-a) (by omega) (by omega) d1 d2;have wn:IntKind.u64.wrap (dc (-a))=dc (-a):=by rw[lQ];unfold dc;omega
 have iI:0<=dc (-a):=by unfold dc;omega
 have ln:0<=dW (-a)/\dW (-a)<18446744073709551616:=by unfold dW;omega
 refine bh fun _=>bp fun r2 g2=>?_;have g2:Gf 241 [.i ((IntKind.u64.wrap (dc (-a))).tmod (IntKind.u64.wrap d)),.i (dW (-a)),.i (IntKind.u64.wrap d)] r2:=aP bD (gN (by simp)) g2;rw[wn,wd,Int.tmod_eq_emod_of_nonneg iI]at g2;obtain rfl:=afH (Aj _ (by omega)) (yQ _ (by omega)) (by omega) ln.1 ln.2 g2;rw[k2,k3];refine OR (by show decide (0<=dc a)=false;exact decide_eq_false (by omega)) (bp fun r3 g3=>?_);have g3:Gf 240 [.i (IntKind.i64.wrap (IntKind.u64.wrap ((IntKind.u64.wrap (dc (-a))).tdiv (IntKind.u64.wrap d)))),.i (dW (-a/d))] r3:=aP bD (gN (by simp)) g3;rw[wn,wd,As iI,k1,show IntKind.u64.wrap (dc (-a/d))=dc (-a/d)by rw[lQ];omega,show IntKind.i64.wrap (dc (-a/d))=dc (-a/d)by rw[vR];omega]at g3;have qb: -a/d<=-a:=Int.ediv_le_self _ (by omega);obtain rfl:=CA (by constructor<;>omega) g3;have e0:=Int.mul_ediv_add_emod (-a) d;refine lk (fun hr=>?_) (fun hr=>?_);have hr: -a%d=0:=mW hr;rw[hr]at e0;obtain⟨v1,v2⟩:=div_pos (x:=a) (d:=d) (q:=-(-a/d)) (r:=0) (by omega) (by rw[Int.neg_mul,l6];omega) (by omega) (by omega);refine c8 ?_;rw[v1,v2];rfl;have hr:¬ -a%d=0:=Jq hr;obtain⟨v1,v2⟩:=div_pos (x:=a) (d:=d) (q:=-(-a/d)-1) (r:=d - -a%d) (by omega) (by rw[Int.sub_mul,Int.neg_mul,l6 (-a/d) d];omega) (by omega) (by omega);refine bp fun r4 g4=>?_;have g4:Gf 242 [.i (dc (-(-a/d))),.i (dW (-(-a/d))),.i 0,.i 1] r4:=aP bD (gN (by simp)) g4;have dd:=rS (show 2<=d by omega) k10;obtain rfl:=afG (a:=-(-a/d)) (b:=1) (by constructor<;>omega) (by constructor<;>omega) (by constructor<;>omega) g4;refine c8 ?_;rw[v1,v2];refine four _ _ _ _ _ _ rfl rfl ?_;show IntKind.i64.wrap (IntKind.u64.wrap (IntKind.u64.wrap d - -a%d))=_;rw[wd,lQ,vR];omega;have hc:¬ dc a<0:=Jq hc;have an:0<=a:=by unfold dc at hc;omega
 obtain⟨k1,k2,k3,k4,k5,k6,k7,k8,k9,k10⟩:=quot (a:=a) an (by omega) d1 d2;have wn:IntKind.u64.wrap (dc a)=dc a:=by rw[lQ];unfold dc;omega
 have iI:0<=dc a:=by omega
 have ln:0<=dW a/\dW a<18446744073709551616:=by unfold dW;omega
 refine bh fun _=>bp fun r2 g2=>?_;have g2:Gf 241 [.i ((IntKind.u64.wrap (dc a)).tmod (IntKind.u64.wrap d)),.i (dW a),.i (IntKind.u64.wrap d)] r2:=aP bD (gN (by simp)) g2;rw[wn,wd,Int.tmod_eq_emod_of_nonneg iI]at g2;obtain rfl:=afH (Aj _ (by omega)) (yQ _ (by omega)) (by omega) ln.1 ln.2 g2;rw[k2,k3];refine Sr (by show decide (0<=dc a)=true;exact kR (by omega)) (c8 ?_);refine four _ _ _ _ _ _ ?_ rfl ?_;show IntKind.i64.wrap (IntKind.u64.wrap ((IntKind.u64.wrap (dc a)).tdiv (IntKind.u64.wrap d)))=_;rw[wn,wd,As iI,k1,lQ,vR];omega;show IntKind.i64.wrap (a%d)=_;rw[vR];omega
end
section
open Go.Sx Go
theorem q9{n:Int}(h:iU n):IntKind.i64.wrap n=n:=by rw[vR];omega
end
end Go.Proofs.YtohebioanhliiaaGreatDoor.av

/- WholeCulled's function gives true. -/
import Derived.Test.YtohebioanhliiaaGreatDoorKA4
import Derived.Test.YtohebioanhliiaaGreatDoorKC1
import Derived.Test.YtohebioanhliiaaGreatDoorKB2
import Derived.Test.YtohebioanhliiaaGreatDoorKE2
import Derived.Test.YtohebioanhliiaaGreatDoorKC2
import Derived.Test.YtohebioanhliiaaGreatDoorKZ1
import Derived.Test.YtohebioanhliiaaGreatDoorChecked
import Derived.KernelRfl
set_option maxRecDepth 100000
set_option linter.unusedVariables false
set_option linter.unusedSimpArgs false
namespace Go.Proofs.YtohebioanhliiaaGreatDoor.aD
open Go.Sx Go
def DC:Nat->Nat->Bool:=fun k i=>!((Nat.beq k 118&&Nat.beq i 13)||(Nat.beq k 122&&Nat.beq i 13)||(Nat.beq k 123&&Nat.beq i 13)||(Nat.beq k 124&&Nat.beq i 13)||(Nat.beq k 72&&Nat.beq i 25)||(Nat.beq k 28&&Nat.beq i 73)||(Nat.beq k 29&&Nat.beq i 73))
theorem i118:yz (TT Tryz.prog) DC 21 118=true:=by kernel_rfl
theorem i122:yz (TT Tryz.prog) DC 21 122=true:=by kernel_rfl
theorem i124:yz (TT Tryz.prog) DC 21 124=true:=by kernel_rfl
theorem i72:yz (TT Tryz.prog) DC 36 72=true:=by kernel_rfl
theorem i123:yz (TT Tryz.prog) DC 21 123=true:=by kernel_rfl
theorem i28:yz (TT Tryz.prog) DC 94 28=true:=by kernel_rfl
theorem i29:yz (TT Tryz.prog) DC 94 29=true:=by kernel_rfl
def t74:aw:=
.ev (.call 118 (.c true) ([.l 0,.l 1,.i (.v 2),.b (.v 3),.b (.v 4)]++iv 5 7++[.b (.v 12),.i (.v 13),.b (.v 14)]++iv 15 6) [oB] 24) (
.ev (.call 119 (.v 24) ([.i (.v 2),.b (.v 3),.b (.v 4)]++iv 5 7++[.b (.v 12),.i (.v 13),.b (.v 14),.i (.v 15),.i (.v 16)]) [oB] 25) (
.ev (.call 65 (.not (.or (.not (.v 24)) (.not (.v 25)))) (iv 17 4) [oB] 26) (
.ev (.call 120 (.not (.or (.or (.not (.v 24)) (.not (.v 25))) (.not (.v 26)))) ([.l 0,.i (.v 2),.b (.v 3),.b (.v 4)]++iv 5 7++[.b (.v 12),.i (.v 13),.b (.v 14),.i (.v 15),.i (.v 16)]) [oB] 27) (
.ite (.or (.or (.or (.not (.v 24)) (.not (.v 25))) (.not (.v 26))) (.v 27)) (
.ret [.nil]) (
.ev (.call 121 (.c true) [.l 0,.b (.v 12)] [oB] 28) (
.ite (.v 28) (
.ite (.eq (.v 10) (.c 0)) (
.ite (.eq (.v 11) (.c 0)) (
.ev (.call 122 (.c true) [.l 0,.l 1,.i (.v 2),.b (.v 3),.b (.v 4),.i (.v 5),.i (.v 6),.i (.v 7),.i (.v 8),.i (.v 9),.i (.c 0),.i (.c 0),.b (.v 12),.i (.v 13),.b (.v 14),.i (.v 15),.i (.v 16),.i (.v 17),.i (.v 18),.i (.v 19),.i (.v 20)] [.one (.s 74 bY)] 29) (
.ret [.l 29])) (
.ite (.eq (.v 11) (.c 1)) (
.ev (.call 122 (.c true) [.l 0,.l 1,.i (.v 2),.b (.v 3),.b (.v 4),.i (.v 5),.i (.v 6),.i (.v 7),.i (.v 8),.i (.v 9),.i (.c 0),.i (.c 1),.b (.v 12),.i (.v 13),.b (.v 14),.i (.v 15),.i (.v 16),.i (.v 17),.i (.v 18),.i (.v 19),.i (.v 20)] [.one (.s 74 bY)] 29) (
.ret [.l 29])) (
.ite (.eq (.v 11) (.c 2)) (
.ev (.call 122 (.c true) [.l 0,.l 1,.i (.v 2),.b (.v 3),.b (.v 4),.i (.v 5),.i (.v 6),.i (.v 7),.i (.v 8),.i (.v 9),.i (.c 0),.i (.c 2),.b (.v 12),.i (.v 13),.b (.v 14),.i (.v 15),.i (.v 16),.i (.v 17),.i (.v 18),.i (.v 19),.i (.v 20)] [.one (.s 74 bY)] 29) (
.ret [.l 29])) (
.stuck "")))) (
.ite (.eq (.v 10) (.c 1)) (
.ite (.eq (.v 11) (.c 0)) (
.ev (.call 123 (.c true) [.l 0,.l 1,.i (.v 2),.b (.v 3),.b (.v 4),.i (.v 5),.i (.v 6),.i (.v 7),.i (.v 8),.i (.v 9),.i (.c 1),.i (.c 0),.b (.v 12),.i (.v 13),.b (.v 14),.i (.v 15),.i (.v 16),.i (.v 17),.i (.v 18),.i (.v 19),.i (.v 20)] [.one (.s 74 bY)] 29) (
.ret [.l 29])) (
.ite (.eq (.v 11) (.c 1)) (
.ev (.call 123 (.c true) [.l 0,.l 1,.i (.v 2),.b (.v 3),.b (.v 4),.i (.v 5),.i (.v 6),.i (.v 7),.i (.v 8),.i (.v 9),.i (.c 1),.i (.c 1),.b (.v 12),.i (.v 13),.b (.v 14),.i (.v 15),.i (.v 16),.i (.v 17),.i (.v 18),.i (.v 19),.i (.v 20)] [.one (.s 74 bY)] 29) (
.ret [.l 29])) (
.ite (.eq (.v 11) (.c 2)) (
.ev (.call 123 (.c true) [.l 0,.l 1,.i (.v 2),.b (.v 3),.b (.v 4),.i (.v 5),.i (.v 6),.i (.v 7),.i (.v 8),.i (.v 9),.i (.c 1),.i (.c 2),.b (.v 12),.i (.v 13),.b (.v 14),.i (.v 15),.i (.v 16),.i (.v 17),.i (.v 18),.i (.v 19),.i (.v 20)] [.one (.s 74 bY)] 29) (
.ret [.l 29])) (
.stuck "")))) (
.ite (.eq (.v 10) (.c 2)) (
.ite (.eq (.v 11) (.c 0)) (
.ev (.call 124 (.c true) [.l 0,.l 1,.i (.v 2),.b (.v 3),.b (.v 4),.i (.v 5),.i (.v 6),.i (.v 7),.i (.v 8),.i (.v 9),.i (.c 2),.i (.c 0),.b (.v 12),.i (.v 13),.b (.v 14),.i (.v 15),.i (.v 16),.i (.v 17),.i (.v 18),.i (.v 19),.i (.v 20)] [.one (.s 74 bY)] 29) (
.ret [.l 29])) (
.ite (.eq (.v 11) (.c 1)) (
.ev (.call 124 (.c true) [.l 0,.l 1,.i (.v 2),.b (.v 3),.b (.v 4),.i (.v 5),.i (.v 6),.i (.v 7),.i (.v 8),.i (.v 9),.i (.c 2),.i (.c 1),.b (.v 12),.i (.v 13),.b (.v 14),.i (.v 15),.i (.v 16),.i (.v 17),.i (.v 18),.i (.v 19),.i (.v 20)] [.one (.s 74 bY)] 29) (
.ret [.l 29])) (
.ite (.eq (.v 11) (.c 2)) (
.ev (.call 124 (.c true) [.l 0,.l 1,.i (.v 2),.b (.v 3),.b (.v 4),.i (.v 5),.i (.v 6),.i (.v 7),.i (.v 8),.i (.v 9),.i (.c 2),.i (.c 2),.b (.v 12),.i (.v 13),.b (.v 14),.i (.v 15),.i (.v 16),.i (.v 17),.i (.v 18),.i (.v 19),.i (.v 20)] [.one (.s 74 bY)] 29) (
.ret [.l 29])) (
.stuck "")))) (
.stuck "")))) (
.ite (.eq (.v 10) (.c 0)) (
.ite (.eq (.v 11) (.c 0)) (
.ev (.call 122 (.c true) [.l 0,.l 1,.i (.v 2),.b (.v 3),.b (.v 4),.i (.v 5),.i (.v 6),.i (.v 7),.i (.v 8),.i (.v 9),.i (.c 0),.i (.c 0),.b (.v 12),.i (.v 13),.b (.v 14),.i (.v 15),.i (.v 16),.i (.v 17),.i (.v 18),.i (.v 19),.i (.v 20)] [.one (.s 74 bY)] 29) (
.ret [.l 29])) (
.ite (.eq (.v 11) (.c 1)) (
.ev (.call 123 (.c true) [.l 0,.l 1,.i (.v 2),.b (.v 3),.b (.v 4),.i (.v 5),.i (.v 6),.i (.v 7),.i (.v 8),.i (.v 9),.i (.c 0),.i (.c 1),.b (.v 12),.i (.v 13),.b (.v 14),.i (.v 15),.i (.v 16),.i (.v 17),.i (.v 18),.i (.v 19),.i (.v 20)] [.one (.s 74 bY)] 29) (
.ret [.l 29])) (
.ite (.eq (.v 11) (.c 2)) (
.ev (.call 124 (.c true) [.l 0,.l 1,.i (.v 2),.b (.v 3),.b (.v 4),.i (.v 5),.i (.v 6),.i (.v 7),.i (.v 8),.i (.v 9),.i (.c 0),.i (.c 2),.b (.v 12),.i (.v 13),.b (.v 14),.i (.v 15),.i (.v 16),.i (.v 17),.i (.v 18),.i (.v 19),.i (.v 20)] [.one (.s 74 bY)] 29) (
.ret [.l 29])) (
.stuck "")))) (
.ite (.eq (.v 10) (.c 1)) (
.ite (.eq (.v 11) (.c 0)) (
.ev (.call 122 (.c true) [.l 0,.l 1,.i (.v 2),.b (.v 3),.b (.v 4),.i (.v 5),.i (.v 6),.i (.v 7),.i (.v 8),.i (.v 9),.i (.c 1),.i (.c 0),.b (.v 12),.i (.v 13),.b (.v 14),.i (.v 15),.i (.v 16),.i (.v 17),.i (.v 18),.i (.v 19),.i (.v 20)] [.one (.s 74 bY)] 29) (
.ret [.l 29])) (
.ite (.eq (.v 11) (.c 1)) (
.ev (.call 123 (.c true) [.l 0,.l 1,.i (.v 2),.b (.v 3),.b (.v 4),.i (.v 5),.i (.v 6),.i (.v 7),.i (.v 8),.i (.v 9),.i (.c 1),.i (.c 1),.b (.v 12),.i (.v 13),.b (.v 14),.i (.v 15),.i (.v 16),.i (.v 17),.i (.v 18),.i (.v 19),.i (.v 20)] [.one (.s 74 bY)] 29) (
.ret [.l 29])) (
.ite (.eq (.v 11) (.c 2)) (
.ev (.call 124 (.c true) [.l 0,.l 1,.i (.v 2),.b (.v 3),.b (.v 4),.i (.v 5),.i (.v 6),.i (.v 7),.i (.v 8),.i (.v 9),.i (.c 1),.i (.c 2),.b (.v 12),.i (.v 13),.b (.v 14),.i (.v 15),.i (.v 16),.i (.v 17),.i (.v 18),.i (.v 19),.i (.v 20)] [.one (.s 74 bY)] 29) (
.ret [.l 29])) (
.stuck "")))) (
.ite (.eq (.v 10) (.c 2)) (
.ite (.eq (.v 11) (.c 0)) (
.ev (.call 122 (.c true) [.l 0,.l 1,.i (.v 2),.b (.v 3),.b (.v 4),.i (.v 5),.i (.v 6),.i (.v 7),.i (.v 8),.i (.v 9),.i (.c 2),.i (.c 0),.b (.v 12),.i (.v 13),.b (.v 14),.i (.v 15),.i (.v 16),.i (.v 17),.i (.v 18),.i (.v 19),.i (.v 20)] [.one (.s 74 bY)] 29) (
.ret [.l 29])) (
.ite (.eq (.v 11) (.c 1)) (
.ev (.call 123 (.c true) [.l 0,.l 1,.i (.v 2),.b (.v 3),.b (.v 4),.i (.v 5),.i (.v 6),.i (.v 7),.i (.v 8),.i (.v 9),.i (.c 2),.i (.c 1),.b (.v 12),.i (.v 13),.b (.v 14),.i (.v 15),.i (.v 16),.i (.v 17),.i (.v 18),.i (.v 19),.i (.v 20)] [.one (.s 74 bY)] 29) (
.ret [.l 29])) (
.ite (.eq (.v 11) (.c 2)) (
.ev (.call 124 (.c true) [.l 0,.l 1,.i (.v 2),.b (.v 3),.b (.v 4),.i (.v 5),.i (.v 6),.i (.v 7),.i (.v 8),.i (.v 9),.i (.c 2),.i (.c 2),.b (.v 12),.i (.v 13),.b (.v 14),.i (.v 15),.i (.v 16),.i (.v 17),.i (.v 18),.i (.v 19),.i (.v 20)] [.one (.s 74 bY)] 29) (
.ret [.l 29])) (
.stuck "")))) (
.stuck ""))))))))))
theorem T74:TT Tryz.prog 74=some ⟨74,t74,(rowOf 74).sub⟩:=by kernel_rfl
def t119:aw:=
.ite (.or (.or (.or (.lt (.v 0) (.c 1)) (.lt (.c 64) (.v 0))) (.lt (.v 6) (.c 1))) (.lt (.c 64) (.v 6))) (
.ret [.b (.c false)]) (
.ite (.or (.or (.or (.lt (.c 2) (.wrap .u64 (.v 7))) (.lt (.c 2) (.wrap .u64 (.v 8)))) (.lt (.c 2) (.wrap .u64 (.v 9)))) (.lt (.c 3) (.wrap .u64 (.v 11)))) (
.ret [.b (.c false)]) (
.ev (.call 174 (.and (.and (.and (.le (.c (-65536)) (.v 13)) (.le (.v 13) (.c 65536))) (.le (.c (-16777216)) (.v 14))) (.le (.v 14) (.c 16777216))) [.i (.v 3),.i (.v 4),.i (.v 5)] [oB] 16) (
.ret [.b (.and (.and (.and (.and (.le (.c (-65536)) (.v 13)) (.le (.v 13) (.c 65536))) (.le (.c (-16777216)) (.v 14))) (.le (.v 14) (.c 16777216))) (.v 16))])))
theorem Wa:TT Tryz.prog 119=some ⟨119,t119,(rowOf 119).sub⟩:=by kernel_rfl
def t120:aw:=
.ev (.call 121 (.c true) [.l 0,.b (.v 11)] [oB] 17) (
.ite (.v 17) (
.ret [.b (.not (.eq (.emod (.v 12) 2) (.c 0)))]) (
.ret [.b (.not (.eq (.bits .and .i64 (.v 12) (.c 2)) (.c 0)))]))
theorem agK:TT Tryz.prog 120=some ⟨120,t120,(rowOf 120).sub⟩:=by kernel_rfl
section
variable {E:Nat->List DV->List DV->Prop}{R:List DV->Prop}{Ps:List (Int->Prop)}{U:az}{F:Nat->List DV->Prop}{t t':aw}
theorem RY{c:BE}(hc:c.ae U=true)(h:t.par E R Ps U F):(aw.ite c t t').par E R Ps U F:=Mw (fun _=>h) (fun e=>by rw[hc]at e;cases e)
theorem zZ{c:BE}(hc:c.ae U=false)(h:t'.par E R Ps U F):(aw.ite c t t').par E R Ps U F:=Mw (fun e=>by rw[hc]at e;cases e) (fun _=>h)
theorem Wb{f:FuncId}{g:BE}{args:List DE}{base:Nat}(hk:∀ds rs,E f ds rs->∃b,rs=[.b b])(ht:∀b,(g.ae U=true->E f (args.map (DE.ae U)) [.b b])->t.par E R Ps (U.ar base [.b b]) F):(aw.ev (.call f g args [oB] base) t).par E R Ps U F:=by
 refine RA (fun hg rs h=>?_) (fun hg=>?_)
 . obtain⟨b,rfl⟩:=hk _ _ h;exact ht b fun _=>h
 . exact ht false fun e=>by rw[hg]at e;cases e
theorem Wc{f:FuncId}{args:List DE}{res:List VT}{base:Nat}(hk:∀ds rs,E f ds rs->∃b,rs=[.b b])(ht:∀b,E f (args.map (DE.ae U)) [.b b]->t.par E R Ps (U.ar base [.b b]) F):(aw.ev (.call f (.c true) args res base) t).par E R Ps U F:=by
 refine Mv fun rs h=>?_
 obtain⟨b,rfl⟩:=hk _ _ h;exact ht b h
theorem agL{f:FuncId}{args:List DE}{res:List VT}{base:Nat}(hk:∀ds rs,E f ds rs->∃l,rs=[.l l])(ht:∀l,E f (args.map (DE.ae U)) [.l l]->t.par E R Ps (U.ar base [.l l]) F):(aw.ev (.call f (.c true) args res base) t).par E R Ps U F:=by
 refine Mv fun rs h=>?_
 obtain⟨b,rfl⟩:=hk _ _ h;exact ht b h
end
def A5(fr:Bool)(m n:Int):Nat:=let x:=if fr then m else n;if x=0 then 122 else if x=1 then 123 else 124
section
variable (E:Nat->List DV->List DV->Prop)(ws on:List (List Int))(l0:Int)(l1 l2:Bool)(l3 l4 l5 l6 l7 l8 l9:Int)(pM:Bool)(zm:Int)(sb:Bool)(sc se b0 b1 b2 b3:Int)
def oo:List DV:=[.i l0,.b l1,.b l2,.i l3,.i l4,.i l5,.i l6,.i l7,.i l8,.i l9,.b pM,.i zm,.b sb,.i sc,.i se]
def kW:List DV:=[.l ws,.l on]++oo l0 l1 l2 l3 l4 l5 l6 l7 l8 l9 pM zm sb sc se++[.i b0,.i b1,.i b2,.i b3]
def R74(rs:List DV):Prop:=∃a b r cu:Bool,E 118 (kW ws on l0 l1 l2 l3 l4 l5 l6 l7 l8 l9 pM zm sb sc se b0 b1 b2 b3) [.b a]/\(a=true->E 119 (oo l0 l1 l2 l3 l4 l5 l6 l7 l8 l9 pM zm sb sc se) [.b b])/\
 (a=true->b=true->E 65 [.i b0,.i b1,.i b2,.i b3] [.b r])/\(a=true->b=true->r=true->E 120 (.l ws::oo l0 l1 l2 l3 l4 l5 l6 l7 l8 l9 pM zm sb sc se) [.b cu])/\
 (((!a || !b || !r||cu)=true/\rs=[.l []])\/((!a || !b || !r||cu)=false/\∃fr l,E 121 [.l ws,.b pM] [.b fr]/\rs=[.l l]/\E (A5 fr l8 l9) (kW ws on l0 l1 l2 l3 l4 l5 l6 l7 l8 l9 pM zm sb sc se b0 b1 b2 b3) [.l l]))
theorem aaZ(hb:∀k,k=118\/k=119\/k=65\/k=120\/k=121->∀ds rs,E k ds rs->∃b,rs=[.b b])(hl:∀k,k=122\/k=123\/k=124->∀ds rs,E k ds rs->∃l,rs=[.l l]) :
   t74.par E (R74 E ws on l0 l1 l2 l3 l4 l5 l6 l7 l8 l9 pM zm sb sc se b0 b1 b2 b3) [] (aM.ar 0 (kW ws on l0 l1 l2 l3 l4 l5 l6 l7 l8 l9 pM zm sb sc se b0 b1 b2 b3)) (fun _ _=>True):=by
 unfold t74;refine Wc (hb 118 (by simp)) fun a ha=>Wb (hb 119 (by simp)) fun b la=>Wb (hb 65 (by simp)) fun r hr=>Wb (hb 120 (by simp)) fun cu hcu=>?_
 have g1:a=true->E 119 (oo l0 l1 l2 l3 l4 l5 l6 l7 l8 l9 pM zm sb sc se) [.b b]:=fun e=>la e
 have g2:a=true->b=true->E 65 [.i b0,.i b1,.i b2,.i b3] [.b r]:=fun e1 e2=>hr (by show(!(!a || !b))=true;rw[e1,e2];rfl)
 have g3:a=true->b=true->r=true->E 120 (.l ws::oo l0 l1 l2 l3 l4 l5 l6 l7 l8 l9 pM zm sb sc se) [.b cu]:=fun e1 e2 e3=>hcu (by show(!(!a || !b || !r))=true;rw[e1,e2,e3];rfl)
 refine Mw (fun h=>?_) (fun h=>?_)
 . exact Hs ⟨a,b,r,cu,ha,g1,g2,g3,.inl ⟨h,rfl⟩⟩
 have h:(!a || !b || !r||cu)=false:=h;refine Wc (hb 121 (by simp)) fun fr IJ=>?_
 have qD:∀l,E (A5 fr l8 l9) (kW ws on l0 l1 l2 l3 l4 l5 l6 l7 l8 l9 pM zm sb sc se b0 b1 b2 b3) [.l l]->(R74 E ws on l0 l1 l2 l3 l4 l5 l6 l7 l8 l9 pM zm sb sc se b0 b1 b2 b3) [.l l]:=fun l hq=>⟨a,b,r,cu,ha,g1,g2,g3,.inr ⟨h,fr,l,IJ,rfl,hq⟩⟩
 by_cases e8:l8=0\/l8=1\/l8=2
 . by_cases e9:l9=0\/l9=1\/l9=2
   . rcases e8 with rfl|rfl|rfl<;>rcases e9 with rfl|rfl|rfl<;>cases fr<;>(repeat' (first|refine RY rfl ?_|refine zZ rfl ?_))<;>exact agL (hl _ (by simp)) fun l hq=>Hs (qD l hq)
   . have n0:l9≠0:=fun e=>e9 (by simp[e])
     have n1:l9≠1:=fun e=>e9 (by simp[e])
     have n2:l9≠2:=fun e=>e9 (by simp[e])
     rcases e8 with rfl|rfl|rfl<;>cases fr<;>(repeat' (first|refine RY rfl ?_|refine zZ rfl ?_|refine zZ (decide_eq_false n0) ?_|refine zZ (decide_eq_false n1) ?_|refine zZ (decide_eq_false n2) ?_))<;>trivial
 . have n0:l8≠0:=fun e=>e8 (by simp[e])
   have n1:l8≠1:=fun e=>e8 (by simp[e])
   have n2:l8≠2:=fun e=>e8 (by simp[e])
   cases fr<;>(repeat' (first|refine RY rfl ?_|refine zZ rfl ?_|refine zZ (decide_eq_false n0) ?_|refine zZ (decide_eq_false n1) ?_|refine zZ (decide_eq_false n2) ?_))<;>trivial
end
end Go.Proofs.YtohebioanhliiaaGreatDoor.aD
namespace Go.Proofs.YtohebioanhliiaaGreatDoor.aD
open Go.Sx Go
variable {X:bA}
def qZ(s:List (FuncId×Nat)):Bool:=s.all fun p=>Nat.beq p.2 999999
theorem JN{k:Nat}{t:aw}{s:List (FuncId×Nat)}(h:qZ s=true)(g:FuncId):(⟨k,t,s⟩:gR).key g=g\/(⟨k,t,s⟩:gR).key g=999999:=by
 show(match s.find? (fun p=>p.1==g)with
   |some p=>p.2
   |none=>g)=g\/(match s.find? (fun p=>p.1==g)with
   |some p=>p.2
   |none=>g)=999999
 cases hf:s.find? (fun p=>p.1==g)with
 |none=>exact .inl rfl
 |some p=>exact .inr (Nat.eq_of_beq_eq_true (List.all_eq_true.1 h p (List.mem_of_find?_eq_some hf)))
theorem re(hX:oq X){k:Nat}{t:aw}{s:List (FuncId×Nat)}(h:qZ s=true){g:FuncId}{ds rs:List DV}(hg:bK (TT Tryz.prog) X ((⟨k,t,s⟩:gR).key g) ds rs):bK (TT Tryz.prog) X g ds rs:=by
 rcases JN (k:=k) (t:=t) h g with e|e
 . rwa[e]at hg
 . rw[e]at hg;exact(D9 hX.no hg).elim
theorem p74:qZ (rowOf 74).sub=true:=by kernel_rfl
theorem agM:qZ (rowOf 120).sub=true:=by kernel_rfl
theorem sgB:iD 118=some ⟨(iD 118).get!.args,[oB],0⟩/\iD 119=some ⟨(iD 119).get!.args,[oB],0⟩/\iD 65=some ⟨(iD 65).get!.args,[oB],0⟩/\iD 120=some ⟨(iD 120).get!.args,[oB],0⟩/\iD 121=some ⟨(iD 121).get!.args,[oB],0⟩:=⟨by kernel_rfl,by kernel_rfl,by kernel_rfl,by kernel_rfl,by kernel_rfl⟩
theorem sgL:iD 122=some ⟨(iD 122).get!.args,[.one (.s 74 bY)],0⟩/\iD 123=some ⟨(iD 123).get!.args,[.one (.s 74 bY)],0⟩/\iD 124=some ⟨(iD 124).get!.args,[.one (.s 74 bY)],0⟩:=⟨by kernel_rfl,by kernel_rfl,by kernel_rfl⟩
theorem MV(hX:oq X)(k:Nat)(hk:k=118\/k=119\/k=65\/k=120\/k=121)(ds rs:List DV)(h:bK (TT Tryz.prog) X k ds rs):∃b,rs=[.b b]:=by
 have key:∀s:bN,iD k=some s->bD s.res=[.c .b]->∃b,rs=[.b b]:=fun s hs hc=>by
   have:=hX.kd k s ds rs hs h;rw[hc]at this;obtain⟨x,dW,rfl,h'⟩:=aa0 this;rw[iF h'];exact⟨x,rfl⟩
 obtain⟨s1,s2,s3,s4,s5⟩:=sgB;rcases hk with rfl|rfl|rfl|rfl|rfl
 . exact key _ s1 rfl
 . exact key _ s2 rfl
 . exact key _ s3 rfl
 . exact key _ s4 rfl
 . exact key _ s5 rfl
theorem We(hX:oq X)(k:Nat)(hk:k=122\/k=123\/k=124)(ds rs:List DV)(h:bK (TT Tryz.prog) X k ds rs):∃l,rs=[.l l]:=by
 have key:∀s:bN,iD k=some s->bD s.res=[.s 74 bY]->∃b,rs=[.l b]:=fun s hs hc=>by
   have:=hX.kd k s ds rs hs h;rw[hc]at this;obtain⟨x,dW,rfl,h'⟩:=F5 this;rw[iF h'];exact⟨x,rfl⟩
 obtain⟨s1,s2,s3⟩:=sgL;rcases hk with rfl|rfl|rfl
 . exact key _ s1 rfl
 . exact key _ s2 rfl
 . exact key _ s3 rfl
section
variable {ws on:List (List Int)}{l0:Int}{l1 l2:Bool}{l3 l4 l5 l6 l7 l8 l9:Int}{pM:Bool}{sb:Bool}{sc se b0 b1 b2 b3:Int}
theorem RZ(fr:Bool)(m n:Int):A5 fr m n=122\/A5 fr m n=123\/A5 fr m n=124:=by
 have key:∀x:Int,(if x=0 then 122 else if x=1 then 123 else 124:Nat)=122\/(if x=0 then 122 else if x=1 then 123 else 124:Nat)=123\/(if x=0 then 122 else if x=1 then 123 else 124:Nat)=124:=by
   intro x;by_cases h0:x=0
   . simp[h0]
   . by_cases h1:x=1
     . simp[h1]
     . simp[h0,h1]
 exact key _
theorem yG(hX:oq X){zm:Int}{rs:List DV}(hg:bK (TT Tryz.prog) X 74 (kW ws on l0 l1 l2 l3 l4 l5 l6 l7 l8 l9 pM zm sb sc se b0 b1 b2 b3) rs) :
   R74 (bK (TT Tryz.prog) X) ws on l0 l1 l2 l3 l4 l5 l6 l7 l8 l9 pM zm sb sc se b0 b1 b2 b3 rs:=by
 have hs:=fun {g ds rs}=>re hX (k:=74) (t:=t74) p74 (g:=g) (ds:=ds) (rs:=rs)
 obtain⟨a,b,r,cu,h1,h2,h3,h4,h5⟩:=A1 T74 (aaZ (fun g=>bK (TT Tryz.prog) X ((⟨74,t74,(rowOf 74).sub⟩:gR).key g)) ws on l0 l1 l2 l3 l4 l5 l6 l7 l8 l9 pM zm sb sc se b0 b1 b2 b3 (fun k hk ds rs h=>MV hX k hk ds rs (hs h)) (fun k hk ds rs h=>We hX k hk ds rs (hs h))) hg
 refine⟨a,b,r,cu,hs h1,fun e=>hs (h2 e),fun e e'=>hs (h3 e e'),fun e e' YI=>hs (h4 e e' YI),?_⟩
 rcases h5 with h5|⟨h5,fr,l,h6,h7,h8⟩
 . exact .inl h5
 . exact .inr ⟨h5,fr,l,hs h6,h7,hs h8⟩
def a119:BE:=(.or (.or (.or (.lt (.v 0) (.c 1)) (.lt (.c 64) (.v 0))) (.lt (.v 6) (.c 1))) (.lt (.c 64) (.v 6)))
def Wf:BE:=(.or (.or (.or (.lt (.c 2) (.wrap .u64 (.v 7))) (.lt (.c 2) (.wrap .u64 (.v 8)))) (.lt (.c 2) (.wrap .u64 (.v 9)))) (.lt (.c 3) (.wrap .u64 (.v 11))))
def Wg:aw:=.ev (.call 174 (.and (.and (.and (.le (.c (-65536)) (.v 13)) (.le (.v 13) (.c 65536))) (.le (.c (-16777216)) (.v 14))) (.le (.v 14) (.c 16777216))) [.i (.v 3),.i (.v 4),.i (.v 5)] [oB] 16) (
.ret [.b (.and (.and (.and (.and (.le (.c (-65536)) (.v 13)) (.le (.v 13) (.c 65536))) (.le (.c (-16777216)) (.v 14))) (.le (.v 14) (.c 16777216))) (.v 16))])
theorem R3:t119 = .ite a119 (.ret [.b (.c false)]) (.ite Wf (.ret [.b (.c false)]) Wg):=rfl
theorem F6{C:bA}{N:Nat}{F:oe}{U ak:az}(h:∀k,(!(Nat.beq k 11))=true->U k=ak k)(ha:a119.ae U=a119.ae ak)(hb:Wf.ae U=Wf.ae ak):t119.run C N [] U F=t119.run C N [] ak F:=by
 have hs:Wg.run C N [] U F=Wg.run C N [] ak F:=D5 (D:=fun _ _=>true) (fun f ds mr hd=>by rw[hd.eq fun _=>rfl]) h (by decide)
 rw[R3];simp only[aw.run,ha,hb,hs];rfl
theorem yH{l0:Int}{l1 l2:Bool}{l3 l4 l5 l6 l7 l8 l9:Int}{pM sb:Bool}{sc se:Int}(c c':Int):∀k,(!(Nat.beq k 11))=true->aM.ar 0 (oo l0 l1 l2 l3 l4 l5 l6 l7 l8 l9 pM c sb sc se) k=aM.ar 0 (oo l0 l1 l2 l3 l4 l5 l6 l7 l8 l9 pM c' sb sc se) k:=by
 intro k hk;have cx:k≠11:=fun e=>by subst e;cases hk
 by_cases h:k<15
 . match k,h,cx with
   |0,_,_|1,_,_|2,_,_|3,_,_|4,_,_|5,_,_|6,_,_|7,_,_|8,_,_|9,_,_|10,_,_|12,_,_|13,_,_|14,_,_=>rfl
   |11,_,h=>exact absurd rfl h
   |k+15,h,_=>omega
 . rw[az.ej (by show 0+15<=k;omega),az.ej (by show 0+15<=k;omega)]
def EK(fr:Bool)(c:Int):Bool:=if fr then !(decide (c%2=0))else !(decide (Go.bits .and .i64 c 2=0))
theorem yI(hX:oq X){zm:Int}{cu:Bool}(hg:bK (TT Tryz.prog) X 120 (.l ws::oo l0 l1 l2 l3 l4 l5 l6 l7 l8 l9 pM zm sb sc se) [.b cu]):∃fr,bK (TT Tryz.prog) X 121 [.l ws,.b pM] [.b fr]/\cu=EK fr zm:=by
 have hs:=fun {g ds rs}=>re hX (k:=120) (t:=t120) agM (g:=g) (ds:=ds) (rs:=rs)
 refine A1 (R:=fun rs=>∀cu,rs=[.b cu]->∃fr,bK (TT Tryz.prog) X 121 [.l ws,.b pM] [.b fr]/\cu=EK fr zm) agK ?_ hg cu rfl
 unfold t120;refine Wc (fun ds rs h=>MV hX 121 (by simp) ds rs (hs h)) fun fr IJ=>?_
 have IJ:bK (TT Tryz.prog) X 121 [.l ws,.b pM] [.b fr]:=hs IJ;cases fr with
 | true=>
   refine RY rfl (Hs fun cu e=>⟨true,IJ,?_⟩)
   have e: [DV.b (!(decide (zm%2=0)))]=[DV.b cu]:=e;cases e;rfl
 | false=>
   refine zZ rfl (Hs fun cu e=>⟨false,IJ,?_⟩)
   have e: [DV.b (!(decide (Go.bits .and .i64 zm 2=0)))]=[DV.b cu]:=e;cases e;rfl
theorem JO{c:Int}(hc:0<=c/\c<=3):∀n,ev (TT Tryz.prog) X n 119 (oo l0 l1 l2 l3 l4 l5 l6 l7 l8 l9 pM c sb sc se)=ev (TT Tryz.prog) X n 119 (oo l0 l1 l2 l3 l4 l5 l6 l7 l8 l9 pM 0 sb sc se):=by
 intro n;cases n with
 |zero=>rfl
 | succ n=>
   have wP:c=0\/c=1\/c=2\/c=3:=by omega
   rcases wP with rfl|rfl|rfl|rfl
   . rfl
   . simp only[ev,Wa];exact F6 (yH _ _) rfl rfl
   . simp only[ev,Wa];exact F6 (yH _ _) rfl rfl
   . simp only[ev,Wa];exact F6 (yH _ _) rfl rfl
theorem Cr{a b:Nat}(h:a≠b):Nat.beq a b=false:=by
 cases e:Nat.beq a b with
 |false=>rfl
 |true=>exact absurd (Nat.eq_of_beq_eq_true e) h
theorem Wh:∀x∈[(21,118),(21,122),(21,123),(21,124),(36,72),(94,28),(94,29)],∀i,x.1<=i->DC x.2 i=true:=by
 intro x hx i hi;simp only[bq,List.not_mem_nil,or_false]at hx;unfold DC;rcases hx with rfl|rfl|rfl|rfl|rfl|rfl|rfl<;>(simp only[Bool.not_eq_true',Bool.or_eq_false_iff,Bool.and_eq_false_iff];refine⟨⟨⟨⟨⟨⟨?_,?_⟩,?_⟩,?_⟩,?_⟩,?_⟩,?_⟩<;>first|exact .inl rfl|exact .inr (Cr (by simp at hi;omega)))
theorem Wi:∀x∈[(21,118),(21,122),(21,123),(21,124),(36,72),(94,28),(94,29)],yz (TT Tryz.prog) DC x.1 x.2=true:=by
 intro x hx;simp only[bq,List.not_mem_nil,or_false]at hx;rcases hx with rfl|rfl|rfl|rfl|rfl|rfl|rfl
 . exact i118
 . exact i122
 . exact i123
 . exact i124
 . exact i72
 . exact i28
 . exact i29
theorem Wj(k:Nat):(∀i,DC k i=true)\/∃n,(n,k)∈[(21,118),(21,122),(21,123),(21,124),(36,72),(94,28),(94,29)]:=by
 by_cases h:k=118\/k=122\/k=123\/k=124\/k=72\/k=28\/k=29
 . right;rcases h with rfl|rfl|rfl|rfl|rfl|rfl|rfl
   . exact⟨21,by simp⟩
   . exact⟨21,by simp⟩
   . exact⟨21,by simp⟩
   . exact⟨21,by simp⟩
   . exact⟨36,by simp⟩
   . exact⟨94,by simp⟩
   . exact⟨94,by simp⟩
 . left;intro i;have hh:k≠118/\k≠122/\k≠123/\k≠124/\k≠72/\k≠28/\k≠29:=by
     refine⟨?_,?_,?_,?_,?_,?_,?_⟩<;>(intro e;exact h (by simp[e]))
   unfold DC;rw[Cr hh.1,Cr hh.2.1,Cr hh.2.2.1,Cr hh.2.2.2.1,Cr hh.2.2.2.2.1,Cr hh.2.2.2.2.2.1,Cr hh.2.2.2.2.2.2];rfl
theorem Cs{k:Nat}{ds mr rs:List DV}(h:zY (DC k) ds mr)(hg:bK (TT Tryz.prog) X k ds rs):bK (TT Tryz.prog) X k mr rs:=FV Wi Wh Wj h hg
theorem wj{k:Nat}(hk:k=118\/k=122\/k=123\/k=124)(c c':Int):zY (DC k) (kW ws on l0 l1 l2 l3 l4 l5 l6 l7 l8 l9 pM c sb sc se b0 b1 b2 b3) (kW ws on l0 l1 l2 l3 l4 l5 l6 l7 l8 l9 pM c' sb sc se b0 b1 b2 b3):=by
 refine⟨rfl,fun i hi=>?_⟩
 have cx:i≠13:=by
   intro e;subst e;rcases hk with rfl|rfl|rfl|rfl<;>exact absurd hi (by decide)
 by_cases h:i<21
 . match i,h,cx with
   |0,_,_|1,_,_|2,_,_|3,_,_|4,_,_|5,_,_|6,_,_|7,_,_|8,_,_|9,_,_|10,_,_|11,_,_|12,_,_|14,_,_|15,_,_|16,_,_|17,_,_|18,_,_|19,_,_|20,_,_=>rfl
   |13,_,h=>exact absurd rfl h
   |i+21,h,_=>omega
 . rw[List.getElem?_eq_none (by show 21<=i;omega),List.getElem?_eq_none (by show 21<=i;omega)]
theorem aa1(hX:oq X){f:Int->List (List Int)}(hf:∀c,0<=c->c<=3->bK (TT Tryz.prog) X 74 (kW ws on l0 l1 l2 l3 l4 l5 l6 l7 l8 l9 pM c sb sc se b0 b1 b2 b3) [.l (f c)]) :
   (f 0).length=(f 1).length+(f 2).length/\f 3=[]:=by
 have main:(∀c,0<=c->c<=3->f c=[])\/∃fr G,∀c,0<=c->c<=3->f c=if EK fr c then []else G:=by
   obtain⟨a,b,r,_,h1,h2,h3,h4,_⟩:=yG hX (hf 0 (by omega) (by omega))
   have ha:∀ {c},0<=c->c<=3->∀ {a' b' r'},bK (TT Tryz.prog) X 118 (kW ws on l0 l1 l2 l3 l4 l5 l6 l7 l8 l9 pM c sb sc se b0 b1 b2 b3) [.b a']->(a'=true->bK (TT Tryz.prog) X 119 (oo l0 l1 l2 l3 l4 l5 l6 l7 l8 l9 pM c sb sc se) [.b b'])->(a'=true->b'=true->bK (TT Tryz.prog) X 65 [.i b0,.i b1,.i b2,.i b3] [.b r'])->a'=a/\(a=true->b'=b)/\(a=true->b=true->r'=r):=by
     intro c c0 c1 a' b' r' g1 g2 g3;have e1:=(Cs (wj (.inl rfl) c 0) g1).AR h1;cases e1;have e2:a=true->b'=b:=fun ea=>by
       obtain⟨n,hn⟩:=g2 ea;rw[JO ⟨c0,c1⟩]at hn;have:=bK.AR ⟨n,hn⟩ (h2 ea);cases this;rfl
     refine⟨rfl,e2,fun ea eb=>?_⟩
     have:=(g3 ea (by rw[e2 ea];exact eb)).AR (h3 ea eb)
     cases this;rfl
   by_cases b8:a=true/\b=true/\r=true
   . obtain⟨rfl,rfl,rfl⟩:=b8;right;obtain⟨fr,IJ,_⟩:=yI hX (h4 rfl rfl rfl);have key:∀c,0<=c->c<=3->(EK fr c=true/\f c=[])\/(EK fr c=false/\bK (TT Tryz.prog) X (A5 fr l8 l9) (kW ws on l0 l1 l2 l3 l4 l5 l6 l7 l8 l9 pM 0 sb sc se b0 b1 b2 b3) [.l (f c)]):=by
       intro c c0 c1;obtain⟨a',b',r',cu,g1,g2,g3,g4,g5⟩:=yG hX (hf c c0 c1);obtain⟨rfl,e2,e3⟩:=ha c0 c1 g1 g2 g3;obtain rfl:=e2 rfl;obtain rfl:=e3 rfl rfl;obtain⟨fr',agN,rfl⟩:=yI hX (g4 rfl rfl rfl);have:=agN.AR IJ;cases this;rcases g5 with⟨g5,e⟩|⟨g5,fr2,l,g6,e,g7⟩
       . left;have e: [DV.l (f c)]=[DV.l []]:=e;have g5:(false||false||false||EK fr c)=true:=g5;exact⟨by simpa using g5,by injection e with e;injection e⟩
       . right;have:=g6.AR IJ;cases this;have e: [DV.l (f c)]=[DV.l l]:=e;have g5:(false||false||false||EK fr c)=false:=g5;cases e;exact⟨by simpa using g5,Cs (wj (.inr (RZ _ _ _)) c 0) g7⟩
     by_cases hex:∃c,0<=c/\c<=3/\EK fr c=false
     . obtain⟨c,c0,c1,hc⟩:=hex;refine⟨fr,f c,fun c' c0' Ts=>?_⟩
       rcases key c' c0' Ts with⟨e,h⟩|⟨e,h⟩
       . rw[if_pos e,h]
       . rw[if_neg (by rw[e];decide)]
         rcases key c c0 c1 with⟨e',_⟩|⟨_,h'⟩
         . rw[hc]at e';cases e'
         . have:=h.AR h';injection this with this;injection this
     . refine⟨fr,[],fun c c0 c1=>?_⟩
       rcases key c c0 c1 with⟨e,h⟩|⟨e,h⟩
       . rw[if_pos e,h]
       . exact absurd ⟨c,c0,c1,e⟩ hex
   . left;intro c c0 c1;obtain⟨a',b',r',cu,g1,g2,g3,g4,g5⟩:=yG hX (hf c c0 c1);obtain⟨rfl,e2,e3⟩:=ha c0 c1 g1 g2 g3;have hn:(!a' || !b' || !r'||cu)=true:=by
       cases ea:a' with
       |false=>rfl
       | true=>
         cases eb:b' with
         |false=>rfl
         | true=>
           cases er:r' with
           |false=>rfl
           |true=>exact absurd ⟨ea,by rw[<- e2 ea];exact eb,by rw[<- e3 ea (by rw[<- e2 ea];exact eb)];exact er⟩ b8
     rcases g5 with⟨_,e⟩|⟨g5,_⟩
     . have e: [DV.l (f c)]=[DV.l []]:=e;injection e with e;injection e
     . rw[hn]at g5;cases g5
 rcases main with h|⟨fr,G,h⟩
 . rw[h 0 (by omega) (by omega),h 1 (by omega) (by omega),h 2 (by omega) (by omega),h 3 (by omega) (by omega)]
   exact⟨rfl,rfl⟩
 . rw[h 0 (by omega) (by omega),h 1 (by omega) (by omega),h 2 (by omega) (by omega),h 3 (by omega) (by omega)]
   cases fr
   . rw[show EK false 0=false by decide,show EK false 1=false by decide,show EK false 2=true by decide,show EK false 3=true by decide]
     exact⟨rfl,rfl⟩
   . rw[show EK true 0=false by decide,show EK true 1=true by decide,show EK true 2=false by decide,show EK true 3=true by decide]
     exact⟨by simp,rfl⟩
end
end Go.Proofs.YtohebioanhliiaaGreatDoor.aD
namespace Go.Proofs.YtohebioanhliiaaGreatDoor.aD
open Go.Sx Go
variable {X:bA}
theorem F7{r r':List Int}(h:r.length=7)(h':r'.length=7)(e:cells 7 r=cells 7 r'):r=r':=by
 match r,r',h,h' with
 | [a0,a1,a2,a3,a4,a5,a6],[c0,c1,c2,c3,c4,c5,c6],_,_=>
   have e: [DV.i a0,.i a1,.i a2,.i a3,.i a4,.i a5,.i a6]=[DV.i c0,.i c1,.i c2,.i c3,.i c4,.i c5,.i c6]:=e;simp only[List.cons.injEq,DV.i.injEq,and_true]at e;obtain⟨rfl,rfl,rfl,rfl,rfl,rfl,rfl⟩:=e;rfl
structure vm(X:bA)(D:Int->sf) where
 E:Nat->List DV->List DV->Prop
 hE:∀c,(D c).E=E
 Hz:∀g ds rs,E g ds rs->bK (TT Tryz.prog) X g ds rs
 port:∀c,(D c).port=(D 0).port
 je:∀c r,(D c).je r=(D 0).je r
 cX:∀c,(D c).cX=(D 0).cX
 l0:Int
 l1:Bool
 l2:Bool
 l3:Int
 l4:Int
 l5:Int
 l6:Int
 l7:Int
 l8:Int
 l9:Int
 pM:Bool
 sb:Bool
 sc:Int
 se:Int
 look:∀c,(D c).look=oo l0 l1 l2 l3 l4 l5 l6 l7 l8 l9 pM c sb sc se
 b0:Int
 b1:Int
 b2:Int
 b3:Int
 bx:∀c,(D c).bx=[.i b0,.i b1,.i b2,.i b3]
variable {D:Int->sf}
theorem vm.AR(F:vm X D){k:Nat}{ds rs dW:List DV}(h:F.E k ds rs)(h':F.E k ds dW):rs=dW:=(F.Hz _ _ _ h).AR (F.Hz _ _ _ h')
theorem vm.place(F:vm X D){c c':Int}{v:List Int}{p p':List DV}{e e':Int}(h:(D c).place v p e)(h':(D c').place v p' e'):p=p'/\e=e':=by
 obtain⟨hl,h⟩:=h;obtain⟨tu,h'⟩:=h';rw[F.hE,F.port]at h h';have:=F.AR h h';obtain⟨e1,e2⟩:=List.append_inj' this (by rfl)
 refine⟨e1,?_⟩;injection e2 with e2;injection e2
def MW(D:sf)(vs es:List (List Int)):Prop:=(∃on e,D.E 73 [.l vs,.l es,.l D.cX] [.l [],.l on,.i e])\/∃us on e f k p,us≠[]/\D.E 73 [.l vs,.l es,.l D.cX] [.l us,.l on,.i e]/\k<us.length/\D.place (us.getD k []) p f/\f≠0
structure HA(D:sf)(vs es us on ws fr:List (List Int))(e:Int):Prop where
 ne:us≠[]
 trim:D.E 73 [.l vs,.l es,.l D.cX] [.l us,.l on,.i e]
 len:ws.length=us.length
 w7:∀r∈ws,r.length=7
 pl:∀k,k<us.length->D.place (us.getD k []) (cells 7 (ws.getD k [])) 0
 draw:D.E 74 ([.l ws,.l on]++D.look++D.bx) [.l fr]
theorem MX{D:sf}{vs es:List (List Int)}{d d':List DV}{out kF:List (List Int)}{w w':Bool}(h:Step D vs es d out w d' kF w')(h1:vs.length≠1)(h2:vs.length≠2) :
   (kF=out/\MW D vs es)\/∃us on ws fr e,HA D vs es us on ws fr e/\kF=out++fr:=by
 cases h with
 |hidden e _ _ _=>subst e;exact absurd rfl h1
 |HB e _ _ _=>subst e;exact absurd rfl h1
 |point e _ _ _=>subst e;exact absurd rfl h1
 |lineNo e _ _=>subst e;exact absurd rfl h2
 |Ct e _ _ _ _=>subst e;exact absurd rfl h2
 |line e _ _ _ _ _=>subst e;exact absurd rfl h2
 |MY _ _ h=>exact .inl ⟨rfl,.inl ⟨_,_,h⟩⟩
 |HC _ _ hn h hk hp hf=>exact .inl ⟨rfl,.inr ⟨_,_,_,_,_,_,hn,h,hk,hp,hf⟩⟩
 |aa2 _ _ hn h hl h7 hp hd=>exact .inr ⟨_,_,_,_,_,⟨hn,h,hl,h7,hp,hd⟩,rfl⟩
theorem vm.HD(F:vm X D){c c':Int}{vs es us on ws fr:List (List Int)}{e:Int}(h:HA (D c) vs es us on ws fr e)(hn:MW (D c') vs es):False:=by
 have ht:=h.trim;rw[F.hE,F.cX]at ht;rcases hn with⟨on',e',h'⟩|⟨us',on',e',f,k,p,cx,h',hk,hp,hf⟩
 . rw[F.hE,F.cX]at h';have:=F.AR ht h';injection this with this;injection this with this;exact h.ne this
 . rw[F.hE,F.cX]at h';have:=F.AR ht h';injection this with this;injection this with this;subst this;exact hf (F.place hp (h.pl k hk)).2
theorem vm.R4(F:vm X D){c c':Int}{vs es us on ws fr us' on' ws' fr':List (List Int)}{e e':Int}(h:HA (D c) vs es us on ws fr e)(h':HA (D c') vs es us' on' ws' fr' e'):on=on'/\ws=ws':=by
 have ht:=h.trim;have ht':=h'.trim;rw[F.hE,F.cX]at ht ht';have:=F.AR ht ht';injection this with t1 t2;injection t1 with t1;injection t2 with t2 t3;injection t2 with t2;subst t1;subst t2;refine⟨rfl,List.ext_getElem (by rw[h.len,h'.len]) fun k hk cO=>?_⟩
 have e1:=h.pl k (by rw[<- h.len];exact hk)
 have e2:=h'.pl k (by rw[<- h.len];exact hk)
 have e3:=(F.place e1 e2).1;have g1:ws.getD k []=ws[k]:=by rw[cH,dJ hk];rfl
 have g2:ws'.getD k []=ws'[k]:=by rw[cH,dJ cO];rfl
 rw[g1,g2]at e3;exact F7 (h.w7 _ (List.getElem_mem hk)) (h'.w7 _ (List.getElem_mem cO)) e3
def Cu(out:Int->List (List Int)):Prop:=(out 0).length=(out 1).length+(out 2).length/\out 3=[]
theorem vm.step(F:vm X D)(hX:oq X){vs es:List (List Int)}(h1:vs.length≠1)(h2:vs.length≠2){d d':Int->List DV}{out kF:Int->List (List Int)}{w w':Int->Bool}
   (h:∀c,0<=c->c<=3->Step (D c) vs es (d c) (out c) (w c) (d' c) (kF c) (w' c)) (hl:Cu out):Cu kF:=by
 have hi:=fun c c0 c1=>MX (h c c0 c1) h1 h2
 rcases hi 0 (by omega) (by omega)with⟨_,hn⟩|⟨us,on,ws,fr,e,hd,_⟩
 . have he:∀c,0<=c->c<=3->kF c=out c:=fun c c0 c1=>by
     rcases hi c c0 c1 with⟨e,_⟩|⟨us,on,ws,fr,e,hd,_⟩
     . exact e
     . exact(F.HD hd hn).elim
   unfold Cu;rw[he 0 (by omega) (by omega),he 1 (by omega) (by omega),he 2 (by omega) (by omega),he 3 (by omega) (by omega)]
   exact hl
 . have hf:∀c,0<=c->c<=3->∃f,kF c=out c++f/\F.E 74 (kW ws on F.l0 F.l1 F.l2 F.l3 F.l4 F.l5 F.l6 F.l7 F.l8 F.l9 F.pM c F.sb F.sc F.se F.b0 F.b1 F.b2 F.b3) [.l f]:=fun c c0 c1=>by
     rcases hi c c0 c1 with⟨_,hn⟩|⟨us',on',ws',fr',e',ZR,he⟩
     . exact(F.HD hd hn).elim
     . obtain⟨rfl,rfl⟩:=F.R4 hd ZR;refine⟨fr',he,?_⟩;have:=ZR.draw;rw[F.hE,F.look,F.bx]at this;exact this
   have hc:∀c:Int,∃f,(0<=c->c<=3->kF c=out c++f/\F.E 74 (kW ws on F.l0 F.l1 F.l2 F.l3 F.l4 F.l5 F.l6 F.l7 F.l8 F.l9 F.pM c F.sb F.sc F.se F.b0 F.b1 F.b2 F.b3) [.l f]):=fun c=>by
     by_cases wP:0<=c/\c<=3
     . obtain⟨f,hf⟩:=hf c wP.1 wP.2;exact⟨f,fun _ _=>hf⟩
     . exact⟨[],fun a b=>absurd ⟨a,b⟩ wP⟩
   obtain⟨f,hf⟩:=Classical.axiomOfChoice hc;obtain⟨g1,g2⟩:=aa1 hX (f:=f) fun c c0 c1=>F.Hz _ _ _ (hf c c0 c1).2
   unfold Cu at hl ⊢;rw[(hf 0 (by omega) (by omega)).1,(hf 1 (by omega) (by omega)).1,(hf 2 (by omega) (by omega)).1,(hf 3 (by omega) (by omega)).1,hl.2,g2]
   simp only[eH];exact⟨by omega,rfl⟩
theorem vm.runs(F:vm X D)(hX:oq X){L:List (List Int)}(hL:∀r∈L,((D 0).je r).length≠1/\((D 0).je r).length≠2):∀(k:Nat),k<=L.length->∀ {d:Int->List DV} {out:Int->List (List Int)} {w:Int->Bool},
   (∀c,0<=c->c<=3->(D c).runs L k (d c) (out c) (w c))->Cu out:=by
 intro k;induction k with
 | zero=>
   intro _ d out w h;unfold Cu;rw[(h 0 (by omega) (by omega)).2.1,(h 1 (by omega) (by omega)).2.1,(h 2 (by omega) (by omega)).2.1,(h 3 (by omega) (by omega)).2.1]
   exact⟨rfl,rfl⟩
 | succ k ih=>
   intro hk d out w h;have hc:∀c:Int,∃x:List DV×List (List Int)×Bool,0<=c->c<=3->(D c).runs L k x.1 x.2.1 x.2.2/\Step (D c) ((D c).je (L.getD k [])) (flagsOf (L.getD k [])) (if((D c).a 59).int=1 then(D c).dash else x.1) x.2.1 x.2.2 (d c) (out c) (w c):=fun c=>by
     by_cases wP:0<=c/\c<=3
     . obtain⟨d1,o1,w1,h1,h2⟩:=h c wP.1 wP.2;exact⟨(d1,o1,w1),fun _ _=>⟨h1,h2⟩⟩
     . exact⟨([],[],false),fun a b=>absurd ⟨a,b⟩ wP⟩
   obtain⟨x,hx⟩:=Classical.axiomOfChoice hc;have hl:=ih (by omega) (d:=fun c=>(x c).1) (out:=fun c=>(x c).2.1) (w:=fun c=>(x c).2.2) fun c c0 c1=>(hx c c0 c1).1
   have hm:L.getD k []∈L:=by
     rw[cH,dJ (by omega)]
     exact List.getElem_mem _
   obtain⟨n1,n2⟩:=hL _ hm;refine F.step hX (vs:=(D 0).je (L.getD k [])) (es:=flagsOf (L.getD k [])) n1 n2 (d:=fun c=>if((D c).a 59).int=1 then(D c).dash else(x c).1) (d':=d) (out:=fun c=>(x c).2.1) (kF:=out) (w:=fun c=>(x c).2.2) (w':=w) (fun c c0 c1=>?_) hl
   have:=(hx c c0 c1).2;rw[F.je]at this;exact this
end Go.Proofs.YtohebioanhliiaaGreatDoor.aD
namespace Go.Proofs.YtohebioanhliiaaGreatDoor.aD
open Go.Sx Go
variable {X:bA}
theorem R5{d:DV}{a:A}:∀ {al:List A} {ds:List DV} {i:Nat},kT al ds->al[i]?=some a->a.has d->kT al (ds.set i d):=by
 intro al;induction al with
 |nil=>intro ds i h e;cases e
 | cons x al ih=>
   intro ds i h e ha;cases ds with
   |nil=>exact h.elim
   | cons y ds=>
     cases i with
     |zero=>cases e;exact⟨ha,h.2⟩
     |succ i=>exact⟨h.1,ih h.2 e ha⟩
theorem agO:pA[73]?=some (.i mn mx):=by kernel_rfl
theorem jB{st:List DV}{c:Int}{j:Nat}(h:j≠73):(st.set 73 (.i c)).getD j (.i 0)=st.getD j (.i 0):=by
 simp only[cH];rw[List.getElem?_set_ne (Ne.symm h)]
theorem eZ.agP{st:List DV}(h:eZ st){c:Int}(hc: -9223372036854775808<=c/\c<=9223372036854775807):eZ (st.set 73 (.i c)):=by
 refine⟨R5 h.has agO hc,?_,?_,?_⟩
 . unfold sD sh;rw[jB (by omega),jB (by omega),jB (by omega)]
   exact h.c3
 . unfold sD sh;rw[jB (by omega),jB (by omega),jB (by omega)]
   exact h.c4
 . unfold sD;rw[jB (by omega),jB (by omega)]
   exact h.c60
theorem R6:(kc 18).args=pA:=by kernel_rfl
theorem Wk:(kc 18).pre=qX 0:=by kernel_rfl
theorem D'{st:List DV}(h:eZ st):(kc 18).fS st:=by
 refine⟨by rw[R6];exact h.has,?_⟩
 have hl:=h.len;have ea:∀j,j<94->aM.ar 0 st j=st.getD j (.i 0):=fun j hj=>jC (by omega)
 rw[Wk];intro p hp;simp only[qX,bq,List.not_mem_nil,or_false,Nat.zero_add]at hp;rcases hp with rfl|rfl|rfl
 . simp only[BE.ae,IE.ae,ea 3 (by omega),ea 1 (by omega),ea 2 (by omega),aC];exact h.c3
 . simp only[BE.ae,IE.ae,ea 4 (by omega),ea 1 (by omega),ea 2 (by omega),aC];exact h.c4
 . simp only[BE.ae,IE.ae,ea 60 (by omega),ea 61 (by omega),aC]
   have:=h.c60;unfold sD at this;omega
section
variable {st:List DV}(hP:eZ st)
theorem jS{st:List DV}(hP:eZ st)(c:Int){k:Nat}(hk:k≠73):aM.ar 0 (st.set 73 (.i c)) k=aM.ar 0 st k:=by
 have hl:=hP.len;by_cases h:k<94
 . rw[jC (by simp;omega),jC (by omega),jB hk]
 . rw[az.ej (by simp;omega),az.ej (by omega)]
theorem Wl{st:List DV}(hP:eZ st)(c:Int):aM.ar 0 (st.set 73 (.i c)) 73 = .i c:=by
 have hl:=hP.len;rw[jC (by simp;omega)]
 simp only[cH];rw[List.getElem?_set_self (by omega)]
 rfl
end
theorem F8:((List.range 94).all fun i=>Nat.beq i 73||(j7.getD i .nil).all fun k=>!(Nat.beq k 73))=true:=by kernel_rfl
theorem Ea:j7.length=94:=by kernel_rfl
theorem A6{U ak:az}(h:∀k,(!(Nat.beq k 73))=true->U k=ak k){k:Nat}(hk:k=28\/k=29):zY (DC k) (j7.map (DE.ae U)) (j7.map (DE.ae ak)):=by
 refine⟨by simp,fun i hi=>?_⟩
 have cx:i≠73:=by
   intro e;subst e;rcases hk with rfl|rfl<;>exact absurd hi (by decide)
 simp only[List.getElem?_map];by_cases cQ:i<94
 . have h1:=List.all_eq_true.1 F8 i (List.mem_range.2 cQ);rw[Cr cx,Bool.false_or]at h1;have h2:j7[i]?=some (j7.getD i .nil):=by
     rw[cH,dJ (by rw[Ea];exact cQ)];rfl
   rw[h2];exact congrArg some (DE.Ci h h1)
 . rw[List.getElem?_eq_none (by rw[Ea];omega)]
   rfl
theorem aa3:iD 28=some ⟨(iD 28).get!.args,[.agg [.c i6,.c i6,.c i6,.c i6]],0⟩:=by kernel_rfl
theorem agQ:qZ (rowOf 18).sub=true:=by kernel_rfl
theorem aa4(hX:oq X){st:List DV}(hP:eZ st)(hm:4<=(aM.ar 0 st 59).int){rs:Int->List DV}(h:∀c,0<=c->c<=3->Eb (fun g=>bK (TT Tryz.prog) X (tk.key g)) (st.set 73 (.i c)) (rs c)) :
   ∃(out:Int->List (List Int)) (w:Int->Bool),(∀c,0<=c->c<=3->rs c=[.l (out c),.b (w c)])/\Cu out:=by
 have Hz:∀g ds rs,bK (TT Tryz.prog) X (tk.key g) ds rs->bK (TT Tryz.prog) X g ds rs:=fun g ds rs hg=>re hX agQ hg
 have hc:∀c:Int,∃y:List DV×List (List Int)×List (List Int)×Int×List DV×List (List Int)×Bool,0<=c->c<=3->
     y.1.length=4/\bK (TT Tryz.prog) X (tk.key 28) (j7.map (DE.ae (aM.ar 0 (st.set 73 (.i c))))) y.1/\bK (TT Tryz.prog) X (tk.key 29) (j7.map (DE.ae (aM.ar 0 (st.set 73 (.i c))))) [.l y.2.1]/\
     bK (TT Tryz.prog) X (tk.key 30) [.i (aM.ar 0 (st.set 73 (.i c)) 59).int,.l (aM.ar 0 (st.set 73 (.i c)) 61).list,.b (aM.ar 0 (st.set 73 (.i c)) 78).bool] [.l y.2.2.1,.i y.2.2.2.1]/\
     sf.runs ⟨fun g=>bK (TT Tryz.prog) X (tk.key g),aM.ar 0 (st.set 73 (.i c)),y.1,y.2.1⟩ y.2.2.1 y.2.2.1.length y.2.2.2.2.1 y.2.2.2.2.2.1 y.2.2.2.2.2.2/\rs c=[.l y.2.2.2.2.2.1,.b y.2.2.2.2.2.2]:=fun c=>by
   by_cases wP:0<=c/\c<=3
   . obtain⟨bx,cX,L,e,d,out,w,h1⟩:=h c wP.1 wP.2;exact⟨(bx,cX,L,e,d,out,w),fun _ _=>h1⟩
   . exact⟨([],[],[],0,[],[],false),fun a b=>absurd ⟨a,b⟩ wP⟩
 obtain⟨y,hy⟩:=Classical.axiomOfChoice hc;have cx:∀(c:Int) (k:Nat),k≠73->aM.ar 0 (st.set 73 (.i c)) k=aM.ar 0 (st.set 73 (.i 0)) k:=fun c k hk=>by rw[jS hP c hk,jS hP 0 hk]
 have Q8:∀(c:Int) (k:Nat),(!(Nat.beq k 73))=true->aM.ar 0 (st.set 73 (.i c)) k=aM.ar 0 (st.set 73 (.i 0)) k:=fun c k hk=>cx c k fun e=>by subst e;cases hk
 obtain⟨_,b28,b29,HE,_,_⟩:=hy 0 (by omega) (by omega)
 have s1:∀c,0<=c->c<=3->(y c).1=(y 0).1:=fun c c0 c1=>(Cs (A6 (Q8 c) (.inl rfl)) (Hz _ _ _ (hy c c0 c1).2.1)).AR (Hz _ _ _ b28)
 have s2:∀c,0<=c->c<=3->(y c).2.1=(y 0).2.1:=fun c c0 c1=>by
   have:=(Cs (A6 (Q8 c) (.inr rfl)) (Hz _ _ _ (hy c c0 c1).2.2.1)).AR (Hz _ _ _ b29);injection this with this;injection this
 have s3:∀c,0<=c->c<=3->(y c).2.2.1=(y 0).2.2.1:=fun c c0 c1=>by
   have:=(hy c c0 c1).2.2.2.1;rw[cx c 59 (by omega),cx c 61 (by omega),cx c 78 (by omega)]at this
   have:=(Hz _ _ _ this).AR (Hz _ _ _ HE);injection this with this;injection this
 obtain⟨b0,b1,b2,b3,hbx⟩:∃b0 b1 b2 b3:Int,(y 0).1=[.i b0,.i b1,.i b2,.i b3]:=by
   have:=hX.kd 28 _ _ _ aa3 (Hz _ _ _ b28);obtain⟨x0,r0,e0,k0⟩:=dz this;obtain⟨x1,r1,e1,k1⟩:=dz k0;obtain⟨x2,r2,e2,k2⟩:=dz k1;obtain⟨x3,r3,e3,k3⟩:=dz k2;have e4:=iF k3;exact⟨x0,x1,x2,x3,by rw[e0,e1,e2,e3,e4]⟩
 let D:Int->sf:=fun c=>⟨fun g=>bK (TT Tryz.prog) X (tk.key g),aM.ar 0 (st.set 73 (.i c)),(y 0).1,(y 0).2.1⟩
 let F:vm X D:={
   E:=fun g=>bK (TT Tryz.prog) X (tk.key g)
   hE:=fun _=>rfl
   Hz:=Hz
   port:=fun c=>by simp only[D,sf.port,cx c 10 (by omega),cx c 11 (by omega),cx c 12 (by omega),cx c 13 (by omega)]
   je:=fun c r=>by simp only[D,sf.je,cx c 60 (by omega),cx c 77 (by omega)]
   cX:=fun _=>rfl
   l0:=(aM.ar 0 st 62).int
   l1:=(aM.ar 0 st 63).bool
   l2:=(aM.ar 0 st 64).bool
   l3:=(aM.ar 0 st 65).int
   l4:=(aM.ar 0 st 66).int
   l5:=(aM.ar 0 st 67).int
   l6:=(aM.ar 0 st 68).int
   l7:=(aM.ar 0 st 69).int
   l8:=(aM.ar 0 st 70).int
   l9:=(aM.ar 0 st 71).int
   pM:=(aM.ar 0 st 72).bool
   sb:=(aM.ar 0 st 74).bool
   sc:=(aM.ar 0 st 75).int
   se:=(aM.ar 0 st 76).int
   look:=fun c=>by simp only[D,sf.look,oo,jS hP c (show 62≠73 by omega),jS hP c (show 63≠73 by omega),jS hP c (show 64≠73 by omega),jS hP c (show 65≠73 by omega),jS hP c (show 66≠73 by omega),jS hP c (show 67≠73 by omega),jS hP c (show 68≠73 by omega),jS hP c (show 69≠73 by omega),jS hP c (show 70≠73 by omega),jS hP c (show 71≠73 by omega),jS hP c (show 72≠73 by omega),Wl hP c,jS hP c (show 74≠73 by omega),jS hP c (show 75≠73 by omega),jS hP c (show 76≠73 by omega),DV.int]
   b0:=b0
   b1:=b1
   b2:=b2
   b3:=b3
   bx:=fun _=>hbx}
 have hL:∀r∈(y 0).2.2.1,((D 0).je r).length≠1/\((D 0).je r).length≠2:=by
   have e59:aM.ar 0 (st.set 73 (.i 0)) 59=aM.ar 0 st 59:=jS hP 0 (by omega)
   have e61:aM.ar 0 (st.set 73 (.i 0)) 61=aM.ar 0 st 61:=jS hP 0 (by omega)
   have Wm:((aM.ar 0 st 61).list.length:Int)<=256:=sC (mD (U:=aM) (base:=0) (D' hP).1 _ (yJ (b:=0) MZ));obtain⟨dW,g',L',e',h1,_,_,h2⟩:=g30 (X:=X) _ ⟨(aM.ar 0 (st.set 73 (.i 0)) 59).int,(aM.ar 0 (st.set 73 (.i 0)) 61).list,(aM.ar 0 (st.set 73 (.i 0)) 78).bool,rfl,by rw[e61];omega⟩
   have:=(Hz _ _ _ HE).AR g';rw[h1]at this;injection this with this _;injection this with this;intro r hr;rw[this]at hr;obtain⟨V,E',p,rfl,_,_,_,_,_,_,_,_,h3,_⟩:=h2 _ _ _ rfl r hr;rw[e59]at h3;have hv:((D 0).je (rf V E' p)).length=V.length:=by
     unfold sf.je;rw[List.length_map,A7]
   have:=h3 hm;omega
 refine⟨fun c=>(y c).2.2.2.2.2.1,fun c=>(y c).2.2.2.2.2.2,fun c c0 c1=>(hy c c0 c1).2.2.2.2.2,?_⟩
 refine F.runs hX hL (y 0).2.2.1.length (Nat.le_refl _) (d:=fun c=>(y c).2.2.2.2.1) (w:=fun c=>(y c).2.2.2.2.2.2) fun c c0 c1=>?_
 have:=(hy c c0 c1).2.2.2.2.1;rw[s1 c c0 c1,s2 c c0 c1,s3 c c0 c1]at this;exact this
end Go.Proofs.YtohebioanhliiaaGreatDoor.aD
namespace Go.Proofs.YtohebioanhliiaaGreatDoor.aD
open Go.Sx Go
def t4:aw:=
.ev (.call 17 (.c true) [.l 0] [.agg [.c i6,.c i6,.c i6,.s 3 [i6],.s 3 [i6],.c i6,.c i6,.c i6,.c i6,.c i6,.c i6,.c i6,.c i6,.c i6,.c i6,.s 138 [i6,i6,i6,i6,i6,i6,i6,i6,i6,i6,i6,i6,i6,i6,i6,i6],.s 138 [i6,i6,i6,i6,i6,i6,i6,i6,i6,i6,i6,i6,i6,i6,i6,i6],.c i6,.c i6,.c i6,.c i6,.c i6,.c i6,.c i6,.c i6,.c i6,.c i6,.c i6,.c i6,.c i6,.c i6,.c i6,.c i6,.c i6,.c i6,.c i6,.c i6,.c i6,.c i6,.c i6,.c i6,.c i6,.c i6,.c i6,.c i6,.c i6,.c i6,.c (.b),.c (.b),.c (.b),.c (.b),.c (.b),.c (.b),.c i6,.c i6,.c i6,.c i6,.c (.b),.c (.b),.c i6,.s 76 bY,.s 4 [.b],.c i6,.c (.b),.c (.b),.c i6,.c i6,.c i6,.c i6,.c i6,.c i6,.c i6,.c (.b),.c i6,.c (.b),.c i6,.c i6,.c (.b),.c (.b),.c (.b),.c i6,.c i6,.c i6,.c i6,.c (.b),.c i6,.c (.b),.c (.b),.c i6,.c i6,.c (.b),.c (.b),.c (.b),.c (.b)],oB] 1) (
.ite (.or (.not (.v 95)) (.lt (.v 60) (.c 4))) (
.ev (.call 10 (.c true) [] [oB] 97) (
.ret [.b (.v 97)])) (
.loop 4006 [.i (.c 0),.i (.c 0),.i (.c 0),.i (.c 0),.i (.c 0)] [.c i6,.c i6,.c i6,.c i6,.c i6] 98 (
.ite (.lt (.v 98) (.c 4)) (
.ev (.call 18 (.c true) ([.i (.v 1),.i (.v 2),.i (.v 3),.l 4,.l 5]++iv 6 10++[.l 16,.l 17]++iv 18 30++[.b (.v 48),.b (.v 49),.b (.v 50),.b (.v 51),.b (.v 52),.b (.v 53)]++iv 54 4++[.b (.v 58),.b (.v 59),.i (.v 60),.l 61,.l 62,.i (.v 63),.b (.v 64),.b (.v 65)]++iv 66 7++[.b (.v 73),.i (.v 98),.b (.v 75),.i (.v 76),.i (.v 77),.b (.v 78),.b (.v 79),.b (.v 80)]++iv 81 4++[.b (.v 85),.i (.v 86),.b (.v 87),.b (.v 88),.i (.v 89),.i (.v 90),.b (.v 91),.b (.v 92),.b (.v 93),.b (.v 94)]) [.one (.s 74 bY),oB] 104) (
.ev (.aG (.le (.c 0) (.v 98))) (
.ev (.aG (.lt (.v 98) (.c 4))) (
.ev (.aG (r6 (.add (.v 98) (.c 1)))) (
.again 4006 [.i (.add (.v 98) (.c 1)),.i (.kq (.v 98) 0 (.len 104) (.v 99)),.i (.kq (.v 98) 1 (.len 104) (.v 100)),.i (.kq (.v 98) 2 (.len 104) (.v 101)),.i (.kq (.v 98) 3 (.len 104) (.v 102))]))))) (
.ev (.call 10 (.c true) [] [oB] 103) (
.ev (.aG (.or (.not (.v 103)) (r6 (.add (.v 100) (.v 101))))) (
.ret [.b (.and (.and (.v 103) (.eq (.v 99) (.add (.v 100) (.v 101)))) (.eq (.v 102) (.c 0)))]))))))
theorem T4:TT Tryz.prog 4=some ⟨4,t4,(rowOf 4).sub⟩:=by kernel_rfl
def TV:List DE:=[.i (.v 1),.i (.v 2),.i (.v 3),.l 4,.l 5]++iv 6 10++[.l 16,.l 17]++iv 18 30++[.b (.v 48),.b (.v 49),.b (.v 50),.b (.v 51),.b (.v 52),.b (.v 53)]++iv 54 4++[.b (.v 58),.b (.v 59),.i (.v 60),.l 61,.l 62,.i (.v 63),.b (.v 64),.b (.v 65)]++iv 66 7++[.b (.v 73),.i (.v 74),.b (.v 75),.i (.v 76),.i (.v 77),.b (.v 78),.b (.v 79),.b (.v 80)]++iv 81 4++[.b (.v 85),.i (.v 86),.b (.v 87),.b (.v 88),.i (.v 89),.i (.v 90),.b (.v 91),.b (.v 92),.b (.v 93),.b (.v 94)]
def M0:List DE:=[.i (.v 1),.i (.v 2),.i (.v 3),.l 4,.l 5]++iv 6 10++[.l 16,.l 17]++iv 18 30++[.b (.v 48),.b (.v 49),.b (.v 50),.b (.v 51),.b (.v 52),.b (.v 53)]++iv 54 4++[.b (.v 58),.b (.v 59),.i (.v 60),.l 61,.l 62,.i (.v 63),.b (.v 64),.b (.v 65)]++iv 66 7++[.b (.v 73),.i (.v 98),.b (.v 75),.i (.v 76),.i (.v 77),.b (.v 78),.b (.v 79),.b (.v 80)]++iv 81 4++[.b (.v 85),.i (.v 86),.b (.v 87),.b (.v 88),.i (.v 89),.i (.v 90),.b (.v 91),.b (.v 92),.b (.v 93),.b (.v 94)]
theorem M1:M0=TV.set 73 (.i (.v 98)):=by kernel_rfl
def Cv(out:Int->List (List Int))(i:Nat)(c:Nat):Int:=if c<i then((out c).length:Int)else 0
theorem M3(out:Int->List (List Int))(i c:Nat):Cv out (i+1) c=if i=c then((out c).length:Int)else Cv out i c:=by
 unfold Cv;by_cases h:i=c
 . subst h;rw[if_pos (by omega),if_pos rfl]
 . rw[if_neg h];by_cases h2:c<i
   . rw[if_pos (by omega),if_pos h2]
   . rw[if_neg (by omega),if_neg h2]
theorem o4{E:Nat->List DV->List DV->Prop}{ds:List DV}(h17:∃rs,E 17 ds rs/\rs.length=95/\∃b,rs.getD 94 (.i 0) = .b b/\(b=true->eZ (rs.take 94)))(pF:∃l,ds=[.l l])(M4:E 10 [] [.b true])
   (h18:∀st,eZ st->4<=(aM.ar 0 st 59).int->∃(out:Int->List (List Int)) (w:Int->Bool),(∀c,0<=c->c<=3->E 18 (st.set 73 (.i c)) [.l (out c),.b (w c)])/\(∀c,0<=c->c<=3->((out c).length:Int)<=512000000000)/\Cu out) :
   t4.fW E (fun rs=>rs=[.b true]) [] (aM.ar 0 ds) (fun _ _=>False):=by
 obtain⟨l,rfl⟩:=pF;obtain⟨rs,agR,hlen,b,hb,hP⟩:=h17;unfold t4;refine iB (pre:=fun ds=>ds=[DV.l l]) (rel:=fun _ dW=>dW=rs) (fun ds h=>by subst h;exact⟨rs,agR,rfl⟩) rfl ?_
 intro dW _ rC;rw[rC];clear rC;obtain⟨e1,nc⟩:∃e1:az,e1=(aM.ar 0 [DV.l l]).ar 1 rs:=⟨_,rfl⟩;have g1:∀j,j<95->e1 (1+j)=rs.getD j (.i 0):=fun j hj=>by rw[nc];exact kX (by omega)
 rw[<- nc];have g95:(e1 95).bool=b:=by rw[g1 94 (by omega),hb];rfl
 refine ld (fun h=>?_) (fun h=>?_)
 . refine iB (pre:=fun ds=>ds=[]) (rel:=fun _ dW=>dW=[DV.b true]) (fun ds h=>by subst h;exact⟨_,M4,rfl⟩) rfl ?_
   rintro _ _ rfl;exact LW rfl
 have h:(!((e1 95).bool)||decide ((e1 60).int<4))=false:=h;rw[g95,Bool.or_eq_false_iff,Bool.not_eq_false',decide_eq_false_iff_not]at h;obtain⟨rfl,aa5⟩:=h;have hP:=hP rfl;obtain⟨st,dB⟩:∃st,rs.take 94=st:=⟨_,rfl⟩;rw[dB]at hP;have uz:=hP.len;have Qw:∀j,j<94->e1 (1+j)=st.getD j (.i 0):=fun j hj=>by
   rw[g1 j (by omega),<- dB]
   simp only[cH];rw[List.getElem?_take_of_lt hj]
 have hm:4<=(aM.ar 0 st 59).int:=by
   rw[jC (by omega),<- Qw 59 (by omega)]
   have:¬ (e1 60).int<4:=aa5;show 4<=(e1 60).int;omega
 obtain⟨out,w,hE,hbd,hL⟩:=h18 st hP hm;refine my (fun vs=>∃i:Nat,i<=4/\vs=[.i i,.i (Cv out i 0),.i (Cv out i 1),.i (Cv out i 2),.i (Cv out i 3)]) (fun| .i i::_=>(4-i).toNat|_=>0) ⟨0,by omega,rfl⟩ ?_
 rintro _ ⟨i,hi,rfl⟩;obtain⟨e2,tz⟩:∃e2:az,e2=e1.ar 98 [.i i,.i (Cv out i 0),.i (Cv out i 1),.i (Cv out i 2),.i (Cv out i 3)]:=⟨_,rfl⟩;have o2:∀k,k<98->e2 k=e1 k:=fun k hk=>by rw[tz,az.aX (by omega)]
 have R7:e2 98 = .i i:=by rw[tz];exact az.cm (i:=0) rfl
 have v99:e2 99 = .i (Cv out i 0):=by rw[tz];exact az.cm (i:=1) rfl
 have R8:e2 100 = .i (Cv out i 1):=by rw[tz];exact az.cm (i:=2) rfl
 have R9:e2 101 = .i (Cv out i 2):=by rw[tz];exact az.cm (i:=3) rfl
 have Wn:e2 102 = .i (Cv out i 3):=by rw[tz];exact az.cm (i:=4) rfl
 rw[<- tz];refine gb (fun cQ=>?_) (fun sS=>?_)
 . simp only[IE.ae,R7,di]at cQ;have F9:TV.map (DE.ae e2)=st:=lW (b:=1) hP.has (fun j hj=>by rw[o2 _ (by omega)];exact Qw j (by omega)) (by kernel_rfl)
   have hA:M0.map (DE.ae e2)=st.set 73 (.i i):=by
     rw[M1,List.map_set,F9];simp only[DE.ae,IE.ae,R7,di]
   refine iB (pre:=fun ds=>ds=st.set 73 (.i i)) (rel:=fun _ dW=>dW=[.l (out i),.b (w i)]) (fun ds h=>by subst h;exact⟨_,hE i (by omega) (by omega),rfl⟩) (show M0.map (DE.ae e2)=_ from hA) ?_
   rintro _ _ rfl;obtain⟨e3,wm⟩:∃e3:az,e3=e2.ar 104 [.l (out i),.b (w i)]:=⟨_,rfl⟩;have o3:∀k,k<104->e3 k=e2 k:=fun k hk=>by rw[wm,az.aX (by omega)]
   have aa6:e3 104 = .l (out i):=by rw[wm];exact az.cm (i:=0) rfl
   rw[<- wm];refine nK (by simp only[IE.ae,o3 98 (by omega),R7,di];omega) (JP (by simp only[IE.ae,o3 98 (by omega),R7,di];omega) (yK (by simp only[IE.ae,o3 98 (by omega),R7,di];omega) (ko ⟨⟨i+1,by omega,?_⟩,?_⟩)))
   . simp only[List.map,DE.ae,IE.ae,o3 98 (by omega),o3 99 (by omega),o3 100 (by omega),o3 101 (by omega),o3 102 (by omega),R7,v99,R8,R9,Wn,aa6,di,dl,M3]
     have hi4:i=0\/i=1\/i=2\/i=3:=by omega
     rcases hi4 with rfl|rfl|rfl|rfl<;>simp
   . simp only[List.map,DE.ae,IE.ae,o3 98 (by omega),R7,di]
     omega
 . simp only[IE.ae,R7,di]at sS;obtain rfl:i=4:=by omega
   refine iB (pre:=fun ds=>ds=[]) (rel:=fun _ dW=>dW=[DV.b true]) (fun ds h=>by subst h;exact⟨_,M4,rfl⟩) rfl ?_
   rintro _ _ rfl;obtain⟨e3,wm⟩:∃e3:az,e3=e2.ar 103 [.b true]:=⟨_,rfl⟩;have o3:∀k,k<103->e3 k=e2 k:=fun k hk=>by rw[wm,az.aX (by omega)]
   have aa7:e3 103 = .b true:=by rw[wm];exact az.cm (i:=0) rfl
   rw[<- wm];have c0:Cv out 4 0=((out 0).length:Int):=rfl;have c1:Cv out 4 1=((out 1).length:Int):=rfl;have c2:Cv out 4 2=((out 2).length:Int):=rfl;have c3:Cv out 4 3=((out 3).length:Int):=rfl;have d1:=hbd 1 (by omega) (by omega)
   have d2:=hbd 2 (by omega) (by omega)
   obtain⟨L1,L2⟩:=hL;have L3:(out 3).length=0:=by rw[L2];rfl
   refine iA ?_ (LW ?_)
   . show(!((e3 103).bool)||(r6 (.add (.v 100) (.v 101))).ae e3)=true;rw[ka (by simp only[IE.ae,o3 100 (by omega),o3 101 (by omega),R8,R9,di,c1,c2];omega)]
     simp
   . show [DV.b (((e3 103).bool&&decide ((e3 99).int=(e3 100).int+(e3 101).int))&&decide ((e3 102).int=0))]=[DV.b true];simp only[aa7,o3 99 (by omega),o3 100 (by omega),o3 101 (by omega),o3 102 (by omega),v99,R8,R9,Wn,di,db,c0,c1,c2,c3,L3]
     rw[decide_eq_true (by omega)]
     rfl
theorem Nv{st:List DV}(hP:eZ st)(hm:4<=(aM.ar 0 st 59).int):∃(out:Int->List (List Int)) (w:Int->Bool),(∀c,0<=c->c<=3->bK (TT Tryz.prog) XF 18 (st.set 73 (.i c)) [.l (out c),.b (w c)])/\(∀c,0<=c->c<=3->((out c).length:Int)<=512000000000)/\Cu out:=by
 have h:=fun(c:Int) (c0:0<=c) (c1:c<=3)=>g18 Gf WU _ (D' (hP.agP (c:=c) ⟨by omega,by omega⟩))
 have hc:∀c:Int,∃rs,0<=c->c<=3->bK (TT Tryz.prog) XF 18 (st.set 73 (.i c)) rs/\(kc 18).fX (st.set 73 (.i c)) rs/\Eb (fun g=>bK (TT Tryz.prog) XF (tk.key g)) (st.set 73 (.i c)) rs:=fun c=>by
   by_cases wP:0<=c/\c<=3
   . obtain⟨rs,h1,h2,h3⟩:=h c wP.1 wP.2;exact⟨rs,fun _ _=>⟨h1,h2,h3⟩⟩
   . exact⟨[],fun a b=>absurd ⟨a,b⟩ wP⟩
 obtain⟨rs,rC⟩:=Classical.axiomOfChoice hc;obtain⟨out,w,h1,h2⟩:=aa4 Gf hP hm (rs:=rs) fun c c0 c1=>(rC c c0 c1).2.2
 refine⟨out,w,fun c c0 c1=>?_,fun c c0 c1=>?_,h2⟩
 . rw[<- h1 c c0 c1];exact(rC c c0 c1).1
 . have:=(rC c c0 c1).2.1.1;rw[h1 c c0 c1,abu]at this;exact this.1.2.1 _ rfl
theorem g4:lH (TT Tryz.prog) XF 4 Bc (fun _ rs=>rs=[.b true]):=kS T4 fun ds hp=>
 o4 (E:=fun g=>bK (TT Tryz.prog) XF ((gR.mk 4 t4 (rowOf 4).sub).key g)) (J0 hp) (by obtain⟨l,e,_⟩:=hp;exact⟨l,e⟩) Aw.MR (fun st hP hm=>Nv hP hm)
end Go.Proofs.YtohebioanhliiaaGreatDoor.aD

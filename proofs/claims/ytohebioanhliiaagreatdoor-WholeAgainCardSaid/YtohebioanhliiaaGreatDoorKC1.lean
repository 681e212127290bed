/- All functions come to an end, but for those shown by hand; Div64. -/
import Derived.Test.YtohebioanhliiaaGreatDoorKB1
import Derived.Test.YtohebioanhliiaaGreatDoorKB3
import Derived.Test.YtohebioanhliiaaGreatDoorKA4
import Derived.Test.YtohebioanhliiaaGreatDoorKB2
import Derived.Lib.BitFns
import Derived.Laws.Bits64b
set_option linter.unusedVariables false
set_option linter.unusedSimpArgs false
set_option maxRecDepth 100000
namespace Go.Proofs.YtohebioanhliiaaGreatDoor.aD
open Go.Sx
theorem uC{U:az}{a b:IE}:((BE.le a b).ae U=true)↔a.ae U<=b.ae U:=decide_eq_true_iff
theorem uD{U:az}{a b:IE}:((BE.lt a b).ae U=true)↔a.ae U<b.ae U:=decide_eq_true_iff
theorem uF{U:az}{a b:IE}:((BE.eq a b).ae U=true)↔a.ae U=b.ae U:=decide_eq_true_iff
theorem jJ{U:az}{a:BE}:((BE.not a).ae U=true)↔¬ (a.ae U=true):=by simp[BE.ae]
theorem jK{U:az}{a b:BE}:((BE.and a b).ae U=true)↔a.ae U=true/\b.ae U=true:=by simp[BE.ae]
theorem uG{U:az}{a b:BE}:((BE.or a b).ae U=true)↔a.ae U=true\/b.ae U=true:=by simp[BE.ae]
theorem Gk{x y w h:IE}:fv (YH x y w h):=by
 intro U hp;simp only[YH,bq,List.not_mem_nil,or_false,forall_eq_or_imp,forall_eq,uC,uD,uF,jJ,jK,uG,IE.ae]at hp;simp only[YH,eA,uC,uD,uF,jJ,jK,uG,IE.ae];obtain⟨h1,h2,h3,h4,h5,h6⟩:=hp;generalize x.ae U=X at *;generalize y.ae U=Y at *;generalize w.ae U=W at *;generalize h.ae U=H at *;have a1:=Int.mul_nonneg h3 (show 0<=W by omega)
 have a2:=Int.mul_le_mul (show Y<=100 by omega) h5 (show 0<=W by omega) (by omega)
 have a3:=Int.mul_le_mul_of_nonneg_right (show Y+1<=H by omega) (show 0<=W by omega)
 have a4:(Y+1)*W=Y*W+W:=by grind
 have a5:H*W=W*H:=Int.mul_comm ..;omega
theorem pO{hs:List BE}{g:BE}(h:∀U,(∀p∈hs,p.ae U=true)->g.ae U=true):fv (hs,g):=h
theorem SH{n:Int}(h: -9223372036854775808<=n/\n<=9223372036854775807):IntKind.i64.wrap n=n:=B9 (by simpa[IntKind.min,IntKind.max,IntKind.signed,IntKind.bits]using h)
theorem tdm(a d:Int):a.tdiv d*d+a.tmod d=a:=by have:=Int.tdiv_mul_add_tmod a d;omega
theorem ajq:∀l∈qY 202,fv l:=by
 intro l hl;simp only[qY,bq,List.not_mem_nil,or_false]at hl;subst hl;refine pO fun U hp=>?_
 simp only[bq,List.not_mem_nil,or_false,forall_eq,uC,uD,uF,jJ,jK,uG,IE.ae]at hp;simp only[eA,F4,uC,uD,uF,jJ,jK,uG,IE.ae];have:=tdm ((U 4).int-(U 3).int) 2;have h1:=Int.tmod_nonneg 2 (show 0<=(U 4).int-(U 3).int by omega)
 have h2:((U 4).int-(U 3).int).tmod 2<2:=Int.tmod_lt_of_pos _ (by omega)
 omega
theorem ajr:∀l∈qY 221,fv l:=by
 intro l hl;simp only[qY,bq,List.not_mem_nil,or_false]at hl;rcases hl with rfl|rfl
 . refine pO fun U hp=>?_
   simp only[bq,List.not_mem_nil,or_false,forall_eq_or_imp,forall_eq,Hy,imp,uC,uD,uF,jJ,jK,uG,IE.ae]at hp ⊢;omega
 . refine pO fun U hp=>?_
   simp only[bq,List.not_mem_nil,or_false,forall_eq_or_imp,forall_eq,uC,uD,uF,jJ,jK,uG,IE.ae]at hp ⊢;omega
theorem ajs:∀l∈qY 123,fv l:=by
 intro l hl;simp only[qY,bq,List.not_mem_nil,or_false]at hl;subst hl;refine pO fun U hp=>?_
 simp only[bq,List.not_mem_nil,or_false,forall_eq_or_imp,forall_eq,uC,uD,uF,jJ,jK,uG,IE.ae]at hp;simp only[eA,uC,uD,uF,jJ,jK,uG,IE.ae];exact⟨Int.tmod_lt_of_pos _ hp.1,Int.tmod_nonneg _ (by omega)⟩
theorem ajt{x y:Int}(h0:1<=y)(h1:y<=9223372036854775807):(Go.IntKind.u64.wrap x).tmod (Go.IntKind.u64.wrap y)<Go.IntKind.u64.wrap y:=by
 have:Go.IntKind.u64.wrap y=y:=sK (k:=.u64) ⟨by show(0:Int)<=y;omega,by show y<=18446744073709551615;omega⟩
 rw[this];exact Int.tmod_lt_of_pos _ (by omega)
theorem aju:∀l∈qY 198,fv l:=by
 intro l hl;simp only[qY,bq,List.not_mem_nil,or_false]at hl;rcases hl with rfl|rfl
 all_goals
   refine pO fun U hp=>?_
   simp only[bq,List.not_mem_nil,or_false,forall_eq_or_imp,forall_eq,uC,uD,uF,jJ,jK,uG,IE.ae]at hp ⊢;exact ajt hp.1 hp.2
theorem l84:∀l∈qY 84,fv l:=by
 intro l hl;simp only[qY,bq,List.not_mem_nil,or_false]at hl;rcases hl with rfl|rfl
 . refine pO fun U hp=>?_
   simp only[bq,List.not_mem_nil,or_false,forall_eq_or_imp,forall_eq,uC,uD,uF,jJ,jK,uG,IE.ae]at hp ⊢;rw[hp.1,hp.2]
 . refine pO fun U hp=>?_
   simp only[bq,List.not_mem_nil,or_false,forall_eq_or_imp,forall_eq,uC,uD,uF,jJ,jK,uG,IE.ae]at hp ⊢;obtain⟨h1,h2,h3,h4,h5⟩:=hp;have a3:=Int.mul_le_mul_of_nonneg_right (show(U 1570).int+1<=(U 1).int by omega) h5
   have a4:((U 1570).int+1)*(U 0).int=(U 1570).int*(U 0).int+(U 0).int:=by grind
   have a5:(U 1).int*(U 0).int=(U 0).int*(U 1).int:=Int.mul_comm ..;omega
theorem l73:∀l∈qY 73,fv l:=by
 intro l hl;simp only[qY,bq,List.not_mem_nil,or_false]at hl;subst hl;refine pO fun U hp=>?_
 simp only[bq,List.not_mem_nil,or_false,forall_eq_or_imp,forall_eq,uC,uD,uF,jJ,jK,uG,IE.ae]at hp ⊢;rw[SH (by omega),show((U 6).int+1).toNat=(U 6).int.toNat+1 by omega,Int.pow_succ]
 grind
theorem ajv:∀l∈qY 236,fv l:=by
 intro l hl;simp only[qY,bq,List.not_mem_nil,or_false]at hl;subst hl;exact Gk
theorem l19:∀l∈qY 19,fv l:=by
 intro l hl;simp only[qY,bq,List.not_mem_nil,or_false]at hl;subst hl;exact Gk
theorem l24:∀l∈qY 24,fv l:=by
 intro l hl;simp only[qY,bq,List.not_mem_nil,or_false]at hl;rcases hl with rfl|rfl
 . exact Gk
 . refine pO fun U hp=>?_
   simp only[bq,List.not_mem_nil,or_false,forall_eq_or_imp,forall_eq,uC,uD,uF,jJ,jK,uG,IE.ae]at hp;simp only[eA,uC,uD,uF,jJ,jK,uG,IE.ae];obtain⟨h1,h2,h3⟩:=hp;generalize cellAt (U 95).list 0 0=A at *;generalize cellAt (U 95).list 1 0=B at *;have a1:=Int.mul_le_mul_of_nonneg_left h2 (show 0<=A by omega)
   have a2:=Int.mul_le_mul_of_nonneg_right h1 (show 0<=B by omega)
   omega
theorem ajw:∀l∈qY 141,fv l:=by
 intro l hl;simp only[qY,bq,List.not_mem_nil,or_false]at hl;subst hl;refine pO fun U hp=>?_
 simp only[bq,List.not_mem_nil,or_false,forall_eq,uC,uD,uF,jJ,jK,uG,IE.ae]at hp;simp only[eA,kI,List.cons_append,List.nil_append,uC,uD,uF,jJ,jK,uG,IE.ae];omega
theorem ajx:∀l∈qY 112,fv l:=by
 intro l hl;simp only[qY,bq,List.not_mem_nil,or_false]at hl;subst hl;refine pO fun U hp=>?_
 simp only[bq,List.not_mem_nil,or_false,forall_eq_or_imp,forall_eq,uC,uD,uF,jJ,jK,uG,IE.ae]at hp;simp only[eA,uC,uD,uF,jJ,jK,uG,IE.ae];generalize uk.ae U=L at *;omega
theorem Ue{n d:Int}(hd:1<=d)(h1: -1073741824<=n)(h2:n<=1073741824): -1073741824<=n.tdiv d/\n.tdiv d<=1073741824/\n.tdiv d*d+n.tmod d=n/\-d<n.tmod d/\n.tmod d<d:=by
 have e:=tdm n d;have b:(n.tdiv d).natAbs<=n.natAbs:=by rw[Int.natAbs_tdiv];exact Nat.div_le_self _ _
 have c:(n.tmod d).natAbs<d.natAbs:=by rw[Int.natAbs_tmod];exact Nat.mod_lt _ (by omega)
 omega
theorem ajy:∀l∈qY 204,fv l:=by
 intro l hl;simp only[qY,bq,List.not_mem_nil,or_false]at hl;rcases hl with rfl|rfl
 . refine pO fun U hp=>?_
   simp only[bq,List.not_mem_nil,or_false,forall_eq_or_imp,forall_eq,uC,uD,uF,jJ,jK,uG,IE.ae]at hp;simp only[imp,eA,kI,MU,uC,uD,uF,jJ,jK,uG,IE.ae];by_cases h: -1073741824<=(U 0).int/\(U 0).int<=1073741824
   . right;have k:=Ue hp.2 h.1 h.2;have e0:=SH (n:=(U 0).int.tdiv (U 1).int) (by omega)
     rw[e0,SH (by omega)]
     have e1:(U 1).int*((U 0).int.tdiv (U 1).int-1)=(U 0).int.tdiv (U 1).int*(U 1).int-(U 1).int:=by grind
     rw[e1];omega
   . left;omega
 . refine pO fun U hp=>?_
   simp only[bq,List.not_mem_nil,or_false,forall_eq_or_imp,forall_eq,uC,uD,uF,jJ,jK,uG,IE.ae]at hp;simp only[imp,eA,kI,uC,uD,uF,jJ,jK,uG,IE.ae];by_cases h: -1073741824<=(U 0).int/\(U 0).int<=1073741824
   . right;have k:=Ue hp.2 h.1 h.2;rw[SH (by omega)]
     have e1:(U 1).int*(U 0).int.tdiv (U 1).int=(U 0).int.tdiv (U 1).int*(U 1).int:=Int.mul_comm ..;rw[e1];omega
   . left;omega
theorem ajz:∀l∈qY 210,fv l:=by
 intro l hl;simp only[qY,bq,List.not_mem_nil,or_false]at hl;subst hl;refine pO fun U hp=>?_
 simp only[uC,uD,uF,jJ,jK,uG,IE.ae];omega
theorem ajA:∀l∈qY 207,fv l:=by
 intro l hl;simp only[qY,bq,List.not_mem_nil,or_false]at hl;rcases hl with rfl|rfl
 . refine pO fun U hp=>?_
   simp only[bq,List.not_mem_nil,or_false,forall_eq,YG,uC,uD,uF,jJ,jK,uG,IE.ae]at hp ⊢;omega
 . refine pO fun U hp=>?_
   simp only[bq,List.not_mem_nil,or_false,forall_eq_or_imp,forall_eq,YG,uC,uD,uF,jJ,jK,uG,IE.ae]at hp ⊢;omega
theorem ajB:∀l∈qY 134,fv l:=by
 intro l hl;simp only[qY,bq,List.not_mem_nil,or_false]at hl;subst hl;refine pO fun U hp=>?_
 simp only[bq,List.not_mem_nil,or_false,forall_eq_or_imp,forall_eq,uC,uD,uF,jJ,jK,uG,IE.ae]at hp;simp only[eA,uC,uD,uF,jJ,jK,uG,IE.ae];obtain⟨h1,h2,h3⟩:=hp;generalize(U 0).int=A at *;generalize(U 1).int=B at *;have a1:=Int.mul_le_mul_of_nonneg_left h2 (show 0<=A by omega)
 have a2:=Int.mul_le_mul_of_nonneg_right h1 (show 0<=B by omega)
 omega
theorem l57:∀l∈qY 57,fv l:=by
 intro l hl;simp only[qY,bq,List.not_mem_nil,or_false]at hl;subst hl;refine pO fun U hp=>?_
 simp only[bq,List.not_mem_nil,or_false,forall_eq_or_imp,forall_eq,aaY,imp,uC,uD,uF,jJ,jK,uG,IE.ae]at hp ⊢;obtain⟨h1,h2,h3,h4⟩:=hp;by_cases h:(U 6).int=0
 . rw[h]at h3 h4;exact⟨h3,h4⟩
 . rcases h1 with h1|h1
   . omega
   . exact h1
theorem au(k:Nat):∀l∈(an k).eO,fv l:=by
 show ∀l∈qY k,fv l;by_cases ajC:k=202
 . subst ajC;exact ajq
 by_cases ajD:k=221
 . subst ajD;exact ajr
 by_cases SA:k=123
 . subst SA;exact ajs
 by_cases ajE:k=198
 . subst ajE;exact aju
 by_cases h84:k=84
 . subst h84;exact l84
 by_cases h73:k=73
 . subst h73;exact l73
 by_cases ajF:k=236
 . subst ajF;exact ajv
 by_cases T5:k=19
 . subst T5;exact l19
 by_cases T6:k=24
 . subst T6;exact l24
 by_cases SC:k=141
 . subst SC;exact ajw
 by_cases Sy:k=112
 . subst Sy;exact ajx
 by_cases ajG:k=204
 . subst ajG;exact ajy
 by_cases ajH:k=210
 . subst ajH;exact ajz
 by_cases SB:k=134
 . subst SB;exact ajB
 by_cases h57:k=57
 . subst h57;exact l57
 by_cases ajI:k=207
 . subst ajI;exact ajA
 intro l hl;unfold qY at hl;split at hl
 all_goals first|contradiction|(exact absurd hl (by simp))
end Go.Proofs.YtohebioanhliiaaGreatDoor.aD
namespace Go.Proofs.YtohebioanhliiaaGreatDoor.aD
open Go.Sx Go
abbrev mF(P:Program)(X:bA)(i k:Nat):Prop:=mE (TT P) X kc (ord.take i)->lH (TT P) X k (kc k).fS (kc k).fX
theorem abq{X:bA}(h7:mE (TT Tryz.prog) X kc (ord.take 7))(m47:mF Tryz.prog X 19 47)(m44:mF Tryz.prog X 20 44)(J1:mF Tryz.prog X 22 30)(ahv:mF Tryz.prog X 48 241)(m18:mF Tryz.prog X 125 18)(m57:mF Tryz.prog X 130 57)(m12:mF Tryz.prog X 160 12)(m64:mF Tryz.prog X 171 64)(m40:mF Tryz.prog X 172 40)(m27:mF Tryz.prog X 173 27)(m17:mF Tryz.prog X 174 17):mE (TT Tryz.prog) X kc (ord.take 177):=by
 have h8:=h7.next (k:=9) rfl (av au h7 c9)
 have h9:=h8.next (k:=56) rfl (av au h8 c56)
 have M4:=h9.next (k:=37) rfl (av au h9 c37)
 have YM:=M4.next (k:=23) rfl (av au M4 c23)
 have h12:=YM.next (k:=41) rfl (av au YM c41)
 have h13:=h12.next (k:=65) rfl (av au h12 c65)
 have YN:=h13.next (k:=42) rfl (av au h13 c42)
 have h15:=YN.next (k:=28) rfl (av au YN c28)
 have h16:=h15.next (k:=100) rfl (av au h15 ahw)
 have h17:=h16.next (k:=66) rfl (av au h16 c66)
 have h18:=h17.next (k:=43) rfl (av au h17 c43)
 have T5:=h18.next (k:=29) rfl (av au h18 c29)
 have Kx:=T5.next (k:=47) rfl (m47 T5)
 have YO:=Kx.next (k:=44) rfl (m44 Kx)
 have h22:=YO.next (k:=46) rfl (av au YO c46)
 have YP:=h22.next (k:=30) rfl (J1 h22)
 have T6:=YP.next (k:=101) rfl (av au YP ahx)
 have h25:=T6.next (k:=67) rfl (av au T6 c67)
 have h26:=h25.next (k:=174) rfl (av au h25 ahy)
 have h27:=h26.next (k:=195) rfl (av au h26 ahz)
 have h28:=h27.next (k:=149) rfl (av au h27 ahA)
 have h29:=h28.next (k:=102) rfl (av au h28 ahB)
 have h30:=h29.next (k:=151) rfl (av au h29 ahC)
 have h31:=h30.next (k:=150) rfl (av au h30 ahD)
 have h32:=h31.next (k:=104150) rfl (av au h31 Ss)
 have h33:=h32.next (k:=103) rfl (av au h32 ahE)
 have h34:=h33.next (k:=107) rfl (av au h33 ahF)
 have h35:=h34.next (k:=106) rfl (av au h34 ahG)
 have h36:=h35.next (k:=104106) rfl (av au h35 Su)
 have h37:=h36.next (k:=105) rfl (av au h36 ahH)
 have h38:=h37.next (k:=69) rfl (av au h37 c69)
 have h39:=h38.next (k:=109) rfl (av au h38 ahI)
 have h40:=h39.next (k:=155) rfl (av au h39 ahJ)
 have h41:=h40.next (k:=139) rfl (av au h40 ahK)
 have h42:=h41.next (k:=196) rfl (av au h41 c196)
 have h43:=h42.next (k:=240) rfl (av au h42 ahL)
 have h44:=h43.next (k:=197) rfl (av au h43 ahM)
 have h45:=h44.next (k:=156) rfl (av au h44 ahN)
 have HP:=h45.next (k:=110) rfl (av au h45 ahO)
 have z7:=HP.next (k:=157) rfl (av au HP ahP)
 have h48:=z7.next (k:=267) rfl (av au z7 ahQ)
 have h49:=h48.next (k:=241) rfl (ahv h48)
 have h50:=h49.next (k:=242) rfl (av au h49 ahR)
 have h51:=h50.next (k:=198) rfl (av au h50 c198)
 have h52:=h51.next (k:=199) rfl (av au h51 ahS)
 have h53:=h52.next (k:=158) rfl (av au h52 ahT)
 have WV:=h53.next (k:=111) rfl (av au h53 ahU)
 have h55:=WV.next (k:=71) rfl (av au WV c71)
 have h56:=h55.next (k:=159) rfl (av au h55 ahV)
 have h57:=h56.next (k:=200) rfl (av au h56 ahW)
 have YQ:=h57.next (k:=201) rfl (av au h57 ahX)
 have h59:=YQ.next (k:=202) rfl (av au YQ ahY)
 have WE:=h59.next (k:=160) rfl (av au h59 ahZ)
 have Wm:=WE.next (k:=161) rfl (av au WE ah0)
 have h62:=Wm.next (k:=246) rfl (av au Wm ah1)
 have GL:=h62.next (k:=245) rfl (av au h62 ah2)
 have Yw:=GL.next (k:=205245) rfl (av au GL Sv)
 have h65:=Yw.next (k:=163) rfl (av au Yw ah3)
 have h66:=h65.next (k:=204) rfl (av au h65 ah4)
 have h67:=h66.next (k:=244) rfl (av au h66 ah5)
 have h68:=h67.next (k:=203) rfl (av au h67 ah6)
 have h69:=h68.next (k:=112) rfl (av au h68 ah7)
 have h70:=h69.next (k:=164) rfl (av au h69 ah8)
 have h71:=h70.next (k:=165) rfl (av au h70 ah9)
 have h72:=h71.next (k:=210) rfl (av au h71 ah')
 have h73:=h72.next (k:=211) rfl (av au h72 aia)
 have h74:=h73.next (k:=247) rfl (av au h73 aib)
 have h75:=h74.next (k:=250) rfl (av au h74 aic)
 have h76:=h75.next (k:=251) rfl (av au h75 aid)
 have h77:=h76.next (k:=284) rfl (av au h76 aie)
 have h78:=h77.next (k:=268) rfl (av au h77 aif)
 have h79:=h78.next (k:=207) rfl (av au h78 aih)
 have h80:=h79.next (k:=208) rfl (av au h79 aii)
 have h81:=h80.next (k:=166) rfl (av au h80 aij)
 have h82:=h81.next (k:=168) rfl (av au h81 aik)
 have h83:=h82.next (k:=170) rfl (av au h82 ail)
 have h84:=h83.next (k:=213) rfl (av au h83 aim)
 have h85:=h84.next (k:=171) rfl (av au h84 ain)
 have h86:=h85.next (k:=172) rfl (av au h85 aio)
 have h87:=h86.next (k:=113) rfl (av au h86 aip)
 have h88:=h87.next (k:=72) rfl (av au h87 c72)
 have h89:=h88.next (k:=114) rfl (av au h88 aiq)
 have h90:=h89.next (k:=115) rfl (av au h89 air)
 have h91:=h90.next (k:=117) rfl (av au h90 ais)
 have h92:=h91.next (k:=173) rfl (av au h91 ait)
 have h93:=h92.next (k:=73) rfl (av au h92 c73)
 have h94:=h93.next (k:=118) rfl (av au h93 aiu)
 have h95:=h94.next (k:=119) rfl (av au h94 c119)
 have h96:=h95.next (k:=214) rfl (av au h95 aiv)
 have h97:=h96.next (k:=215) rfl (av au h96 aiw)
 have h98:=h97.next (k:=216) rfl (av au h97 aix)
 have h99:=h98.next (k:=175) rfl (av au h98 aiy)
 have abv:=h99.next (k:=121) rfl (av au h99 aiz)
 have abw:=abv.next (k:=120) rfl (av au abv aiA)
 have abx:=abw.next (k:=220) rfl (av au abw aiB)
 have aby:=abx.next (k:=176) rfl (av au abx aiC)
 have abz:=aby.next (k:=269) rfl (av au aby aiD)
 have abA:=abz.next (k:=252) rfl (av au abz aiE)
 have abB:=abA.next (k:=270) rfl (av au abA aiF)
 have abC:=abB.next (k:=271) rfl (av au abB aiG)
 have abD:=abC.next (k:=253) rfl (av au abC aiH)
 have abE:=abD.next (k:=221) rfl (av au abD aiI)
 have abF:=abE.next (k:=222) rfl (av au abE aiJ)
 have abG:=abF.next (k:=272) rfl (av au abF aiK)
 have Sy:=abG.next (k:=273) rfl (av au abG aiL)
 have abH:=Sy.next (k:=254) rfl (av au Sy aiM)
 have abI:=abH.next (k:=223) rfl (av au abH aiN)
 have abJ:=abI.next (k:=224) rfl (av au abI aiO)
 have abK:=abJ.next (k:=225) rfl (av au abJ aiP)
 have abL:=abK.next (k:=177) rfl (av au abK aiQ)
 have abM:=abL.next (k:=122) rfl (av au abL aiR)
 have abN:=abM.next (k:=123) rfl (av au abM aiS)
 have abO:=abN.next (k:=124) rfl (av au abN aiT)
 have abP:=abO.next (k:=74) rfl (av au abO c74)
 have abQ:=abP.next (k:=152) rfl (av au abP aiU)
 have SA:=abQ.next (k:=153) rfl (av au abQ aiV)
 have abR:=SA.next (k:=154) rfl (av au SA aiW)
 have abS:=abR.next (k:=108) rfl (av au abR aiX)
 have abT:=abS.next (k:=18) rfl (m18 abS)
 have Sp:=abT.next (k:=186) rfl (av au abT aiY)
 have abU:=Sp.next (k:=132) rfl (av au Sp aiZ)
 have abV:=abU.next (k:=133) rfl (av au abU ai0)
 have abW:=abV.next (k:=80) rfl (av au abV c80)
 have abX:=abW.next (k:=57) rfl (m57 abW)
 have abY:=abX.next (k:=59) rfl (av au abX c59)
 have abZ:=abY.next (k:=135) rfl (av au abY ai1)
 have SB:=abZ.next (k:=136) rfl (av au abZ ai2)
 have ab0:=SB.next (k:=137) rfl (av au SB ai3)
 have ab1:=ab0.next (k:=84) rfl (av au ab0 c84)
 have ab2:=ab1.next (k:=86) rfl (av au ab1 c86)
 have ab3:=ab2.next (k:=88) rfl (av au ab2 c88)
 have ab4:=ab3.next (k:=187) rfl (av au ab3 ai4)
 have ab5:=ab4.next (k:=143) rfl (av au ab4 ai5)
 have SC:=ab5.next (k:=141) rfl (av au ab5 ai6)
 have ab6:=SC.next (k:=90) rfl (av au SC c90)
 have ab7:=ab6.next (k:=91) rfl (av au ab6 c91)
 have ab8:=ab7.next (k:=144) rfl (av au ab7 ai7)
 have ab9:=ab8.next (k:=188) rfl (av au ab8 ai8)
 have ab':=ab9.next (k:=145) rfl (av au ab9 ai9)
 have aca:=ab'.next (k:=92) rfl (av au ab' c92)
 have acb:=aca.next (k:=93) rfl (av au aca c93)
 have acd:=acb.next (k:=94) rfl (av au acb c94)
 have ace:=acd.next (k:=134) rfl (av au acd ai')
 have acf:=ace.next (k:=193) rfl (av au ace c193)
 have acg:=acf.next (k:=232) rfl (av au acf aja)
 have ach:=acg.next (k:=233) rfl (av au acg ajb)
 have aci:=ach.next (k:=235) rfl (av au ach ajc)
 have acj:=aci.next (k:=264) rfl (av au aci ajd)
 have ack:=acj.next (k:=236) rfl (av au acj aje)
 have acm:=ack.next (k:=265) rfl (av au ack ajf)
 have acn:=acm.next (k:=237) rfl (av au acm ajg)
 have aco:=acn.next (k:=262) rfl (av au acn ajh)
 have acp:=aco.next (k:=24) rfl (av au aco aaf)
 have acq:=acp.next (k:=12) rfl (m12 acp)
 have acr:=acq.next (k:=55) rfl (av au acq c55)
 have acs:=acr.next (k:=11) rfl (av au acr c11)
 have acu:=acs.next (k:=21) rfl (av au acs c21)
 have acv:=acu.next (k:=13) rfl (av au acu c13)
 have acw:=acv.next (k:=14) rfl (av au acv c14)
 have acx:=acw.next (k:=25) rfl (av au acw c25)
 have acy:=acx.next (k:=15) rfl (av au acx c15)
 have SD:=acy.next (k:=26) rfl (av au acy c26)
 have acz:=SD.next (k:=16) rfl (av au SD c16)
 have acA:=acz.next (k:=99) rfl (av au acz c99)
 have acB:=acA.next (k:=64) rfl (m64 acA)
 have acC:=acB.next (k:=40) rfl (m40 acB)
 have acD:=acC.next (k:=27) rfl (m27 acC)
 have acE:=acD.next (k:=17) rfl (m17 acD)
 have acF:=acE.next (k:=34) rfl (av au acE c34)
 have aji:=acF.next (k:=20) rfl (av au acF c20)
 exact aji
end Go.Proofs.YtohebioanhliiaaGreatDoor.aD
namespace Go.Proofs.YtohebioanhliiaaGreatDoor.aD
open Go.Sx
def iv(a:Nat):Nat->List DE
 |0=>[]
 |n+1=>.i (.v a)::iv (a+1) n
def r6(x:IE):BE:=.and (.le (.c (-9223372036854775808)) x) (.le x (.c 9223372036854775807))
def ns(l:List BE)(t:aw):aw:=l.foldr (fun p t=>.ev (.aG p) t) t
section
variable {E:Nat->List DV->List DV->Prop}{R:List DV->Prop}{Ps:List (Int->Prop)}{U:az}{F:Nat->List DV->Prop}{t t':aw}
theorem ka{x:IE}(h: -9223372036854775808<=x.ae U/\x.ae U<=9223372036854775807):(r6 x).ae U=true:=by
 simp only[r6,BE.ae,IE.ae,ao];exact⟨decide_eq_true h.1,decide_eq_true h.2⟩
theorem yK{x:IE}(h: -9223372036854775808<=x.ae U/\x.ae U<=9223372036854775807)(ht:t.fW E R Ps U F):(aw.ev (.aG (r6 x)) t).fW E R Ps U F:=iA (ka h) ht
theorem Gj:∀ {l:List BE},(∀p∈l,p.ae U=true)->t.fW E R Ps U F->(ns l t).fW E R Ps U F
 | [],_,ht=>ht
 |p::l,h,ht=>iA (h p (aO ..)) (Gj (fun q hq=>h q (bp _ hq)) ht)
theorem JP{a b:IE}(h:a.ae U<b.ae U)(ht:t.fW E R Ps U F):(aw.ev (.aG (.lt a b)) t).fW E R Ps U F:=iA (decide_eq_true h) ht
theorem nK{a b:IE}(h:a.ae U<=b.ae U)(ht:t.fW E R Ps U F):(aw.ev (.aG (.le a b)) t).fW E R Ps U F:=iA (decide_eq_true h) ht
theorem NF{id tA:Nat}{bJ:List DE}{G G':List DV->Prop}(cx:Nat.beq id tA=false)(h:G (bJ.map (DE.ae U))):(aw.again id bJ).fW E R Ps U (ox (ox F id G) tA G'):=by
 have cx:id≠tA:=fun e=>by subst e;simp at cx
 simpa[aw.fW,ox,cx]using h
theorem gb{a b:IE}(h1:a.ae U<b.ae U->t.fW E R Ps U F)(h2:b.ae U<=a.ae U->t'.fW E R Ps U F):(aw.ite (.lt a b) t t').fW E R Ps U F:=
 ld (fun h=>h1 (of_decide_eq_true h)) (fun h=>h2 (Int.not_lt.1 (of_decide_eq_false h)))
theorem dF{a b:IE}(h1:a.ae U=b.ae U->t.fW E R Ps U F)(h2:a.ae U≠b.ae U->t'.fW E R Ps U F):(aw.ite (.eq a b) t t').fW E R Ps U F:=
 ld (fun h=>h1 (of_decide_eq_true h)) (fun h=>h2 (of_decide_eq_false h))
theorem rk{c:BE}(h1:c.ae U=false->t.fW E R Ps U F)(h2:c.ae U=true->t'.fW E R Ps U F):(aw.ite (.not c) t t').fW E R Ps U F:=
 ld (fun h=>h1 (by simpa[BE.ae]using h)) (fun h=>h2 (by simpa[BE.ae]using h))
theorem dT{bJ:List DE}{rs:List DV}(e:bJ.map (DE.ae U)=rs)(h:R rs):(aw.ret bJ).fW E R Ps U F:=by
 subst e;exact h
end
theorem dl{xs:List (List Int)}:(DV.l xs).list=xs:=rfl
theorem di{n:Int}:(DV.i n).int=n:=rfl
theorem db{b:Bool}:(DV.b b).bool=b:=rfl
def dZ(l:List Int):List (List Int):=l.map fun x=>[x]
theorem dj{l:List Int}:(dZ l).length=l.length:=List.length_map ..
theorem yM{l:List Int}{i:Int}(h0:0<=i)(h1:i<l.length):cellAt (dZ l) i 0=l.getD i.toNat 0:=by
 unfold cellAt dZ;have:i.toNat<l.length:=by omega
 simp[List.getD,this]
theorem ur{l:List Int}{i:Int}{x:Int}:setAt (dZ l) i 0 x=dZ (l.set i.toNat x):=by
 unfold setAt dZ;refine List.ext_getElem? fun k=>?_
 simp only[List.getElem?_modify,List.getElem?_map,List.getElem?_set];by_cases e:i.toNat=k
 . subst e;rcases Nat.lt_or_ge i.toNat l.length with h|h
   . simp[h,nB]
   . simp[h,Nat.not_lt.2 h]
 . simp[e]
theorem yU{n:Nat}{x:Int}:List.replicate n [x]=dZ (List.replicate n x):=by simp[dZ]
theorem yN{l:List Int}{i:Nat}(h:i<l.length):l.getD i 0∈l:=by
 simp[List.getD,h]
end Go.Proofs.YtohebioanhliiaaGreatDoor.aD
namespace Go.Sx.Cw
def b:Int:=4294967296
structure Inv(a c p r q h:Int):Prop where
 rest:h=a-q*p
 up:(a*b+c)/(p*b+r)<=q
 h0:0<=h
theorem Ec{a c p r q h:Int}(hp:2147483648<=p)(F9:p<b)(dH:0<=r)(hr:r<b)(uB:0<=c)(hc:c<b)(HF:0<=a)(hi:Inv a c p r q h)(ht:q*r<=b*h+c):q=(a*b+c)/(p*b+r):=by
 have hv:0<p*b+r:=by unfold b at *;omega
 have h1:q*(p*b+r)<=a*b+c:=by
   have e:q*(p*b+r)=q*p*b+q*r:=by grind
   have e2:b*h=a*b-q*p*b:=by rw[hi.rest];grind
   omega
 have h2:=Int.le_ediv_of_mul_le hv h1;have:=hi.up;omega
theorem M5{a c p r:Int}(hp:2147483648<=p)(dH:0<=r)(uB:0<=c)(hc:c<b)(HF:0<=a):Inv a c p r (a/p) (a-a/p*p):=by
 have hv:0<p*b+r:=by unfold b at *;omega
 refine⟨rfl,?_,?_⟩
 . have h1:=Int.emod_lt_of_pos a (show 0<p by omega)
   have h2:a-a/p*p<p:=by have:=Int.emod_add_mul_ediv a p;have e:p*(a/p)=a/p*p:=Int.mul_comm ..;omega
   have h3:(a*b+c)/(p*b+r)<a/p+1:=by
     refine Int.ediv_lt_of_lt_mul hv ?_;have q0:=Int.ediv_nonneg HF (show 0<=p by omega)
     have e1:(a/p+1)*(p*b+r)=(a/p*p+p)*b+(a/p+1)*r:=by grind
     have e2:=Int.mul_nonneg (show 0<=a/p+1 by omega) dH
     have e3:a+1<=a/p*p+p:=by omega
     have e4:=Int.mul_le_mul_of_nonneg_right e3 (show 0<=b by unfold b;omega)
     have e5:(a+1)*b=a*b+b:=by grind
     omega
   omega
 . have:=Int.ediv_mul_le a (show p≠0 by omega)
   omega
theorem Sa{a c p r q h:Int}(hp:2147483648<=p)(dH:0<=r)(uB:0<=c)(HF:0<=a)(cQ:a*b+c<(p*b+r)*b)(hi:Inv a c p r q h)(ht:b<=q\/b*h+c<q*r):Inv a c p r (q-1) (h+p):=by
 have hv:0<p*b+r:=by unfold b at *;omega
 have hq:(a*b+c)/(p*b+r)<q:=by
   rcases ht with ht|ht
   . have:(a*b+c)/(p*b+r)<b:=Int.ediv_lt_of_lt_mul hv (by have:b*(p*b+r)=(p*b+r)*b:=Int.mul_comm ..;omega)
     omega
   . refine Int.ediv_lt_of_lt_mul hv ?_;have e:q*(p*b+r)=q*p*b+q*r:=by grind
     have e2:b*h=a*b-q*p*b:=by rw[hi.rest];grind
     omega
 refine⟨?_,by omega,?_⟩
 . rw[hi.rest];grind
 . have:=hi.h0;omega
theorem Sc{a c p r q h:Int}(hp:2147483648<=p)(F9:p<b)(dH:0<=r)(hr:r<b)(uB:0<=c)(hc:c<b)(HF:0<=a)(cQ:a<p*b+r)(hi:Inv a c p r q h)(hh:b<=h)(rj:0<=q):q=(a*b+c)/(p*b+r):=by
 refine Ec hp F9 dH hr uB hc HF hi ?_;have hq:q<=b:=by
   rcases Int.lt_or_le b q with h1|h1
   . have e1:=Int.mul_le_mul_of_nonneg_right (show b+1<=q by omega) (show 0<=p by omega)
     have e2:(b+1)*p=p*b+p:=by grind
     have:=hi.rest;unfold b at *;omega
   . exact h1
 have e1:=Int.mul_le_mul_of_nonneg_right hq dH;have e2:=Int.mul_le_mul_of_nonneg_left hh (show 0<=b by unfold b;omega)
 have e3:=Int.mul_le_mul_of_nonneg_left (show r<=b by omega) (show 0<=b by unfold b;omega)
 omega
theorem Ez:∀f x:Nat,x<2 ^ f->x<2 ^ Lib.bitLenAux f x/\(x≠0->2 ^ Lib.bitLenAux f x<=2*x)
 |0,x,h=>⟨by simpa[Lib.bitLenAux]using h,fun h'=>by simp at h;omega⟩
 | f+1,x,h=>by
   rw[Lib.bitLenAux];split
   . rename_i h0;subst h0;exact⟨by decide,fun h=>absurd rfl h⟩
   . rename_i h0;have h2:x/2<2 ^ f:=by rw[Nat.pow_succ]at h;omega
     obtain⟨i1,i2⟩:=Ez f (x/2) h2;rw[Nat.add_comm,Nat.pow_succ];refine⟨by omega,fun _=>?_⟩
     rcases Nat.eq_zero_or_pos (x/2)with e|e
     . have:Lib.bitLenAux f (x/2)=0:=by
         rw[e];cases f<;>simp[Lib.bitLenAux]
       rw[this];omega
     . have:=i2 (by omega)
       omega
theorem Sd{y:Int}(h0:1<=y)(h1:y<18446744073709551616):∃s:Nat,(64-(Lib.bitLen y.toNat:Int))=s/\s<=63/\9223372036854775808<=y*2 ^ s/\y*2 ^ s<18446744073709551616:=by
 obtain⟨i1,i2⟩:=Ez 64 y.toNat (by omega)
 have e2:=i2 (by omega)
 have hle:Lib.bitLenAux 64 y.toNat<=64:=by
   rcases Nat.lt_or_ge 64 (Lib.bitLenAux 64 y.toNat)with h|h
   . have:=Nat.pow_le_pow_right (show 0<2 by omega) (show 65<=Lib.bitLenAux 64 y.toNat by omega)
     omega
   . exact h
 have lh:1<=Lib.bitLenAux 64 y.toNat:=by
   rcases Nat.eq_zero_or_pos (Lib.bitLenAux 64 y.toNat)with h|h
   . rw[h]at i1;omega
   . exact h
 refine⟨64-Lib.bitLenAux 64 y.toNat,by unfold Lib.bitLen;omega,by omega,?_,?_⟩
 all_goals
   have ey:y=(y.toNat:Int):=by omega
   have ep:2 ^ Lib.bitLenAux 64 y.toNat*2 ^ (64-Lib.bitLenAux 64 y.toNat)=2 ^ 64:=by rw[<- Nat.pow_add];congr 1;omega
   generalize Lib.bitLenAux 64 y.toNat=k at *;generalize y.toNat=x at *;subst ey;have hp:0<2 ^ (64-k):=Nat.pow_pos (by omega)
   have c1:=Nat.mul_lt_mul_of_pos_right i1 hp;have c2:=Nat.mul_le_mul_right (2 ^ (64-k)) e2;rw[ep]at c1 c2;have c3:2*x*2 ^ (64-k)=2*(x*2 ^ (64-k)):=Nat.mul_assoc ..;have c4:((x*2 ^ (64-k):Nat):Int)=(x:Int)*2 ^ (64-k):=by push_cast;rfl
   rw[<- c4];omega
theorem aa8{hi lo:Int}{s:Nat}(hs:s<=64)(h0:0<=lo)(h1:lo<18446744073709551616):(hi*2 ^ s+lo/2 ^ (64-s))*18446744073709551616+(lo*2 ^ s)%18446744073709551616=(hi*18446744073709551616+lo)*2 ^ s/\0<=lo/2 ^ (64-s)/\lo/2 ^ (64-s)<2 ^ s:=by
 have ep:(2:Int) ^ (64-s)*2 ^ s=18446744073709551616:=by rw[<- Int.pow_add];rw[show 64-s+s=64 by omega];rfl
 have p1:(0:Int)<2 ^ (64-s):=Int.pow_pos (by omega)
 have p2:(0:Int)<2 ^ s:=Int.pow_pos (by omega)
 have d:=Int.emod_add_mul_ediv lo (2 ^ (64-s));have m0:=Int.emod_nonneg lo (show(2:Int) ^ (64-s)≠0 by omega)
 have m1:=Int.emod_lt_of_pos lo p1;have q0:=Int.ediv_nonneg h0 (show(0:Int)<=2 ^ (64-s)by omega)
 have q1:lo/2 ^ (64-s)<2 ^ s:=Int.ediv_lt_of_lt_mul p1 (by rw[Int.mul_comm,ep];exact h1)
 generalize lo/2 ^ (64-s)=h at *;generalize lo%2 ^ (64-s)=l at *;generalize(2:Int) ^ (64-s)=B at *;generalize(2:Int) ^ s=P at *;have e1:lo*P=h*18446744073709551616+l*P:=by
   rw[<- d,<- ep];grind
 have l0:=Int.mul_nonneg m0 (show 0<=P by omega)
 have l1:l*P<18446744073709551616:=by
   rw[<- ep];exact Int.mul_lt_mul_of_pos_right m1 p2
 have e2:(lo*P)%18446744073709551616=l*P:=by
   rw[e1];omega
 refine⟨?_,q0,q1⟩;rw[e2];have e3:(hi*P+h)*18446744073709551616+l*P=hi*P*18446744073709551616+(h*18446744073709551616+l*P):=by grind
 rw[e3,<- e1];grind
theorem join{N y P Y A c d q1 q0:Int}(hP:0<P)(hy:0<y)(hY:Y=y*P)(hN:A*(b*b)+(c*b+d)=N*P)(Io:q1=(A*b+c)/Y)(rj:q0=((A*b+c-q1*Y)*b+d)/Y) :
   q1*b+q0=N/y/\((A*b+c-q1*Y)*b+d-q0*Y)/P=N%y/\(A*b+c-q1*Y)*b+d-q0*Y=N%y*P:=by
 have hYp:0<Y:=by rw[hY];exact Int.mul_pos hy hP
 have r0:=Int.emod_nonneg ((A*b+c-q1*Y)*b+d) (show Y≠0 by omega)
 have r1:=Int.emod_lt_of_pos ((A*b+c-q1*Y)*b+d) hYp;have e:=Int.emod_add_mul_ediv ((A*b+c-q1*Y)*b+d) Y;rw[<- rj]at e;have hr:(A*b+c-q1*Y)*b+d-q0*Y=((A*b+c-q1*Y)*b+d)%Y:=by
   have:Y*q0=q0*Y:=Int.mul_comm ..;omega
 have hk:(A*b+c-q1*Y)*b+d-q0*Y=(N-(q1*b+q0)*y)*P:=by
   have:(N-(q1*b+q0)*y)*P=N*P-(q1*b+q0)*(y*P):=by grind
   rw[this,<- hN,<- hY];grind
 generalize(A*b+c-q1*Y)*b+d-q0*Y=R at *;generalize((A*b+c-q1*Y)*b+d)%Y=R' at *;subst hr;have k0:0<=N-(q1*b+q0)*y:=by
   rcases Int.lt_or_le (N-(q1*b+q0)*y) 0 with h|h
   . have:=Int.mul_lt_mul_of_pos_right h hP;omega
   . exact h
 have k1:N-(q1*b+q0)*y<y:=by
   rcases Int.lt_or_le (N-(q1*b+q0)*y) y with h|h
   . exact h
   . have:=Int.mul_le_mul_of_nonneg_right h (show 0<=P by omega)
     omega
 have hm:N%y=N-(q1*b+q0)*y:=by
   have:=Int.emod_emod_of_dvd N (Int.dvd_refl y);have e3:N=(N-(q1*b+q0)*y)+y*(q1*b+q0):=by grind
   rw[e3,Int.add_mul_emod_self_left];rw[Int.emod_eq_of_lt k0 k1];grind
 refine⟨?_,?_,?_⟩
 . have:=Int.emod_add_mul_ediv N y;have e4:y*(N/y)=y*(q1*b+q0):=by
     have:y*(q1*b+q0)=(q1*b+q0)*y:=Int.mul_comm ..;omega
   exact(Int.eq_of_mul_eq_mul_left (by omega) e4).symm
 . rw[hk,Int.mul_ediv_cancel _ (by omega),hm]
 . rw[hk,hm]
end Go.Sx.Cw
namespace Go.Proofs.YtohebioanhliiaaGreatDoor.aD
open Go.Sx Go Go.Sx.Cw
abbrev bE:IE:=.c 4294967296
def sE:IE:=.wrap .u64 (.v 3)
def yE:IE:=.wrap .u64 (.shl (.v 2) sE)
def pE:IE:=.ediv yE 4294967296
def rE:IE:=.emod yE 4294967296
def aE:IE:=.bits .or .u64 (.wrap .u64 (.shl (.v 0) sE)) (.shr (.v 1) (.wrap .u64 (.sub (.c 64) sE)))
def lE:IE:=.wrap .u64 (.shl (.v 1) sE)
def cE:IE:=.ediv lE 4294967296
def dE:IE:=.emod lE 4294967296
def uE(q:IE):IE:=.wrap .u64 (.sub (.wrap .u64 (.add (.wrap .u64 (.mul aE bE)) cE)) (.wrap .u64 (.mul q yE)))
def Wo(q q0:IE):IE:=.shr (.wrap .u64 (.sub (.wrap .u64 (.add (.wrap .u64 (.mul (uE q) bE)) dE)) (.wrap .u64 (.mul q0 yE)))) sE
def Wp(q q0:IE):aw:=.ev (.aG (.le (.c 0) sE)) (.ev (.aG (.le sE (.c 64))) (.ret [.i (.wrap .u64 (.add (.wrap .u64 (.mul q bE)) q0)),.i (Wo q q0)]))
def inT(q:IE):aw:=.ev (.aG (.si pE)) (
.loop 241024 [.i (.wrap .u64 (.sub (uE q) (.wrap .u64 (.mul (.wrap .u64 (.tdiv (uE q) pE)) pE)))),.i (.wrap .u64 (.tdiv (uE q) pE))] [.c (.i .u64),.c (.i .u64)] 6 (
.ite (.or (.le bE (.v 7)) (.lt (.wrap .u64 (.add (.wrap .u64 (.mul bE (.v 6))) dE)) (.wrap .u64 (.mul (.v 7) rE)))) (
.ite (.le bE (.wrap .u64 (.add (.v 6) pE))) (Wp q (.wrap .u64 (.sub (.v 7) (.c 1)))) (
.again 241024 [.i (.wrap .u64 (.add (.v 6) pE)),.i (.wrap .u64 (.sub (.v 7) (.c 1)))])) (
 Wp q (.v 7))))
def t241:aw:=
.ite (.eq (.v 2) (.c 0)) (
.stuck "") (
.ite (.le (.v 2) (.v 0)) (
.stuck "") (
.ite (.eq (.v 0) (.c 0)) (
.ev (.aG (.si (.v 2))) (
.ret [.i (.wrap .u64 (.tdiv (.v 1) (.v 2))),.i (.tmod (.v 1) (.v 2))])) (
.ev (.call 267 (.c true) [.i (.v 2)] [.one (.c (.i .i64))] 3) (
.ev (.aG (.le (.c 0) sE)) (
.ev (.aG (.le sE (.c 64))) (
.ev (.aG (.le (.c 0) (.wrap .u64 (.sub (.c 64) sE)))) (
.ev (.aG (.le (.wrap .u64 (.sub (.c 64) sE)) (.c 64))) (
.ev (.aG (.si pE)) (
.loop 241017 [.i (.wrap .u64 (.tdiv aE pE)),.i (.wrap .u64 (.sub aE (.wrap .u64 (.mul (.wrap .u64 (.tdiv aE pE)) pE))))] [.c (.i .u64),.c (.i .u64)] 4 (
.ite (.or (.le bE (.v 4)) (.lt (.wrap .u64 (.add (.wrap .u64 (.mul bE (.v 5))) cE)) (.wrap .u64 (.mul (.v 4) rE)))) (
.ite (.le bE (.wrap .u64 (.add (.v 5) pE))) (inT (.wrap .u64 (.sub (.v 4) (.c 1)))) (
.again 241017 [.i (.wrap .u64 (.sub (.v 4) (.c 1))),.i (.wrap .u64 (.add (.v 5) pE))])) (
 inT (.v 4))))))))))))
theorem agS:TT Tryz.prog 241=some ⟨241,t241,(rowOf 241).sub⟩:=by kernel_rfl
def t267:aw:=.ev (.call 283 (.c true) [.i (.v 0)] [.one (.c (.i .i64))] 1) (.ev (.aG (r6 (.sub (.c 64) (.v 1)))) (.ret [.i (.sub (.c 64) (.v 1))]))
theorem agT:TT Tryz.prog 267=some ⟨267,t267,(rowOf 267).sub⟩:=by kernel_rfl
theorem wu(n:Int):IntKind.u64.wrap n=n%18446744073709551616:=IntKind.wrap_u64 n
theorem wid{n:Int}(h0:0<=n)(h1:n<18446744073709551616):IntKind.u64.wrap n=n:=by rw[wu];exact Int.emod_eq_of_lt h0 h1
structure Nm(hi lo y:Int)(k:Nat):Prop where
 pZ:0<=hi
 cQ:hi<y
 lo0:0<=lo
 lo1:lo<18446744073709551616
 hk:k<=63
 n0:9223372036854775808<=y*2 ^ k
 n1:y*2 ^ k<18446744073709551616
def Yv(y:Int)(k:Nat):Int:=y*2 ^ k
def Av(hi lo:Int)(k:Nat):Int:=hi*2 ^ k+lo/2 ^ (64-k)
def Lv(lo:Int)(k:Nat):Int:=(lo*2 ^ k)%18446744073709551616
def pv(y:Int)(k:Nat):Int:=Yv y k/4294967296
def rv(y:Int)(k:Nat):Int:=Yv y k%4294967296
def cv(lo:Int)(k:Nat):Int:=Lv lo k/4294967296
def dv(lo:Int)(k:Nat):Int:=Lv lo k%4294967296
structure Vf(e:az)(hi lo y:Int)(k:Nat):Prop where
 h0:e 0 = .i hi
 h1:e 1 = .i lo
 h2:e 2 = .i y
 h3:e 3 = .i k
section
variable {e:az}{hi lo y:Int}{k:Nat}
theorem Vf.ar(h:Vf e hi lo y k){j:Nat}(hj:4<=j)(ds:List DV):Vf (e.ar j ds) hi lo y k:=
 ⟨by rw[az.aX (by omega)];exact h.h0,by rw[az.aX (by omega)];exact h.h1,by rw[az.aX (by omega)];exact h.h2,by rw[az.aX (by omega)];exact h.h3⟩
theorem Wq(k:Nat):(1:Int)<=2 ^ k:=Int.pow_pos (by omega)
theorem Nm.A(n:Nm hi lo y k):0<=Av hi lo k/\Av hi lo k<Yv y k/\Av hi lo k*18446744073709551616+Lv lo k=(hi*18446744073709551616+lo)*2 ^ k/\0<=lo/2 ^ (64-k)/\lo/2 ^ (64-k)<2 ^ k/\0<=hi*2 ^ k:=by
 obtain⟨m1,m2,m3⟩:=aa8 (hi:=hi) (s:=k) (by have:=n.hk;omega) n.lo0 n.lo1
 have p1:=Wq k;have e1:=Int.mul_le_mul_of_nonneg_right (show hi+1<=y from n.cQ) (show(0:Int)<=2 ^ k by omega)
 have e2:(hi+1)*2 ^ k=hi*2 ^ k+2 ^ k:=by grind
 have e3:=Int.mul_nonneg n.pZ (show(0:Int)<=2 ^ k by omega)
 refine⟨?_,?_,m1,m2,m3,e3⟩
 . show 0<=hi*2 ^ k+lo/2 ^ (64-k);omega
 . show hi*2 ^ k+lo/2 ^ (64-k)<y*2 ^ k;omega
theorem Nm.L(n:Nm hi lo y k):(0<=cv lo k/\cv lo k<4294967296)/\(0<=dv lo k/\dv lo k<4294967296)/\Lv lo k=cv lo k*4294967296+dv lo k:=by
 have:0<=Lv lo k/\Lv lo k<18446744073709551616:=by unfold Lv;omega
 unfold cv dv;omega
theorem Nm.P(n:Nm hi lo y k):(2147483648<=pv y k/\pv y k<4294967296)/\(0<=rv y k/\rv y k<4294967296)/\Yv y k=pv y k*4294967296+rv y k/\9223372036854775808<=Yv y k/\Yv y k<18446744073709551616:=by
 have h0:9223372036854775808<=Yv y k:=n.n0;have h1:Yv y k<18446744073709551616:=n.n1;unfold pv rv;omega
theorem dS(v:Vf e hi lo y k)(n:Nm hi lo y k):sE.ae e=(k:Int):=by
 show IntKind.u64.wrap (e 3).int=k;rw[v.h3];have:=n.hk;exact wid (by show(0:Int)<=k;omega) (by show(k:Int)<18446744073709551616;omega)
theorem dY(v:Vf e hi lo y k)(n:Nm hi lo y k):yE.ae e=Yv y k:=by
 show IntKind.u64.wrap ((e 2).int*2 ^ (sE.ae e).toNat)=y*2 ^ k;rw[v.h2,dS v n,Int.toNat_natCast];have:=n.n0;have:=n.n1;exact wid (by show 0<=y*2 ^ k;omega) (by show y*2 ^ k<18446744073709551616;omega)
theorem dP(v:Vf e hi lo y k)(n:Nm hi lo y k):pE.ae e=pv y k:=by
 show yE.ae e/4294967296=Yv y k/4294967296;rw[dY v n]
theorem dR(v:Vf e hi lo y k)(n:Nm hi lo y k):rE.ae e=rv y k:=by
 show yE.ae e%4294967296=Yv y k%4294967296;rw[dY v n]
theorem dL(v:Vf e hi lo y k)(n:Nm hi lo y k):lE.ae e=Lv lo k:=by
 show IntKind.u64.wrap ((e 1).int*2 ^ (sE.ae e).toNat)=(lo*2 ^ k)%18446744073709551616;rw[v.h1,dS v n,Int.toNat_natCast,wu];rfl
theorem dC(v:Vf e hi lo y k)(n:Nm hi lo y k):cE.ae e=cv lo k:=by
 show lE.ae e/4294967296=Lv lo k/4294967296;rw[dL v n]
theorem dD(v:Vf e hi lo y k)(n:Nm hi lo y k):dE.ae e=dv lo k:=by
 show lE.ae e%4294967296=Lv lo k%4294967296;rw[dL v n]
theorem dA(v:Vf e hi lo y k)(n:Nm hi lo y k):aE.ae e=Av hi lo k:=by
 show Go.bits .or .u64 (IntKind.u64.wrap ((e 0).int*2 ^ (sE.ae e).toNat)) ((e 1).int/2 ^ (IntKind.u64.wrap (64-sE.ae e)).toNat)=Av hi lo k;obtain⟨a0,a1,_,a3,a4,a5⟩:=n.A;obtain⟨_,_,_,_,y1⟩:=n.P;have hk:=n.hk;rw[v.h0,v.h1,dS v n,Int.toNat_natCast,show IntKind.u64.wrap (64-(k:Int))=((64-k:Nat):Int)by rw[wid (by omega) (by omega)];omega,Int.toNat_natCast]
 unfold Av at a0 a1 ⊢;show Go.bits .or .u64 (IntKind.u64.wrap (hi*2 ^ k)) (lo/2 ^ (64-k))=hi*2 ^ k+lo/2 ^ (64-k);rw[wid a5 (by omega)]
 show Go.bits .or .u64 (hi*2 ^ k) (lo/2 ^ (64-k))=hi*2 ^ k+lo/2 ^ (64-k);obtain⟨x,hx⟩:∃x:Nat,hi=x:=⟨hi.toNat,by have:=n.pZ;omega⟩
 obtain⟨z,hz⟩:∃z:Nat,lo/2 ^ (64-k)=z:=⟨(lo/2 ^ (64-k)).toNat,by omega⟩
 subst hx;rw[hz]at a0 a1 a3 a4 ⊢;have c1:((x*2 ^ k:Nat):Int)=(x:Int)*2 ^ k:=by push_cast;rfl
 have c2:((2 ^ k:Nat):Int)=(2:Int) ^ k:=by push_cast;rfl
 rw[<- c1]at a1 ⊢;rw[<- c2]at a4;rw[bits_or_u64_nat _ _ (by omega) (by omega)]
 have:=Nat.two_pow_add_eq_or_of_lt (show z<2 ^ k by omega) x
 rw[Nat.mul_comm]at this;rw[<- this];omega
theorem TW{q h c r:Int}(h0:0<=h)(hb:h<4294967296)(c0:0<=c)(cb:c<4294967296)(q0:0<=q)(r0:0<=r)(rb:r<4294967296)(hc:(decide ((4294967296:Int)<=q)||decide (IntKind.u64.wrap (IntKind.u64.wrap (4294967296*h)+c)<IntKind.u64.wrap (q*r)))=true):b<=q\/b*h+c<q*r:=by
 unfold b;rw[wu,wu,wu,fy,aC,aC]at hc;rcases Int.lt_or_le q 4294967296 with hq|hq
 . have e1:=Int.mul_le_mul_of_nonneg_left (show r<=4294967295 by omega) q0
   have e2:=Int.mul_nonneg q0 r0;generalize q*r=m at *;omega
 . exact Or.inl hq
theorem TX{q h c r:Int}(h0:0<=h)(hb:h<4294967296)(c0:0<=c)(cb:c<4294967296)(q0:0<=q)(r0:0<=r)(rb:r<4294967296)(hc:(decide ((4294967296:Int)<=q)||decide (IntKind.u64.wrap (IntKind.u64.wrap (4294967296*h)+c)<IntKind.u64.wrap (q*r)))=false):q<b/\q*r<=b*h+c:=by
 unfold b;rw[wu,wu,wu,Bool.or_eq_false_iff,decide_eq_false_iff_not,decide_eq_false_iff_not]at hc;have e1:=Int.mul_le_mul_of_nonneg_left (show r<=4294967295 by omega) q0
 have e2:=Int.mul_nonneg q0 r0;generalize q*r=m at *;omega
def Lp(a c p r:Int)(q h:Int):Prop:=Inv a c p r q h/\0<=q/\q<=8589934592/\h<4294967296
theorem Lp.start{a c p r:Int}(hp:2147483648<=p)(F9:p<4294967296)(dH:0<=r)(uB:0<=c)(hc:c<4294967296)(HF:0<=a)(ha:a<18446744073709551616) :
   IntKind.u64.wrap (a.tdiv p)=a/p/\IntKind.u64.wrap (a-IntKind.u64.wrap (IntKind.u64.wrap (a.tdiv p)*p))=a-a/p*p/\Lp a c p r (a/p) (a-a/p*p):=by
 have i:=M5 hp dH uB (show c<b from hc) HF
 have d:=Int.emod_add_mul_ediv a p;have m1:=Int.emod_lt_of_pos a (show 0<p by omega)
 have q0:=Int.ediv_nonneg HF (show 0<=p by omega)
 have q1:a/p<8589934592:=Int.ediv_lt_of_lt_mul (by omega) (by omega)
 have e1:a.tdiv p=a/p:=Int.tdiv_eq_ediv_of_nonneg HF;have h0:=i.h0;have e3:p*(a/p)=a/p*p:=Int.mul_comm ..;have m0:=Int.mul_nonneg q0 (show 0<=p by omega)
 rw[e1,wid q0 (by omega),wid m0 (by omega),wid h0 (by omega)]
 exact⟨rfl,rfl,i,q0,by omega,by omega⟩
theorem Lp.step{a c p r q h:Int}(hp:2147483648<=p)(F9:p<4294967296)(dH:0<=r)(hr:r<4294967296)(uB:0<=c)(hc:c<4294967296)(HF:0<=a)(cQ:a<p*4294967296+r)(hi:Lp a c p r q h)(ht:b<=q\/b*h+c<q*r) :
   IntKind.u64.wrap (q-1)=q-1/\IntKind.u64.wrap (h+p)=h+p/\0<=q-1/\(4294967296<=h+p->q-1=(a*b+c)/(p*b+r))/\(h+p<4294967296->Lp a c p r (q-1) (h+p)):=by
 obtain⟨i,q0,q1,h1⟩:=hi;have h0:=i.h0;have hl:a*b+c<(p*b+r)*b:=by
   have:=Int.mul_le_mul_of_nonneg_right (show a+1<=p*b+r from cQ) (show 0<=b by unfold b;omega)
   have e:(a+1)*b=a*b+b:=by grind
   have:c<b:=hc;omega
 have i':=Sa hp dH uB HF hl i ht;have q2:1<=q:=by
   rcases ht with ht|ht
   . unfold b at ht;omega
   . rcases Int.lt_or_le q 1 with h|h
     . have:q=0:=by omega
       subst this;unfold b at ht;omega
     . exact h
 refine⟨wid (by omega) (by omega),wid (by omega) (by omega),by omega,fun hh=>?_,fun hh=>⟨i',by omega,by omega,hh⟩⟩
 exact Sc hp F9 dH hr uB hc HF cQ i' hh (by omega)
theorem Lp.done{a c p r q h:Int}(hp:2147483648<=p)(F9:p<4294967296)(dH:0<=r)(hr:r<4294967296)(uB:0<=c)(hc:c<4294967296)(HF:0<=a)(hi:Lp a c p r q h)(ht:q*r<=b*h+c):q=(a*b+c)/(p*b+r):=
 Ec hp F9 dH hr uB hc HF hi.1 ht
def A8(hi lo y:Int)(k:Nat):Int:=(Av hi lo k*b+cv lo k)/(pv y k*b+rv y k)
def uv(hi lo y:Int)(k:Nat):Int:=Av hi lo k*b+cv lo k-A8 hi lo y k*(pv y k*b+rv y k)
def HG(hi lo y:Int)(k:Nat):Int:=(uv hi lo y k*b+dv lo k)/(pv y k*b+rv y k)
theorem Nm.Y(n:Nm hi lo y k):pv y k*b+rv y k=Yv y k:=by
 have:=n.P.2.2.1;unfold b;omega
theorem Nm.u(n:Nm hi lo y k):0<=uv hi lo y k/\uv hi lo y k<Yv y k/\0<=A8 hi lo y k/\A8 hi lo y k<4294967296:=by
 obtain⟨a0,a1,_⟩:=n.A;obtain⟨⟨c0,c1⟩,_⟩:=n.L;obtain⟨_,_,_,y0,y1⟩:=n.P;unfold uv A8;rw[n.Y];have r0:=Int.emod_nonneg (Av hi lo k*b+cv lo k) (show Yv y k≠0 by omega)
 have r1:=Int.emod_lt_of_pos (Av hi lo k*b+cv lo k) (show 0<Yv y k by omega)
 have e:=Int.emod_add_mul_ediv (Av hi lo k*b+cv lo k) (Yv y k);have e2:Yv y k*((Av hi lo k*b+cv lo k)/Yv y k)=(Av hi lo k*b+cv lo k)/Yv y k*Yv y k:=Int.mul_comm ..;refine⟨by omega,by omega,Int.ediv_nonneg (by unfold b;omega) (by omega),Int.ediv_lt_of_lt_mul (by omega) ?_⟩
 have:=Int.mul_le_mul_of_nonneg_right (show Av hi lo k+1<=Yv y k by omega) (show 0<=b by unfold b;omega)
 have e3:(Av hi lo k+1)*b=Av hi lo k*b+b:=by grind
 have e4:4294967296*Yv y k=Yv y k*b:=by unfold b;omega
 unfold b at *;omega
theorem Nm.q0(n:Nm hi lo y k):0<=HG hi lo y k/\HG hi lo y k<4294967296:=by
 obtain⟨u0,u1,_⟩:=n.u;obtain⟨_,⟨d0,d1⟩,_⟩:=n.L;obtain⟨_,_,_,y0,y1⟩:=n.P;unfold HG;rw[n.Y];refine⟨Int.ediv_nonneg (by unfold b;omega) (by omega),Int.ediv_lt_of_lt_mul (by omega) ?_⟩
 have:=Int.mul_le_mul_of_nonneg_right (show uv hi lo y k+1<=Yv y k by omega) (show 0<=b by unfold b;omega)
 have e3:(uv hi lo y k+1)*b=uv hi lo y k*b+b:=by grind
 have e4:4294967296*Yv y k=Yv y k*b:=by unfold b;omega
 unfold b at *;omega
theorem dU(v:Vf e hi lo y k)(n:Nm hi lo y k){q:IE}(hq:q.ae e=A8 hi lo y k):(uE q).ae e=uv hi lo y k:=by
 show IntKind.u64.wrap (IntKind.u64.wrap (IntKind.u64.wrap (aE.ae e*4294967296)+cE.ae e)-IntKind.u64.wrap (q.ae e*yE.ae e))=uv hi lo y k;rw[dA v n,dC v n,dY v n,hq];obtain⟨u0,u1,_,_⟩:=n.u;obtain⟨_,_,_,y0,y1⟩:=n.P;have e1:uv hi lo y k=Av hi lo k*4294967296+cv lo k-A8 hi lo y k*Yv y k:=by unfold uv;rw[n.Y];rfl
 rw[e1]at u0 u1 ⊢;rw[wu,wu,wu,wu];generalize A8 hi lo y k*Yv y k=z at *;omega
theorem Nm.fin(n:Nm hi lo y k):A8 hi lo y k*b+HG hi lo y k=(hi*18446744073709551616+lo)/y/\(uv hi lo y k*b+dv lo k-HG hi lo y k*Yv y k)/2 ^ k=(hi*18446744073709551616+lo)%y/\0<=uv hi lo y k*b+dv lo k-HG hi lo y k*Yv y k/\uv hi lo y k*b+dv lo k-HG hi lo y k*Yv y k<Yv y k:=by
 obtain⟨a0,a1,aj,_⟩:=n.A;obtain⟨_,_,lj⟩:=n.L;obtain⟨_,_,_,y0,y1⟩:=n.P;have cQ:=n.cQ;have pZ:=n.pZ;have hj:=join (N:=hi*18446744073709551616+lo) (y:=y) (P:=2 ^ k) (Y:=Yv y k) (A:=Av hi lo k) (c:=cv lo k) (d:=dv lo k) (q1:=A8 hi lo y k) (q0:=HG hi lo y k) (by have:=Wq k;omega) (by omega) rfl
   (by rw[<- aj,lj];unfold b;omega) (by unfold A8;rw[n.Y]) (by unfold HG uv;rw[n.Y])
 have eu:Av hi lo k*b+cv lo k-A8 hi lo y k*Yv y k=uv hi lo y k:=by unfold uv;rw[n.Y]
 rw[eu]at hj;refine⟨hj.1,hj.2.1,?_⟩;rw[hj.2.2];have m0:=Int.emod_nonneg (hi*18446744073709551616+lo) (show y≠0 by omega)
 have m1:=Int.emod_lt_of_pos (hi*18446744073709551616+lo) (show 0<y by omega)
 have p1:=Wq k;exact⟨Int.mul_nonneg m0 (by omega),Int.mul_lt_mul_of_pos_right m1 (by omega)⟩
theorem agU(v:Vf e hi lo y k)(n:Nm hi lo y k){q q0:IE}(hq:q.ae e=A8 hi lo y k)(h0:q0.ae e=HG hi lo y k):(Wo q q0).ae e=(hi*18446744073709551616+lo)%y:=by
 show IntKind.u64.wrap (IntKind.u64.wrap (IntKind.u64.wrap ((uE q).ae e*4294967296)+dE.ae e)-IntKind.u64.wrap (q0.ae e*yE.ae e))/2 ^ (sE.ae e).toNat=_;rw[dU v n hq,dD v n,dY v n,h0,dS v n,Int.toNat_natCast];obtain⟨_,f2,f3,f4⟩:=n.fin;obtain⟨_,_,_,y0,y1⟩:=n.P;rw[<- f2];congr 1;rw[wu,wu,wu,wu];unfold b at *;generalize HG hi lo y k*Yv y k=z at *;omega
abbrev Res(hi lo y:Int)(rs:List DV):Prop:=rs=[.i ((hi*18446744073709551616+lo)/y),.i ((hi*18446744073709551616+lo)%y)]
theorem M6{E:Nat->List DV->List DV->Prop}{Ps:List (Int->Prop)}{F:Nat->List DV->Prop}(v:Vf e hi lo y k)(n:Nm hi lo y k){q q0:IE}(hq:q.ae e=A8 hi lo y k)(h0:q0.ae e=HG hi lo y k):(Wp q q0).fW E (Res hi lo y) Ps e F:=by
 have hk:=n.hk;refine nK (by rw[dS v n];show(0:Int)<=k;omega) (nK (by rw[dS v n];show(k:Int)<=64;omega) ?_)
 refine dT (rs:=[.i ((hi*18446744073709551616+lo)/y),.i ((hi*18446744073709551616+lo)%y)]) ?_ rfl;show [DV.i (IntKind.u64.wrap (IntKind.u64.wrap (q.ae e*4294967296)+q0.ae e)),DV.i ((Wo q q0).ae e)]=_;rw[agU v n hq h0,hq,h0,<- n.fin.1];obtain⟨_,_,u0,u1⟩:=n.u;obtain⟨z0,z1⟩:=n.q0;have:IntKind.u64.wrap (IntKind.u64.wrap (A8 hi lo y k*4294967296)+HG hi lo y k)=A8 hi lo y k*b+HG hi lo y k:=by
   unfold b;have e1:IntKind.u64.wrap (A8 hi lo y k*4294967296)=A8 hi lo y k*4294967296:=wid (by omega) (by omega)
   rw[e1,wid (by omega) (by omega)]
 rw[this]
theorem TY{E:Nat->List DV->List DV->Prop}{Ps:List (Int->Prop)}{F:Nat->List DV->Prop}(v:Vf e hi lo y k)(n:Nm hi lo y k){q:IE}(hq:q.ae e=A8 hi lo y k)(hq6:∀ds,q.ae (e.ar 6 ds)=A8 hi lo y k):(inT q).fW E (Res hi lo y) Ps e F:=by
 obtain⟨⟨p0,p1⟩,⟨r0,r1⟩,ye,y0,y1⟩:=n.P;obtain⟨_,⟨d0,d1⟩,_⟩:=n.L;obtain⟨u0,u1,_⟩:=n.u;obtain⟨s1,s2,s3⟩:=Lp.start (a:=uv hi lo y k) (c:=dv lo k) (p:=pv y k) (r:=rv y k) p0 p1 r0 d0 d1 u0 (by omega)
 refine iA (by show decide (pE.ae e≠0)=true;rw[dP v n];exact decide_eq_true (by omega)) ?_
 refine my (fun ds=>∃h x:Int,ds=[.i h,.i x]/\Lp (uv hi lo y k) (dv lo k) (pv y k) (rv y k) x h) (fun| [_,.i x]=>x.toNat|_=>0) ?_ ?_
 . refine⟨_,_,?_,s3⟩;show [DV.i (IntKind.u64.wrap ((uE q).ae e-IntKind.u64.wrap (IntKind.u64.wrap (((uE q).ae e).tdiv (pE.ae e))*pE.ae e))),DV.i (IntKind.u64.wrap (((uE q).ae e).tdiv (pE.ae e)))]=_;rw[dU v n hq,dP v n,s2,s1]
 . rintro _ ⟨h,x,rfl,hl⟩;have v':=v.ar (show 4<=6 by omega) [.i h,.i x]
   have Km:=hq6 [.i h,.i x];obtain⟨e',Ft⟩:∃e',e'=e.ar 6 [DV.i h,DV.i x]:=⟨_,rfl⟩;have g6:(e' 6).int=h:=by rw[Ft];rfl
   have g7:(e' 7).int=x:=by rw[Ft];rfl
   rw[<- Ft]at v' Km ⊢;have Ux:=hl.1.h0;obtain⟨_,x0,x1,h1⟩:=id hl;have hc:∀z,(BE.or (.le bE (.v 7)) (.lt (.wrap .u64 (.add (.wrap .u64 (.mul bE (.v 6))) dE)) (.wrap .u64 (.mul (.v 7) rE)))).ae e'=z->(decide ((4294967296:Int)<=x)||decide (IntKind.u64.wrap (IntKind.u64.wrap (4294967296*h)+dv lo k)<IntKind.u64.wrap (x*rv y k)))=z:=by
     intro z hz;rw[<- hz];show _=(decide ((4294967296:Int)<=(e' 7).int)||decide (IntKind.u64.wrap (IntKind.u64.wrap (4294967296*(e' 6).int)+dE.ae e')<IntKind.u64.wrap ((e' 7).int*rE.ae e')));rw[g6,g7,dD v' n,dR v' n]
   refine ld (fun hb=>?_) (fun hb=>?_)
   . have ht:=TW Ux h1 d0 d1 x0 r0 r1 (hc _ hb);obtain⟨w1,w2,w3,w4,w5⟩:=Lp.step p0 p1 r0 r1 d0 d1 u0 (by omega) hl ht
     have gw:(IE.wrap .u64 (.add (.v 6) pE)).ae e'=h+pv y k:=by
       show IntKind.u64.wrap ((e' 6).int+pE.ae e')=_;rw[g6,dP v' n,w2]
     have gx:(IE.wrap .u64 (.sub (.v 7) (.c 1))).ae e'=x-1:=by
       show IntKind.u64.wrap ((e' 7).int-1)=_;rw[g7,w1]
     refine ld (fun hb=>?_) (fun hb=>?_)
     . have hb:(4294967296:Int)<=(IE.wrap .u64 (.add (.v 6) pE)).ae e':=of_decide_eq_true hb;rw[gw]at hb;exact M6 v' n Km (by rw[gx];exact w4 hb)
     . have hb:¬ (4294967296:Int)<=(IE.wrap .u64 (.add (.v 6) pE)).ae e':=of_decide_eq_false hb;rw[gw]at hb;refine ko ⟨⟨h+pv y k,x-1,?_,w5 (by omega)⟩,?_⟩
       . show [DV.i ((IE.wrap .u64 (.add (.v 6) pE)).ae e'),DV.i ((IE.wrap .u64 (.sub (.v 7) (.c 1))).ae e')]=_;rw[gw,gx]
       . show((IE.wrap .u64 (.sub (.v 7) (.c 1))).ae e').toNat<x.toNat;rw[gx];omega
   . obtain⟨_,hf⟩:=TX Ux h1 d0 d1 x0 r0 r1 (hc _ hb);exact M6 v' n Km (by show(e' 7).int=_;rw[g7];exact Lp.done p0 p1 r0 r1 d0 d1 u0 hl hf)
theorem Wr{E:Nat->List DV->List DV->Prop}{Ps:List (Int->Prop)}{F:Nat->List DV->Prop}(v:Vf e hi lo y k)(n:Nm hi lo y k):(aw.loop 241017 [.i (.wrap .u64 (.tdiv aE pE)),.i (.wrap .u64 (.sub aE (.wrap .u64 (.mul (.wrap .u64 (.tdiv aE pE)) pE))))] [.c (.i .u64),.c (.i .u64)] 4 (
.ite (.or (.le bE (.v 4)) (.lt (.wrap .u64 (.add (.wrap .u64 (.mul bE (.v 5))) cE)) (.wrap .u64 (.mul (.v 4) rE)))) (
.ite (.le bE (.wrap .u64 (.add (.v 5) pE))) (inT (.wrap .u64 (.sub (.v 4) (.c 1)))) (
.again 241017 [.i (.wrap .u64 (.sub (.v 4) (.c 1))),.i (.wrap .u64 (.add (.v 5) pE))])) (
 inT (.v 4)))).fW E (Res hi lo y) Ps e F:=by
 obtain⟨⟨p0,p1⟩,⟨r0,r1⟩,ye,y0,y1⟩:=n.P;obtain⟨⟨c0,c1⟩,_,_⟩:=n.L;obtain⟨a0,a1,_⟩:=n.A;obtain⟨s1,s2,s3⟩:=Lp.start (a:=Av hi lo k) (c:=cv lo k) (p:=pv y k) (r:=rv y k) p0 p1 r0 c0 c1 a0 (by omega)
 refine my (fun ds=>∃x h:Int,ds=[.i x,.i h]/\Lp (Av hi lo k) (cv lo k) (pv y k) (rv y k) x h) (fun| [.i x,_]=>x.toNat|_=>0) ?_ ?_
 . refine⟨_,_,?_,s3⟩;show [DV.i (IntKind.u64.wrap ((aE.ae e).tdiv (pE.ae e))),DV.i (IntKind.u64.wrap (aE.ae e-IntKind.u64.wrap (IntKind.u64.wrap ((aE.ae e).tdiv (pE.ae e))*pE.ae e)))]=_;rw[dA v n,dP v n,s2,s1]
 . rintro _ ⟨x,h,rfl,hl⟩;have v':=v.ar (show 4<=4 by omega) [.i x,.i h]
   obtain⟨e',Ft⟩:∃e',e'=e.ar 4 [DV.i x,DV.i h]:=⟨_,rfl⟩;have g4:e' 4 = .i x:=by rw[Ft];rfl
   have g5:e' 5 = .i h:=by rw[Ft];rfl
   rw[<- Ft]at v' ⊢;have Ux:=hl.1.h0;obtain⟨_,x0,x1,h1⟩:=id hl;have hc:∀z,(BE.or (.le bE (.v 4)) (.lt (.wrap .u64 (.add (.wrap .u64 (.mul bE (.v 5))) cE)) (.wrap .u64 (.mul (.v 4) rE)))).ae e'=z->(decide ((4294967296:Int)<=x)||decide (IntKind.u64.wrap (IntKind.u64.wrap (4294967296*h)+cv lo k)<IntKind.u64.wrap (x*rv y k)))=z:=by
     intro z hz;rw[<- hz];show _=(decide ((4294967296:Int)<=(e' 4).int)||decide (IntKind.u64.wrap (IntKind.u64.wrap (4294967296*(e' 5).int)+cE.ae e')<IntKind.u64.wrap ((e' 4).int*rE.ae e')));rw[g4,g5,dC v' n,dR v' n];rfl
   refine ld (fun hb=>?_) (fun hb=>?_)
   . have ht:=TW Ux h1 c0 c1 x0 r0 r1 (hc _ hb);obtain⟨w1,w2,w3,w4,w5⟩:=Lp.step p0 p1 r0 r1 c0 c1 a0 (by omega) hl ht
     have gw:(IE.wrap .u64 (.add (.v 5) pE)).ae e'=h+pv y k:=by
       show IntKind.u64.wrap ((e' 5).int+pE.ae e')=_;rw[g5,dP v' n];exact w2
     have gx:∀YI:az,YI 4 = .i x->(IE.wrap .u64 (.sub (.v 4) (.c 1))).ae YI=x-1:=by
       intro YI h4;show IntKind.u64.wrap ((YI 4).int-1)=_;rw[h4];exact w1
     refine ld (fun hb=>?_) (fun hb=>?_)
     . have hb:(4294967296:Int)<=(IE.wrap .u64 (.add (.v 5) pE)).ae e':=of_decide_eq_true hb;rw[gw]at hb;exact TY v' n (by rw[gx e' g4];exact w4 hb) fun ds=>by rw[gx _ (by rw[az.aX (by omega)];exact g4)];exact w4 hb
     . have hb:¬ (4294967296:Int)<=(IE.wrap .u64 (.add (.v 5) pE)).ae e':=of_decide_eq_false hb;rw[gw]at hb;refine ko ⟨⟨x-1,h+pv y k,?_,w5 (by omega)⟩,?_⟩
       . show [DV.i ((IE.wrap .u64 (.sub (.v 4) (.c 1))).ae e'),DV.i ((IE.wrap .u64 (.add (.v 5) pE)).ae e')]=_;rw[gw,gx e' g4]
       . show((IE.wrap .u64 (.sub (.v 4) (.c 1))).ae e').toNat<x.toNat;rw[gx e' g4];omega
   . obtain⟨_,hf⟩:=TX Ux h1 c0 c1 x0 r0 r1 (hc _ hb);have hd:x=A8 hi lo y k:=Lp.done p0 p1 r0 r1 c0 c1 a0 hl hf;exact TY v' n (by show(e' 4).int=_;rw[g4];exact hd) fun ds=>by
       show(e'.ar 6 ds 4).int=_;rw[az.aX (by omega),g4]
       exact hd
end
variable {X:bA}
def Ws(ds:List DV):Prop:=∃n:Int,ds=[.i n]/\1<=n/\n<18446744073709551616
def Wt(ds rs:List DV):Prop:=∀n:Int,ds=[.i n]->∃k:Nat,rs=[.i k]/\k<=63/\9223372036854775808<=n*2 ^ k/\n*2 ^ k<18446744073709551616
theorem agV(hX:X 283=vn):lH (TT Tryz.prog) X 267 Ws Wt:=kS agT fun ds hp=>by
 obtain⟨n,rfl,n0,n1⟩:=hp;obtain⟨k,k1,k2,k3,k4⟩:=Sd n0 n1;unfold t267;refine iB (pre:=fun ds=>ds=[.i n]) (rel:=fun _ rs=>rs=[.i (Lib.bitLen n.toNat)]) (fun ds h=>⟨[.i (Lib.bitLen n.toNat)],?_,rfl⟩) rfl ?_
 . subst h;refine il TZ ?_;show X 283 [.i n]=_;rw[hX];simp only[vn,pj (show 0<=n/\n<=18446744073709551615 by omega),if_true]
 . rintro _ _ rfl;refine yK (show -9223372036854775808<=64-(Lib.bitLen n.toNat:Int)/\64-(Lib.bitLen n.toNat:Int)<=9223372036854775807 by omega) ?_
   refine dT (rs:=[.i (64-(Lib.bitLen n.toNat:Int))]) rfl fun m hm=>?_
   cases hm;exact⟨k,by rw[k1],k2,k3,k4⟩
def Wu(ds:List DV):Prop:=∃hi lo y:Int,ds=[.i hi,.i lo,.i y]/\0<=hi/\hi<y/\y<18446744073709551616/\0<=lo/\lo<18446744073709551616
def M7(ds rs:List DV):Prop:=∀hi lo y:Int,ds=[.i hi,.i lo,.i y]->Res hi lo y rs
theorem agW(hX:X 283=vn):lH (TT Tryz.prog) X 241 Wu M7:=kS agS fun ds hp=>by
 obtain⟨hi,lo,y,rfl,h0,cQ,y1,l0,l1⟩:=hp;have e:M7 [.i hi,.i lo,.i y]=Res hi lo y:=by
   funext rs;exact propext ⟨fun h=>h _ _ _ rfl,fun h _ _ _ e=>by cases e;exact h⟩
 rw[e];unfold t241;refine dF (fun h=>absurd (show y=0 from h) (by omega)) (fun _=>?_)
 refine ld (fun h=>absurd (show y<=hi from of_decide_eq_true h) (by omega)) (fun _=>?_)
 refine dF (fun h=>?_) (fun h=>?_)
 . have h:hi=0:=h;subst h;refine iA (show decide (y≠0)=true from decide_eq_true (by omega)) (dT (rs:=[.i ((0*18446744073709551616+lo)/y),.i ((0*18446744073709551616+lo)%y)]) ?_ rfl)
   show [DV.i (IntKind.u64.wrap (lo.tdiv y)),DV.i (lo.tmod y)]=_;rw[Int.tdiv_eq_ediv_of_nonneg l0,Int.tmod_eq_emod_of_nonneg l0,Int.zero_mul,Int.zero_add,wid (Int.ediv_nonneg l0 (by omega)) (by have:=Int.ediv_le_self y l0;omega)]
 . refine iB (agV hX) ⟨y,rfl,by omega,y1⟩ fun rs _ hr=>?_
   obtain⟨k,rfl,k1,k2,k3⟩:=hr y rfl;have n:Nm hi lo y k:=⟨h0,cQ,l0,l1,k1,k2,k3⟩;have v:Vf ((aM.ar 0 [.i hi,.i lo,.i y]).ar 3 [.i (k:Int)]) hi lo y k:=⟨rfl,rfl,rfl,rfl⟩;have ds:=dS v n;have dk:(IE.wrap .u64 (.sub (.c 64) sE)).ae ((aM.ar 0 [.i hi,.i lo,.i y]).ar 3 [.i (k:Int)])=64-(k:Int):=by
     show IntKind.u64.wrap (64-sE.ae _)=_;rw[ds];exact wid (by omega) (by omega)
   refine nK (by rw[ds];show(0:Int)<=k;omega) (nK (by rw[ds];show(k:Int)<=64;omega) (nK (by rw[dk];show(0:Int)<=64-k;omega) (nK (by rw[dk];show 64-(k:Int)<=64;omega) ?_)))
   refine iA (by show decide (pE.ae _≠0)=true;rw[dP v n];exact decide_eq_true (by have:=n.P.1;omega)) ?_
   exact Wr v n
end Go.Proofs.YtohebioanhliiaaGreatDoor.aD
namespace Go.Proofs.YtohebioanhliiaaGreatDoor.aD
open Go.Sx
def t40:aw:=
.ev (.call 64 (.c true) [.i (.v 0)] [.one (.s 146 [i6,i6]),oB] 3) (
.ite (.not (.v 4)) (
.ret [.i (.c 5)]) (
.ite (.not (.eq (.len 3) (.len 1))) (
.ret [.i (.c 1)]) (
.loop 40007 [.i (.c 0),.i (.c 0)] [.c i6,.c i6] 5 (
.ite (.lt (.v 6) (.len 3)) (
.ev (.aG (.le (.c 0) (.v 6))) (
.ev (.aG (.lt (.v 6) (.len 1))) (
.ite (.or (.lt (.get 1 (.v 6) 0) (.get 3 (.v 6) 0)) (.lt (.get 3 (.v 6) 1) (.get 1 (.v 6) 0))) (
.ret [.i (.c 4)]) (
.ev (.aG (r6 (.add (.v 6) (.c 1)))) (
.again 40007 [.i (.v 5),.i (.add (.v 6) (.c 1))]))))) (
.ret [.i (.c 0)])))))
theorem T40:TT Tryz.prog 40=some ⟨40,t40,(rowOf 40).sub⟩:=by kernel_rfl
def t27:aw:=
.ite (.lt (.v 1) (.len 0)) (
.ret [.b (.c false)]) (
.loop 27004 [.b (.c false),.i (.c 0)] [.c (.b),.c i6] 3 (
.ite (.lt (.v 4) (.len 0)) (
.ev (.aG (.le (.c 0) (.v 4))) (
.ev (.ch 6 (.sub 0 (.v 4) [.c i6,.s 3 i6] 1)) (
.ite (.lt (.c 40) (.len 6)) (
.ret [.b (.c false)]) (
.ev (.aG (.le (.c 0) (.v 4))) (
.ev (.aG (.lt (.v 4) (.len 0))) (
.ev (.ch 2056 (.sub 0 (.v 4) [.c i6,.s 3 i6] 1)) (
.ev (.ch 5128 (.sub 0 (.v 4) [.c i6,.s 3 i6] 1)) (
.ev (.ch 9736 (.sub 0 (.v 4) [.c i6,.s 3 i6] 1)) (
.ev (.ch 13320 (.sub 0 (.v 4) [.c i6,.s 3 i6] 1)) (
.ev (.call 40 (.eq (.get 0 (.v 4) 0) (.c 1)) [.i (.get 0 (.v 4) 0),.l 5128] [oI] 5639) (
.ev (.aG (.or (.not (.and (.eq (.get 0 (.v 4) 0) (.c 1)) (.eq (.v 5639) (.c 0)))) (.lt (.c 0) (.len 9736)))) (
.ev (.aG (.or (.not (.and (.eq (.get 0 (.v 4) 0) (.c 1)) (.eq (.v 5639) (.c 0)))) (.lt (.c 1) (.len 13320)))) (
.ev (.aG (.or (.not (.and (.eq (.get 0 (.v 4) 0) (.c 1)) (.eq (.v 5639) (.c 0)))) (r6 (.mul (.get 9736 (.c 0) 0) (.get 13320 (.c 1) 0))))) (
.ev (.aG (.or (.not (.and (.eq (.get 0 (.v 4) 0) (.c 1)) (.eq (.v 5639) (.c 0)))) (.lt (.v 4) (.len 0)))) (
.ev (.aG (.or (.not (.and (.eq (.get 0 (.v 4) 0) (.c 1)) (.eq (.v 5639) (.c 0)))) (.le (.c 0) (.v 4)))) (
.ite (.and (.and (.eq (.get 0 (.v 4) 0) (.c 1)) (.eq (.v 5639) (.c 0))) (.lt (.v 2) (.mul (.get 9736 (.c 0) 0) (.get 13320 (.c 1) 0)))) (
.ret [.b (.c false)]) (
.ev (.aG (r6 (.add (.v 4) (.c 1)))) (
.again 27004 [.b (.v 3),.i (.add (.v 4) (.c 1))])))))))))))))))))) (
.ret [.b (.c true)])))
theorem T27:TT Tryz.prog 27=some ⟨27,t27,(rowOf 27).sub⟩:=by kernel_rfl
variable {X:bA}
theorem ajk:ev (TT Tryz.prog) X 40 64 [.i 1]=some [.l [[1,1024],[1,1024]],.b true]:=by kernel_rfl
def T9(ds:List DV):Prop:=ds=[.i 1]
def Ua(ds rs:List DV):Prop:=rs=[.l [[1,1024],[1,1024]],.b true]
theorem g64:lH (TT Tryz.prog) X 64 T9 Ua:=fun ds hp=>by
 obtain rfl:ds=[.i 1]:=hp;exact⟨_,⟨40,ajk⟩,rfl⟩
def Sz(xs:List (List Int)):Prop:=xs.length=2/\(1<=cellAt xs 0 0/\cellAt xs 0 0<=1024)/\(1<=cellAt xs 1 0/\cellAt xs 1 0<=1024)
def Es(ds:List DV):Prop:=∃xs:List (List Int),ds=[.i 1,.l xs]/\xs.length<=40
def Et(ds rs:List DV):Prop:=∃e:Int,rs=[.i e]/\(0<=e/\e<=12)/\∀xs,ds=[.i 1,.l xs]->(e=0↔Sz xs)
theorem o40{E:Nat->List DV->List DV->Prop}(Yw:∀ds,T9 ds->∃rs,E 64 ds rs/\Ua ds rs){ds:List DV}(hp:Es ds):t40.fW E (Et ds) [] (aM.ar 0 ds) (fun _ _=>False):=by
 obtain⟨xs,rfl,hx⟩:=hp;unfold t40;refine iB Yw rfl ?_;rintro _ _ rfl;refine rk (fun h=>?_) (fun _=>?_)
 . have:true=false:=h;cases this
 refine rk (fun h=>?_) (fun h=>?_)
 . have h:¬ ((2:Int)=xs.length):=of_decide_eq_false h;refine dT (rs:=[.i 1]) rfl ⟨1,rfl,by omega,fun ys e=>?_⟩
   cases e;exact⟨fun h=>by omega,fun hs=>absurd (by rw[hs.1];rfl) h⟩
 . have h:(2:Int)=xs.length:=of_decide_eq_true h;refine my (fun ds=>∃q i:Int,ds=[.i q,.i i]/\0<=i/\i<=2/\(1<=i->1<=cellAt xs 0 0/\cellAt xs 0 0<=1024)/\(2<=i->1<=cellAt xs 1 0/\cellAt xs 1 0<=1024)) (fun| [_,.i i]=>(2-i).toNat|_=>0)
     ⟨0,0,rfl,by omega,by omega,fun h=>by omega,fun h=>by omega⟩ ?_
   rintro _ ⟨q,i,rfl,pZ,Mr,h0,h1⟩;refine gb (fun cQ=>?_) (fun sS=>?_)
   . have cQ:i<2:=cQ;refine nK (show(0:Int)<=i from pZ) (JP (show i<(xs.length:Int)by omega) ?_)
     have hc:cellAt [[1,1024],[1,1024]] i 0=1/\cellAt [[1,1024],[1,1024]] i 1=1024:=by
       obtain rfl|rfl:i=0\/i=1:=by omega
       . exact⟨rfl,rfl⟩
       . exact⟨rfl,rfl⟩
     refine ld (fun hb=>?_) (fun hb=>?_)
     . have hb:(decide (cellAt xs i 0<cellAt [[1,1024],[1,1024]] i 0)||decide (cellAt [[1,1024],[1,1024]] i 1<cellAt xs i 0))=true:=hb;rw[hc.1,hc.2,fy,aC,aC]at hb;refine dT (rs:=[.i 4]) rfl ⟨4,rfl,by omega,fun ys e=>?_⟩
       cases e;refine⟨fun h=>by omega,fun hs=>?_⟩
       obtain⟨_,s0,s1⟩:=hs;obtain rfl|rfl:i=0\/i=1:=by omega
       . omega
       . omega
     . have hb:(decide (cellAt xs i 0<cellAt [[1,1024],[1,1024]] i 0)||decide (cellAt [[1,1024],[1,1024]] i 1<cellAt xs i 0))=false:=hb;rw[hc.1,hc.2,Bool.or_eq_false_iff,decide_eq_false_iff_not,decide_eq_false_iff_not]at hb;refine yK (show(-9223372036854775808:Int)<=i+1/\i+1<=9223372036854775807 by omega) (ko ⟨⟨q,i+1,rfl,by omega,by omega,fun h=>?_,fun h=>?_⟩,?_⟩)
       . rcases Int.lt_or_le 0 i with h5|h5
         . exact h0 (by omega)
         . obtain rfl:i=0:=by omega
           omega
       . obtain rfl:i=1:=by omega
         omega
       . show(2-(i+1)).toNat<(2-i).toNat;omega
   . have sS:(2:Int)<=i:=sS;refine dT (rs:=[.i 0]) rfl ⟨0,rfl,by omega,fun ys e=>?_⟩
     cases e;exact⟨fun _=>⟨by omega,h0 (by omega),h1 (by omega)⟩,fun _=>rfl⟩
theorem g40:lH (TT Tryz.prog) X 40 Es Et:=kS T40 fun ds hp=>o40 g64 hp
def nkR:List NK:=[.c i6,.s 3 i6]
def pN(r:List Int):Int:=r.getD 0 0
def bU(r:List Int):List (List Int):=dZ (dK nkR r 1)
def WY(m q:Int)(l:List (List Int)):Prop:=(l.length:Int)<=m/\∀r∈l,(bU r).length<=40/\(pN r=1->Sz (bU r)->cellAt (bU r) 0 0*cellAt (bU r) 1 0<=q)
def NA(ds:List DV):Prop:=∃(l:List (List Int)) (m q:Int),ds=[.l l,.i m,.i q]/\l.length<=9223372036854775807
def Er(ds rs:List DV):Prop:=∃b:Bool,rs=[.b b]/\∀l m q,ds=[.l l,.i m,.i q]->b=true->WY m q l
theorem o27{E:Nat->List DV->List DV->Prop}(h40:∀ds,Es ds->∃rs,E 40 ds rs/\Et ds rs){ds:List DV}(hp:NA ds):t27.fW E (Er ds) [] (aM.ar 0 ds) (fun _ _=>False):=by
 obtain⟨l,m,q,rfl,Y'⟩:=hp;have no:Er [.l l,.i m,.i q] [.b false]:=⟨false,rfl,fun _ _ _ _ h=>by cases h⟩
 unfold t27;refine gb (fun h=>dT (rs:=[.b false]) rfl no) (fun hm=>?_)
 have hm:(l.length:Int)<=m:=hm;refine my (fun ds=>∃(b:Bool) (i:Nat),ds=[.b b,.i i]/\i<=l.length/\∀k,k<i->(bU (l.getD k [])).length<=40/\(pN (l.getD k [])=1->Sz (bU (l.getD k []))->cellAt (bU (l.getD k [])) 0 0*cellAt (bU (l.getD k [])) 1 0<=q)) (fun| [_,.i i]=>((l.length:Int)-i).toNat|_=>0)
   ⟨false,0,rfl,by omega,fun k hk=>by omega⟩ ?_
 rintro _ ⟨b,i,rfl,hi,b8⟩;refine gb (fun cQ=>?_) (fun sS=>?_)
 . have cQ:(i:Int)<l.length:=cQ;refine nK (show(0:Int)<=i by omega) ?_
   have dX:∀e:az,e 0 = .l l->e 4 = .i i->cZ.ae e (.sub 0 (.v 4) [.c i6,.s 3 i6] 1)=bU (l.getD i []):=fun e h0 h4=>by
     simp only[cZ.ae,IE.ae,h0,h4,di,dl,Int.toNat_natCast];rfl
   obtain⟨e1,nc⟩:∃e1:az,e1=(aM.ar 0 [.l l,.i m,.i q]).ar 3 [.b b,.i i]:=⟨_,rfl⟩;have g0:e1 0 = .l l:=by rw[nc];rfl
   have g2:e1 2 = .i q:=by rw[nc];rfl
   have g3:e1 3 = .b b:=by rw[nc];rfl
   have g4:e1 4 = .i i:=by rw[nc];rfl
   rw[<- nc];refine gT (dX _ g0 g4) (gb (fun h=>dT (rs:=[.b false]) rfl no) (fun acH=>?_))
   have acH:((bU (l.getD i [])).length:Int)<=40:=acH;have ag:∀(e:az) (k:Nat) (d:DV),5<k->e 0 = .l l->e 2 = .i q->e 3 = .b b->e 4 = .i i->(e.set k d) 0 = .l l/\(e.set k d) 2 = .i q/\(e.set k d) 3 = .b b/\(e.set k d) 4 = .i i:=fun e k d hk a0 a2 a3 a4=>by
     simp only[az.set];rw[if_neg (by omega),if_neg (by omega),if_neg (by omega),if_neg (by omega)]
     exact⟨a0,a2,a3,a4⟩
   obtain⟨a0,a2,a3,a4⟩:=ag e1 6 (.l (bU (l.getD i []))) (by omega) g0 g2 g3 g4
   obtain⟨e2,tz⟩:∃e2:az,e2=e1.set 6 (.l (bU (l.getD i []))):=⟨_,rfl⟩;rw[<- tz]at a0 a2 a3 a4 ⊢;refine nK (show(0:Int)<=(e2 4).int by rw[a4];show(0:Int)<=i;omega) (JP (show(e2 4).int<((e2 0).list.length:Int)by rw[a4,a0];exact cQ) ?_)
   refine gT (dX _ a0 a4) ?_;obtain⟨b0,b2,b3,b4⟩:=ag e2 2056 (.l (bU (l.getD i []))) (by omega) a0 a2 a3 a4
   refine gT (dX _ b0 b4) ?_;obtain⟨c0,c2,c3,c4⟩:=ag _ 5128 (.l (bU (l.getD i []))) (by omega) b0 b2 b3 b4
   refine gT (dX _ c0 c4) ?_;obtain⟨d0,d2,d3,d4⟩:=ag _ 9736 (.l (bU (l.getD i []))) (by omega) c0 c2 c3 c4
   refine gT (dX _ d0 d4) ?_;obtain⟨f0,f2,f3,f4⟩:=ag _ 13320 (.l (bU (l.getD i []))) (by omega) d0 d2 d3 d4
   obtain⟨e3,wm⟩:∃e3:az,e3=((((e2.set 2056 (.l (bU (l.getD i [])))).set 5128 (.l (bU (l.getD i [])))).set 9736 (.l (bU (l.getD i [])))).set 13320 (.l (bU (l.getD i [])))):=⟨_,rfl⟩;have k1:e3 5128 = .l (bU (l.getD i [])):=by rw[wm];rfl
   have k2:e3 9736 = .l (bU (l.getD i [])):=by rw[wm];rfl
   have k3:e3 13320 = .l (bU (l.getD i [])):=by rw[wm];rfl
   rw[<- wm]at f0 f2 f3 f4 ⊢;have lu:(IE.get 0 (.v 4) 0).ae e3=pN (l.getD i []):=by
     simp only[IE.ae,f0,f4,di,dl];unfold cellAt;rw[Int.toNat_natCast];rfl
   have fin:∀(x:Int),(pN (l.getD i [])=1->(x=0↔Sz (bU (l.getD i []))))->∀e4:az,(∀k,k<5639->e4 k=e3 k)->(∀k,5639<k->e4 k=e3 k)->e4 5639 = .i x->
       (aw.ev (.aG (.or (.not (.and (.eq (.get 0 (.v 4) 0) (.c 1)) (.eq (.v 5639) (.c 0)))) (.lt (.c 0) (.len 9736)))) (
.ev (.aG (.or (.not (.and (.eq (.get 0 (.v 4) 0) (.c 1)) (.eq (.v 5639) (.c 0)))) (.lt (.c 1) (.len 13320)))) (
.ev (.aG (.or (.not (.and (.eq (.get 0 (.v 4) 0) (.c 1)) (.eq (.v 5639) (.c 0)))) (r6 (.mul (.get 9736 (.c 0) 0) (.get 13320 (.c 1) 0))))) (
.ev (.aG (.or (.not (.and (.eq (.get 0 (.v 4) 0) (.c 1)) (.eq (.v 5639) (.c 0)))) (.lt (.v 4) (.len 0)))) (
.ev (.aG (.or (.not (.and (.eq (.get 0 (.v 4) 0) (.c 1)) (.eq (.v 5639) (.c 0)))) (.le (.c 0) (.v 4)))) (
.ite (.and (.and (.eq (.get 0 (.v 4) 0) (.c 1)) (.eq (.v 5639) (.c 0))) (.lt (.v 2) (.mul (.get 9736 (.c 0) 0) (.get 13320 (.c 1) 0)))) (
.ret [.b (.c false)]) (
.ev (.aG (r6 (.add (.v 4) (.c 1)))) (
.again 27004 [.b (.v 3),.i (.add (.v 4) (.c 1))])))))))).fW E (Er [.l l,.i m,.i q]) [] e4 (ox (fun _ _=>False) 27004 (fun vs=>(∃(b:Bool) (i:Nat),vs=[.b b,.i i]/\i<=l.length/\∀k,k<i->(bU (l.getD k [])).length<=40/\(pN (l.getD k [])=1->Sz (bU (l.getD k []))->cellAt (bU (l.getD k [])) 0 0*cellAt (bU (l.getD k [])) 1 0<=q))/\(match vs with| [_,.i i]=>((l.length:Int)-i).toNat|_=>0)<((l.length:Int)-i).toNat)):=by
     intro x hx e4 lo hi4 Ub;have m0:e4 0 = .l l:=by rw[lo 0 (by omega),f0]
     have m2:e4 2 = .i q:=by rw[lo 2 (by omega),f2]
     have m3:e4 3 = .b b:=by rw[lo 3 (by omega),f3]
     have m4:e4 4 = .i i:=by rw[lo 4 (by omega),f4]
     have n2:e4 9736 = .l (bU (l.getD i [])):=by rw[hi4 9736 (by omega),k2]
     have n3:e4 13320 = .l (bU (l.getD i [])):=by rw[hi4 13320 (by omega),k3]
     have acI:(IE.get 0 (.v 4) 0).ae e4=pN (l.getD i []):=by
       simp only[IE.ae,m0,m4,di,dl];unfold cellAt;rw[Int.toNat_natCast];rfl
     have acJ:(BE.and (.eq (.get 0 (.v 4) 0) (.c 1)) (.eq (.v 5639) (.c 0))).ae e4=true->pN (l.getD i [])=1/\Sz (bU (l.getD i [])):=fun h=>by
       have h:(decide ((IE.get 0 (.v 4) 0).ae e4=1)&&decide ((e4 5639).int=0))=true:=h;rw[acI,Ub,ao,aC,aC]at h;exact⟨h.1,(hx h.1).1 h.2⟩
     have aG:∀p:BE,(pN (l.getD i [])=1/\Sz (bU (l.getD i []))->p.ae e4=true)->(BE.or (.not (.and (.eq (.get 0 (.v 4) 0) (.c 1)) (.eq (.v 5639) (.c 0)))) p).ae e4=true:=fun p hp=>by
       cases hc:(BE.and (.eq (.get 0 (.v 4) 0) (.c 1)) (.eq (.v 5639) (.c 0))).ae e4 with
       |false=>show(!((BE.and _ _).ae e4)||p.ae e4)=true;rw[hc];rfl
       |true=>show(!((BE.and _ _).ae e4)||p.ae e4)=true;rw[hp (acJ hc)];simp
     refine iA (aG _ fun h=>decide_eq_true ?_) (iA (aG _ fun h=>decide_eq_true ?_) (iA (aG _ fun h=>ka ?_) (iA (aG _ fun h=>decide_eq_true ?_) (iA (aG _ fun h=>decide_eq_true ?_) (ld (fun h=>dT (rs:=[.b false]) rfl no) (fun h=>?_))))))
     . simp only[IE.ae,n2,dl];have:=h.2.1;omega
     . simp only[IE.ae,n3,dl];have:=h.2.1;omega
     . simp only[IE.ae,n2,n3,dl];obtain⟨_,s0,s1⟩:=h.2;have:=Int.mul_le_mul s0.2 s1.2 (by omega) (by omega)
       have:=Int.mul_nonneg (show 0<=cellAt (bU (l.getD i [])) 0 0 by omega) (show 0<=cellAt (bU (l.getD i [])) 1 0 by omega)
       omega
     . simp only[IE.ae,m0,m4,di,dl];exact cQ
     . simp only[IE.ae,m4,di];omega
     . refine yK (by simp only[IE.ae,m4,di];omega) (ko ⟨⟨b,i+1,?_,by omega,fun k hk=>?_⟩,?_⟩)
       . simp only[List.map,DE.ae,IE.ae,BE.ae,m3,m4,di,db];rfl
       . rcases Nat.lt_or_ge k i with hki|hki
         . exact b8 k hki
         . obtain rfl:k=i:=by omega
           refine⟨by omega,fun h1 hs=>?_⟩
           have hc:(BE.and (.eq (.get 0 (.v 4) 0) (.c 1)) (.eq (.v 5639) (.c 0))).ae e4=true:=by
             show(decide ((IE.get 0 (.v 4) 0).ae e4=1)&&decide ((e4 5639).int=0))=true;rw[acI,Ub,ao,aC,aC];exact⟨h1,(hx h1).2 hs⟩
           have h:((BE.and (.eq (.get 0 (.v 4) 0) (.c 1)) (.eq (.v 5639) (.c 0))).ae e4&&decide ((IE.v 2).ae e4<(IE.mul (.get 9736 (.c 0) 0) (.get 13320 (.c 1) 0)).ae e4))=false:=h;rw[hc,Bool.true_and,decide_eq_false_iff_not]at h;simp only[IE.ae,m2,n2,n3,di,dl]at h;omega
       . simp only[List.map,DE.ae,IE.ae,BE.ae,m3,m4,di,db];show((l.length:Int)-(i+1)).toNat<((l.length:Int)-i).toNat;omega
   refine Rf h40 (fun hg=>?_) (fun hg rs hE hr=>?_) (fun hg=>?_)
   . have hg:decide ((IE.get 0 (.v 4) 0).ae e3=1)=true:=hg;rw[aC,lu]at hg;refine⟨bU (l.getD i []),?_,by omega⟩
     simp only[List.map,DE.ae,k1,dl,lu,hg]
   . have hg:decide ((IE.get 0 (.v 4) 0).ae e3=1)=true:=hg;rw[aC,lu]at hg;obtain⟨x,rfl,_,hx⟩:=hr;have hx:=hx (bU (l.getD i [])) (by simp only[List.map,DE.ae,k1,dl,lu,hg])
     exact fin x (fun _=>hx) _ (fun k hk=>az.aX hk) (fun k hk=>az.ej (by simp;omega)) rfl
   . have hg:decide ((IE.get 0 (.v 4) 0).ae e3=1)=false:=hg;rw[decide_eq_false_iff_not,lu]at hg;exact fin 0 (fun h=>absurd h hg) _ (fun k hk=>az.aX hk) (fun k hk=>az.ej (by show 5639+1<=k;omega)) rfl
 . have sS:(l.length:Int)<=i:=sS;refine dT (rs:=[.b true]) rfl ⟨true,rfl,fun l' m' q' e _=>?_⟩
   cases e;refine⟨hm,fun r hr=>?_⟩
   obtain⟨k,hk,rfl⟩:=List.getElem_of_mem hr;have:=b8 k (by omega)
   rwa[show l.getD k []=l[k]by simp[List.getD,hk]]at this
theorem g27:lH (TT Tryz.prog) X 27 NA Er:=kS T27 fun ds hp=>o27 g40 hp
end Go.Proofs.YtohebioanhliiaaGreatDoor.aD

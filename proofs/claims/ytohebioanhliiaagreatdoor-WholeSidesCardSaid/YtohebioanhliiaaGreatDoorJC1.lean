/- All functions come to an end, but for those shown by hand; Div64. -/
import Derived.Test.YtohebioanhliiaaGreatDoorJB1
import Derived.Test.YtohebioanhliiaaGreatDoorJB3
import Derived.Test.YtohebioanhliiaaGreatDoorJA4
import Derived.Test.YtohebioanhliiaaGreatDoorJB2
import Derived.Lib.BitFns
import Derived.Laws.Bits64b
set_option linter.unusedVariables false
set_option linter.unusedSimpArgs false
set_option maxRecDepth 100000
namespace Go.Proofs.YtohebioanhliiaaGreatDoor.aF
section
open Go.Sx
theorem wO{ae:az}{a b:IE}:((BE.le a b).af ae=true)↔a.af ae<=b.af ae:=decide_eq_true_iff
theorem wP{ae:az}{a b:IE}:((BE.lt a b).af ae=true)↔a.af ae<b.af ae:=decide_eq_true_iff
theorem wQ{ae:az}{a b:IE}:((BE.eq a b).af ae=true)↔a.af ae=b.af ae:=decide_eq_true_iff
theorem kP{ae:az}{a:BE}:((BE.not a).af ae=true)↔¬ (a.af ae=true):=by simp[BE.af]
theorem kQ{ae:az}{a b:BE}:((BE.and a b).af ae=true)↔a.af ae=true/\b.af ae=true:=by simp[BE.af]
theorem wT{ae:az}{a b:BE}:((BE.or a b).af ae=true)↔a.af ae=true\/b.af ae=true:=by simp[BE.af]
theorem IP{x y w h:IE}:gb (pix x y w h):=by
 intro ae hp;simp only[pix,bD,gE,or_false,forall_eq_or_imp,forall_eq,wO,wP,wQ,kP,kQ,wT,IE.af]at hp;simp only[pix,eG,wO,wP,wQ,kP,kQ,wT,IE.af];obtain⟨h1,h2,h3,h4,h5,h6⟩:=hp;generalize x.af ae=X at *;generalize y.af ae=Y at *;generalize w.af ae=W at *;generalize h.af ae=H at *;have a1:=sy h3 (show 0<=W by omega);have a2:=yX (show Y<=100 by omega) h5 (show 0<=W by omega) (by omega);have a3:=qF (show Y+1<=H by omega) (show 0<=W by omega);have a4:(Y+1)*W=Y*W+W:=by grind
 have a5:H*W=W*H:=ko ..;omega
theorem rR{hs:List BE}{g:BE}(h:∀ae,(∀p∈hs,p.af ae=true)->g.af ae=true):gb (hs,g):=h
theorem VJ{n:Int}(h: -9223372036854775808<=n/\n<=9223372036854775807):IntKind.i64.wrap n=n:=Er (by simpa[IntKind.min,IntKind.max,IntKind.signed,IntKind.bits]using h)
theorem tdm(a d:Int):a.tdiv d*d+a.tmod d=a:=by have:=Int.tdiv_mul_add_tmod a d;omega
theorem al9:∀l∈tg 202,gb l:=by
 intro l hl;simp only[tg,bD,gE,or_false]at hl;subst hl;refine rR fun ae hp=>?_;simp only[bD,gE,or_false,forall_eq,wO,wP,wQ,kP,kQ,wT,IE.af]at hp;simp only[eG,Ix,wO,wP,wQ,kP,kQ,wT,IE.af];have:=tdm ((ae 4).int-(ae 3).int) 2;have h1:=Int.tmod_nonneg 2 (show 0<=(ae 4).int-(ae 3).int by omega);have h2:((ae 4).int-(ae 3).int).tmod 2<2:=Int.tmod_lt_of_pos _ (by omega);omega
theorem al':∀l∈tg 221,gb l:=by
 intro l hl;simp only[tg,bD,gE,or_false]at hl;rcases hl with rfl|rfl;refine rR fun ae hp=>?_;simp only[bD,gE,or_false,forall_eq_or_imp,forall_eq,J5,imp,wO,wP,wQ,kP,kQ,wT,IE.af]at hp ⊢;omega;refine rR fun ae hp=>?_;simp only[bD,gE,or_false,forall_eq_or_imp,forall_eq,wO,wP,wQ,kP,kQ,wT,IE.af]at hp ⊢;omega
theorem ama:∀l∈tg 123,gb l:=by
 intro l hl;simp only[tg,bD,gE,or_false]at hl;subst hl;refine rR fun ae hp=>?_;simp only[bD,gE,or_false,forall_eq_or_imp,forall_eq,wO,wP,wQ,kP,kQ,wT,IE.af]at hp;simp only[eG,wO,wP,wQ,kP,kQ,wT,IE.af];exact⟨Int.tmod_lt_of_pos _ hp.1,Int.tmod_nonneg _ (by omega)⟩
theorem amb{x y:Int}(h0:1<=y)(h1:y<=9223372036854775807):(Go.IntKind.u64.wrap x).tmod (Go.IntKind.u64.wrap y)<Go.IntKind.u64.wrap y:=by
 have:Go.IntKind.u64.wrap y=y:=uJ (k:=.u64) ⟨by show(0:Int)<=y;omega,by show y<=18446744073709551615;omega⟩;rw[this];exact Int.tmod_lt_of_pos _ (by omega)
theorem amc:∀l∈tg 198,gb l:=by
 intro l hl;simp only[tg,bD,gE,or_false]at hl;rcases hl with rfl|rfl
 all_goals
   refine rR fun ae hp=>?_;simp only[bD,gE,or_false,forall_eq_or_imp,forall_eq,wO,wP,wQ,kP,kQ,wT,IE.af]at hp ⊢;exact amb hp.1 hp.2
theorem l84:∀l∈tg 84,gb l:=by
 intro l hl;simp only[tg,bD,gE,or_false]at hl;rcases hl with rfl|rfl;refine rR fun ae hp=>?_;simp only[bD,gE,or_false,forall_eq_or_imp,forall_eq,wO,wP,wQ,kP,kQ,wT,IE.af]at hp ⊢;rw[hp.1,hp.2];refine rR fun ae hp=>?_;simp only[bD,gE,or_false,forall_eq_or_imp,forall_eq,wO,wP,wQ,kP,kQ,wT,IE.af]at hp ⊢;obtain⟨h1,h2,h3,h4,h5⟩:=hp;have a3:=qF (show(ae 1570).int+1<=(ae 1).int by omega) h5;have a4:((ae 1570).int+1)*(ae 0).int=(ae 1570).int*(ae 0).int+(ae 0).int:=by grind
 have a5:(ae 1).int*(ae 0).int=(ae 0).int*(ae 1).int:=ko ..;omega
theorem l73:∀l∈tg 73,gb l:=by
 intro l hl;simp only[tg,bD,gE,or_false]at hl;subst hl;refine rR fun ae hp=>?_;simp only[bD,gE,or_false,forall_eq_or_imp,forall_eq,wO,wP,wQ,kP,kQ,wT,IE.af]at hp ⊢;rw[VJ (by omega),show((ae 6).int+1).toNat=(ae 6).int.toNat+1 by omega,Int.pow_succ];grind
theorem amd:∀l∈tg 236,gb l:=by
 intro l hl;simp only[tg,bD,gE,or_false]at hl;subst hl;exact IP
theorem l19:∀l∈tg 19,gb l:=by
 intro l hl;simp only[tg,bD,gE,or_false]at hl;subst hl;exact IP
theorem l24:∀l∈tg 24,gb l:=by
 intro l hl;simp only[tg,bD,gE,or_false]at hl;rcases hl with rfl|rfl;exact IP;refine rR fun ae hp=>?_;simp only[bD,gE,or_false,forall_eq_or_imp,forall_eq,wO,wP,wQ,kP,kQ,wT,IE.af]at hp;simp only[eG,wO,wP,wQ,kP,kQ,wT,IE.af];obtain⟨h1,h2,h3⟩:=hp;generalize cellAt (ae 95).list 0 0=A at *;generalize cellAt (ae 95).list 1 0=B at *;have a1:=o9 h2 (show 0<=A by omega);have a2:=qF h1 (show 0<=B by omega);omega
theorem ame:∀l∈tg 141,gb l:=by
 intro l hl;simp only[tg,bD,gE,or_false]at hl;subst hl;refine rR fun ae hp=>?_;simp only[bD,gE,or_false,forall_eq,wO,wP,wQ,kP,kQ,wT,IE.af]at hp;simp only[eG,lG,qt,mP,wO,wP,wQ,kP,kQ,wT,IE.af];omega
theorem amf:∀l∈tg 112,gb l:=by
 intro l hl;simp only[tg,bD,gE,or_false]at hl;subst hl;refine rR fun ae hp=>?_;simp only[bD,gE,or_false,forall_eq_or_imp,forall_eq,wO,wP,wQ,kP,kQ,wT,IE.af]at hp;simp only[eG,wO,wP,wQ,kP,kQ,wT,IE.af];generalize wA.af ae=L at *;omega
theorem XH{n d:Int}(hd:1<=d)(h1: -1073741824<=n)(h2:n<=1073741824): -1073741824<=n.tdiv d/\n.tdiv d<=1073741824/\n.tdiv d*d+n.tmod d=n/\-d<n.tmod d/\n.tmod d<d:=by
 have e:=tdm n d;have b:(n.tdiv d).natAbs<=n.natAbs:=by rw[Int.natAbs_tdiv];exact Nat.div_le_self _ _
 have c:(n.tmod d).natAbs<d.natAbs:=by rw[Int.natAbs_tmod];exact Nat.mod_lt _ (by omega)
 omega
theorem amg:∀l∈tg 204,gb l:=by
 intro l hl;simp only[tg,bD,gE,or_false]at hl;rcases hl with rfl|rfl;refine rR fun ae hp=>?_;simp only[bD,gE,or_false,forall_eq_or_imp,forall_eq,wO,wP,wQ,kP,kQ,wT,IE.af]at hp;simp only[imp,eG,lG,PM,wO,wP,wQ,kP,kQ,wT,IE.af];by_cases h: -1073741824<=(ae 0).int/\(ae 0).int<=1073741824;right;have k:=XH hp.2 h.1 h.2;have e0:=VJ (n:=(ae 0).int.tdiv (ae 1).int) (by omega);rw[e0,VJ (by omega)];have e1:(ae 1).int*((ae 0).int.tdiv (ae 1).int-1)=(ae 0).int.tdiv (ae 1).int*(ae 1).int-(ae 1).int:=by grind
 rw[e1];omega;left;omega;refine rR fun ae hp=>?_;simp only[bD,gE,or_false,forall_eq_or_imp,forall_eq,wO,wP,wQ,kP,kQ,wT,IE.af]at hp;simp only[imp,eG,lG,wO,wP,wQ,kP,kQ,wT,IE.af];by_cases h: -1073741824<=(ae 0).int/\(ae 0).int<=1073741824;right;have k:=XH hp.2 h.1 h.2;rw[VJ (by omega)];have e1:(ae 1).int*(ae 0).int.tdiv (ae 1).int=(ae 0).int.tdiv (ae 1).int*(ae 1).int:=ko ..;rw[e1];omega;left;omega
theorem amh:∀l∈tg 210,gb l:=by
 intro l hl;simp only[tg,bD,gE,or_false]at hl;subst hl;refine rR fun ae hp=>?_;simp only[wO,wP,wQ,kP,kQ,wT,IE.af];omega
theorem ami:∀l∈tg 207,gb l:=by
 intro l hl;simp only[tg,bD,gE,or_false]at hl;rcases hl with rfl|rfl;refine rR fun ae hp=>?_;simp only[bD,gE,or_false,forall_eq,dxy,wO,wP,wQ,kP,kQ,wT,IE.af]at hp ⊢;omega;refine rR fun ae hp=>?_;simp only[bD,gE,or_false,forall_eq_or_imp,forall_eq,dxy,wO,wP,wQ,kP,kQ,wT,IE.af]at hp ⊢;omega
theorem amj:∀l∈tg 134,gb l:=by
 intro l hl;simp only[tg,bD,gE,or_false]at hl;subst hl;refine rR fun ae hp=>?_;simp only[bD,gE,or_false,forall_eq_or_imp,forall_eq,wO,wP,wQ,kP,kQ,wT,IE.af]at hp;simp only[eG,wO,wP,wQ,kP,kQ,wT,IE.af];obtain⟨h1,h2,h3⟩:=hp;generalize(ae 0).int=A at *;generalize(ae 1).int=B at *;have a1:=o9 h2 (show 0<=A by omega);have a2:=qF h1 (show 0<=B by omega);omega
theorem l57:∀l∈tg 57,gb l:=by
 intro l hl;simp only[tg,bD,gE,or_false]at hl;subst hl;refine rR fun ae hp=>?_;simp only[bD,gE,or_false,forall_eq_or_imp,forall_eq,adj,imp,wO,wP,wQ,kP,kQ,wT,IE.af]at hp ⊢;obtain⟨h1,h2,h3,h4⟩:=hp;by_cases h:(ae 6).int=0;rw[h]at h3 h4;exact⟨h3,h4⟩;rcases h1 with h1|h1;omega;exact h1
theorem aw(k:Nat):∀l∈(an k).fk,gb l:=by
 show ∀l∈tg k,gb l;by_cases amk:k=202;subst amk;exact al9;by_cases aml:k=221;subst aml;exact al';by_cases Vx:k=123;subst Vx;exact ama;by_cases amm:k=198;subst amm;exact amc;by_cases h84:k=84;subst h84;exact l84;by_cases h73:k=73;subst h73;exact l73;by_cases amn:k=236;subst amn;exact amd;by_cases Xx:k=19;subst Xx;exact l19;by_cases GQ:k=24;subst GQ;exact l24;by_cases Vz:k=141;subst Vz;exact ame;by_cases Vw:k=112;subst Vw;exact amf;by_cases amo:k=204;subst amo;exact amg;by_cases amp:k=210;subst amp;exact amh;by_cases Vy:k=134;subst Vy;exact amj;by_cases h57:k=57;subst h57;exact l57;by_cases amq:k=207;subst amq;exact ami;intro l hl;unfold tg at hl;split at hl
 all_goals first|contradiction|(exact absurd hl (by simp))
end
section
open Go.Sx Go
abbrev oe(P:Program)(X:bH)(i k:Nat):Prop:=oc (TT P) X kc (ord.take i)->mb (TT P) X k (kc k).gN (kc k).ij
theorem adB{X:bH}(h7:oc (TT Tryz.prog) X kc (ord.take 7))(m47:oe Tryz.prog X 19 47)(m44:oe Tryz.prog X 20 44)(MD:oe Tryz.prog X 22 30)(ajV:oe Tryz.prog X 48 241)(m18:oe Tryz.prog X 125 18)(m57:oe Tryz.prog X 130 57)(m12:oe Tryz.prog X 160 12)(m64:oe Tryz.prog X 171 64)(m40:oe Tryz.prog X 172 40)(m27:oe Tryz.prog X 173 27)(m17:oe Tryz.prog X 174 17):oc (TT Tryz.prog) X kc (ord.take 177):=by
 have h8:=h7.next (k:=9) rfl (ax aw h7 c9)
 have h9:=h8.next (k:=56) rfl (ax aw h8 c56)
 have Xv:=h9.next (k:=37) rfl (ax aw h9 c37)
 have h11:=Xv.next (k:=23) rfl (ax aw Xv c23)
 have h12:=h11.next (k:=41) rfl (ax aw h11 c41)
 have h13:=h12.next (k:=65) rfl (ax aw h12 c65)
 have h14:=h13.next (k:=42) rfl (ax aw h13 c42)
 have h15:=h14.next (k:=28) rfl (ax aw h14 c28)
 have Xw:=h15.next (k:=100) rfl (ax aw h15 ajW)
 have h17:=Xw.next (k:=66) rfl (ax aw Xw c66)
 have h18:=h17.next (k:=43) rfl (ax aw h17 c43)
 have Xx:=h18.next (k:=29) rfl (ax aw h18 c29)
 have Nn:=Xx.next (k:=47) rfl (m47 Xx)
 have h21:=Nn.next (k:=44) rfl (m44 Nn)
 have h22:=h21.next (k:=46) rfl (ax aw h21 c46)
 have Kf:=h22.next (k:=30) rfl (MD h22)
 have GQ:=Kf.next (k:=101) rfl (ax aw Kf ajX)
 have Qd:=GQ.next (k:=67) rfl (ax aw GQ c67)
 have Fg:=Qd.next (k:=174) rfl (ax aw Qd ajY)
 have Np:=Fg.next (k:=195) rfl (ax aw Fg ajZ)
 have IG:=Np.next (k:=149) rfl (ax aw Np aj0)
 have h29:=IG.next (k:=102) rfl (ax aw IG aj1)
 have h30:=h29.next (k:=151) rfl (ax aw h29 aj2)
 have h31:=h30.next (k:=150) rfl (ax aw h30 aj3)
 have h32:=h31.next (k:=104150) rfl (ax aw h31 Vt)
 have h33:=h32.next (k:=103) rfl (ax aw h32 aj4)
 have Xy:=h33.next (k:=107) rfl (ax aw h33 aj5)
 have h35:=Xy.next (k:=106) rfl (ax aw Xy aj6)
 have h36:=h35.next (k:=104106) rfl (ax aw h35 Vu)
 have h37:=h36.next (k:=105) rfl (ax aw h36 aj7)
 have h38:=h37.next (k:=69) rfl (ax aw h37 c69)
 have h39:=h38.next (k:=109) rfl (ax aw h38 aj8)
 have h40:=h39.next (k:=155) rfl (ax aw h39 aj9)
 have h41:=h40.next (k:=139) rfl (ax aw h40 aj')
 have h42:=h41.next (k:=196) rfl (ax aw h41 c196)
 have h43:=h42.next (k:=240) rfl (ax aw h42 aka)
 have h44:=h43.next (k:=197) rfl (ax aw h43 akb)
 have h45:=h44.next (k:=156) rfl (ax aw h44 akc)
 have Kg:=h45.next (k:=110) rfl (ax aw h45 akd)
 have Cd:=Kg.next (k:=157) rfl (ax aw Kg ake)
 have h48:=Cd.next (k:=267) rfl (ax aw Cd akf)
 have h49:=h48.next (k:=241) rfl (ajV h48)
 have h50:=h49.next (k:=242) rfl (ax aw h49 akg)
 have h51:=h50.next (k:=198) rfl (ax aw h50 c198)
 have h52:=h51.next (k:=199) rfl (ax aw h51 akh)
 have h53:=h52.next (k:=158) rfl (ax aw h52 aki)
 have h54:=h53.next (k:=111) rfl (ax aw h53 akj)
 have h55:=h54.next (k:=71) rfl (ax aw h54 c71)
 have h56:=h55.next (k:=159) rfl (ax aw h55 akk)
 have h57:=h56.next (k:=200) rfl (ax aw h56 akl)
 have h58:=h57.next (k:=201) rfl (ax aw h57 akm)
 have h59:=h58.next (k:=202) rfl (ax aw h58 akn)
 have ZZ:=h59.next (k:=160) rfl (ax aw h59 ako)
 have ZY:=ZZ.next (k:=161) rfl (ax aw ZZ akp)
 have h62:=ZY.next (k:=246) rfl (ax aw ZY akq)
 have Jm:=h62.next (k:=245) rfl (ax aw h62 akr)
 have h64:=Jm.next (k:=205245) rfl (ax aw Jm Vv)
 have h65:=h64.next (k:=163) rfl (ax aw h64 aks)
 have h66:=h65.next (k:=204) rfl (ax aw h65 akt)
 have h67:=h66.next (k:=244) rfl (ax aw h66 aku)
 have h68:=h67.next (k:=203) rfl (ax aw h67 akv)
 have h69:=h68.next (k:=112) rfl (ax aw h68 akw)
 have h70:=h69.next (k:=164) rfl (ax aw h69 akx)
 have h71:=h70.next (k:=165) rfl (ax aw h70 aky)
 have h72:=h71.next (k:=210) rfl (ax aw h71 akz)
 have h73:=h72.next (k:=211) rfl (ax aw h72 akA)
 have h74:=h73.next (k:=247) rfl (ax aw h73 akB)
 have h75:=h74.next (k:=250) rfl (ax aw h74 akC)
 have h76:=h75.next (k:=251) rfl (ax aw h75 akD)
 have h77:=h76.next (k:=284) rfl (ax aw h76 akE)
 have h78:=h77.next (k:=268) rfl (ax aw h77 akF)
 have h79:=h78.next (k:=207) rfl (ax aw h78 akG)
 have h80:=h79.next (k:=208) rfl (ax aw h79 akH)
 have h81:=h80.next (k:=166) rfl (ax aw h80 akI)
 have h82:=h81.next (k:=168) rfl (ax aw h81 akJ)
 have h83:=h82.next (k:=170) rfl (ax aw h82 akK)
 have h84:=h83.next (k:=213) rfl (ax aw h83 akL)
 have h85:=h84.next (k:=171) rfl (ax aw h84 akM)
 have h86:=h85.next (k:=172) rfl (ax aw h85 akN)
 have h87:=h86.next (k:=113) rfl (ax aw h86 akO)
 have h88:=h87.next (k:=72) rfl (ax aw h87 c72)
 have h89:=h88.next (k:=114) rfl (ax aw h88 akP)
 have h90:=h89.next (k:=115) rfl (ax aw h89 akQ)
 have h91:=h90.next (k:=117) rfl (ax aw h90 akR)
 have h92:=h91.next (k:=173) rfl (ax aw h91 akS)
 have h93:=h92.next (k:=73) rfl (ax aw h92 c73)
 have h94:=h93.next (k:=118) rfl (ax aw h93 akT)
 have h95:=h94.next (k:=119) rfl (ax aw h94 c119)
 have h96:=h95.next (k:=214) rfl (ax aw h95 akU)
 have h97:=h96.next (k:=215) rfl (ax aw h96 akV)
 have h98:=h97.next (k:=216) rfl (ax aw h97 akW)
 have h99:=h98.next (k:=175) rfl (ax aw h98 akX)
 have adF:=h99.next (k:=121) rfl (ax aw h99 akY)
 have adG:=adF.next (k:=120) rfl (ax aw adF akZ)
 have adH:=adG.next (k:=220) rfl (ax aw adG ak0)
 have adI:=adH.next (k:=176) rfl (ax aw adH ak1)
 have adJ:=adI.next (k:=269) rfl (ax aw adI ak2)
 have adK:=adJ.next (k:=252) rfl (ax aw adJ ak3)
 have adL:=adK.next (k:=270) rfl (ax aw adK ak4)
 have adM:=adL.next (k:=271) rfl (ax aw adL ak5)
 have adN:=adM.next (k:=253) rfl (ax aw adM ak6)
 have adO:=adN.next (k:=221) rfl (ax aw adN ak7)
 have adP:=adO.next (k:=222) rfl (ax aw adO ak8)
 have adQ:=adP.next (k:=272) rfl (ax aw adP ak9)
 have Vw:=adQ.next (k:=273) rfl (ax aw adQ ak')
 have adR:=Vw.next (k:=254) rfl (ax aw Vw ala)
 have adS:=adR.next (k:=223) rfl (ax aw adR alb)
 have adT:=adS.next (k:=224) rfl (ax aw adS alc)
 have adU:=adT.next (k:=225) rfl (ax aw adT ald)
 have adV:=adU.next (k:=177) rfl (ax aw adU ale)
 have adW:=adV.next (k:=122) rfl (ax aw adV alf)
 have adX:=adW.next (k:=123) rfl (ax aw adW alg)
 have adY:=adX.next (k:=124) rfl (ax aw adX alh)
 have adZ:=adY.next (k:=74) rfl (ax aw adY c74)
 have ad0:=adZ.next (k:=152) rfl (ax aw adZ ali)
 have Vx:=ad0.next (k:=153) rfl (ax aw ad0 alj)
 have ad1:=Vx.next (k:=154) rfl (ax aw Vx alk)
 have ad2:=ad1.next (k:=108) rfl (ax aw ad1 alm)
 have ad3:=ad2.next (k:=18) rfl (m18 ad2)
 have Vq:=ad3.next (k:=186) rfl (ax aw ad3 aln)
 have ad4:=Vq.next (k:=132) rfl (ax aw Vq alo)
 have ad5:=ad4.next (k:=133) rfl (ax aw ad4 alp)
 have ad6:=ad5.next (k:=80) rfl (ax aw ad5 c80)
 have ad7:=ad6.next (k:=57) rfl (m57 ad6)
 have ad8:=ad7.next (k:=59) rfl (ax aw ad7 c59)
 have ad9:=ad8.next (k:=135) rfl (ax aw ad8 alq)
 have Vy:=ad9.next (k:=136) rfl (ax aw ad9 alr)
 have ad':=Vy.next (k:=137) rfl (ax aw Vy als)
 have aea:=ad'.next (k:=84) rfl (ax aw ad' c84)
 have aeb:=aea.next (k:=86) rfl (ax aw aea c86)
 have aec:=aeb.next (k:=88) rfl (ax aw aeb c88)
 have aed:=aec.next (k:=187) rfl (ax aw aec alu)
 have aee:=aed.next (k:=143) rfl (ax aw aed alv)
 have Vz:=aee.next (k:=141) rfl (ax aw aee alw)
 have aef:=Vz.next (k:=90) rfl (ax aw Vz c90)
 have aeg:=aef.next (k:=91) rfl (ax aw aef c91)
 have aeh:=aeg.next (k:=144) rfl (ax aw aeg alx)
 have aei:=aeh.next (k:=188) rfl (ax aw aeh aly)
 have aej:=aei.next (k:=145) rfl (ax aw aei alz)
 have aek:=aej.next (k:=92) rfl (ax aw aej c92)
 have ael:=aek.next (k:=93) rfl (ax aw aek c93)
 have aem:=ael.next (k:=94) rfl (ax aw ael c94)
 have aen:=aem.next (k:=134) rfl (ax aw aem alA)
 have aeo:=aen.next (k:=193) rfl (ax aw aen c193)
 have aep:=aeo.next (k:=232) rfl (ax aw aeo alB)
 have aeq:=aep.next (k:=233) rfl (ax aw aep alC)
 have aer:=aeq.next (k:=235) rfl (ax aw aeq alD)
 have aes:=aer.next (k:=264) rfl (ax aw aer alE)
 have aet:=aes.next (k:=236) rfl (ax aw aes alF)
 have aeu:=aet.next (k:=265) rfl (ax aw aet alG)
 have aev:=aeu.next (k:=237) rfl (ax aw aeu alH)
 have aew:=aev.next (k:=262) rfl (ax aw aev alI)
 have aex:=aew.next (k:=24) rfl (ax aw aew acA)
 have aey:=aex.next (k:=12) rfl (m12 aex)
 have aez:=aey.next (k:=55) rfl (ax aw aey c55)
 have aeA:=aez.next (k:=11) rfl (ax aw aez c11)
 have aeB:=aeA.next (k:=21) rfl (ax aw aeA c21)
 have aeC:=aeB.next (k:=13) rfl (ax aw aeB c13)
 have aeD:=aeC.next (k:=14) rfl (ax aw aeC c14)
 have aeE:=aeD.next (k:=25) rfl (ax aw aeD c25)
 have aeF:=aeE.next (k:=15) rfl (ax aw aeE c15)
 have VA:=aeF.next (k:=26) rfl (ax aw aeF c26)
 have aeG:=VA.next (k:=16) rfl (ax aw VA c16)
 have aeH:=aeG.next (k:=99) rfl (ax aw aeG c99)
 have aeI:=aeH.next (k:=64) rfl (m64 aeH)
 have aeJ:=aeI.next (k:=40) rfl (m40 aeI)
 have aeK:=aeJ.next (k:=27) rfl (m27 aeJ)
 have aeL:=aeK.next (k:=17) rfl (m17 aeK)
 have aeM:=aeL.next (k:=34) rfl (ax aw aeL c34)
 have alJ:=aeM.next (k:=20) rfl (ax aw aeM c20)
 exact alJ
end
section
open Go.Sx
def iv(a:Nat):Nat->List DE
 |0=>[]
 |n+1=>.i (.v a)::iv (a+1) n
def r6(x:IE):BE:=.and (.le (.c (-9223372036854775808)) x) (.le x (.c 9223372036854775807))
def ns(l:List BE)(t:au):au:=l.foldr (fun p t=>.ev (.aG p) t) t
section
variable {E:Nat->List DV->List DV->Prop}{R:List DV->Prop}{Ps:List (Int->Prop)}{ae:az}{F:Nat->List DV->Prop}{t t':au}
theorem mA{x:IE}(h: -9223372036854775808<=x.af ae/\x.af ae<=9223372036854775807):(r6 x).af ae=true:=by
 simp only[r6,BE.af,IE.af,ao];exact⟨gQ h.1,gQ h.2⟩
theorem zc{x:IE}(h: -9223372036854775808<=x.af ae/\x.af ae<=9223372036854775807)(ht:t.gC E R Ps ae F):(au.ev (.aG (r6 x)) t).gC E R Ps ae F:=jP (mA h) ht
theorem IL:∀ {l:List BE},(∀p∈l,p.af ae=true)->t.gC E R Ps ae F->(ns l t).gC E R Ps ae F
 | [],_,ht=>ht
 |p::l,h,ht=>jP (h p (aK ..)) (IL (fun q hq=>h q (bl _ hq)) ht)
theorem MF{a b:IE}(h:a.af ae<b.af ae)(ht:t.gC E R Ps ae F):(au.ev (.aG (.lt a b)) t).gC E R Ps ae F:=jP (gQ h) ht
theorem pq{a b:IE}(h:a.af ae<=b.af ae)(ht:t.gC E R Ps ae F):(au.ev (.aG (.le a b)) t).gC E R Ps ae F:=jP (gQ h) ht
theorem Qp{id vA:Nat}{bG:List DE}{G G':List DV->Prop}(cQ:Nat.beq id vA=false)(h:G (bG.map (DE.af ae))):(au.again id bG).gC E R Ps ae (lN (lN F id G) vA G'):=by
 have cQ:id≠vA:=fun e=>by subst e;simp at cQ
 simpa[au.gC,lN,cQ]using h
theorem gZ{a b:IE}(h1:a.af ae<b.af ae->t.gC E R Ps ae F)(h2:b.af ae<=a.af ae->t'.gC E R Ps ae F):(au.ite (.lt a b) t t').gC E R Ps ae F:=
 lY (fun h=>h1 (mC h)) (fun h=>h2 (Int.not_lt.1 (Fc h)))
theorem dW{a b:IE}(h1:a.af ae=b.af ae->t.gC E R Ps ae F)(h2:a.af ae≠b.af ae->t'.gC E R Ps ae F):(au.ite (.eq a b) t t').gC E R Ps ae F:=
 lY (fun h=>h1 (mC h)) (fun h=>h2 (Fc h))
theorem og{c:BE}(h1:c.af ae=false->t.gC E R Ps ae F)(h2:c.af ae=true->t'.gC E R Ps ae F):(au.ite (.not c) t t').gC E R Ps ae F:=
 lY (fun h=>h1 (by simpa[BE.af]using h)) (fun h=>h2 (by simpa[BE.af]using h))
theorem dN{bG:List DE}{rs:List DV}(e:bG.map (DE.af ae)=rs)(h:R rs):(au.ret bG).gC E R Ps ae F:=by
 subst e;exact h
end
theorem dl{xs:List (List Int)}:(DV.l xs).list=xs:=rfl
theorem di{n:Int}:(DV.i n).int=n:=rfl
theorem db{b:Bool}:(DV.b b).bool=b:=rfl
def eK(l:List Int):List (List Int):=l.map fun x=>[x]
theorem dz{l:List Int}:(eK l).length=l.length:=ot ..
theorem A0{l:List Int}{i:Int}(h0:0<=i)(h1:i<l.length):cellAt (eK l) i 0=l.getD i.toNat 0:=by
 unfold cellAt eK;have:i.toNat<l.length:=by omega
 simp[List.getD,this]
theorem wG{l:List Int}{i:Int}{x:Int}:setAt (eK l) i 0 x=eK (l.set i.toNat x):=by
 unfold setAt eK;refine List.ext_getElem? fun k=>?_;simp only[List.getElem?_modify,jt,List.getElem?_set];by_cases e:i.toNat=k;subst e;rcases mS i.toNat l.length with h|h;simp[h,nL];simp[h,Nat.not_lt.2 h];simp[e]
theorem Bb{n:Nat}{x:Int}:List.replicate n [x]=eK (List.replicate n x):=by simp[eK]
theorem A1{l:List Int}{i:Nat}(h:i<l.length):l.getD i 0∈l:=by
 simp[List.getD,h]
end
end Go.Proofs.YtohebioanhliiaaGreatDoor.aF
namespace Go.Sx.EJ
def b:Int:=4294967296
structure Inv(a c p r q h:Int):Prop where
 rest:h=a-q*p
 up:(a*b+c)/(p*b+r)<=q
 h0:0<=h
theorem Gx{a c p r q h:Int}(hp:2147483648<=p)(Ms:p<b)(dZ:0<=r)(hr:r<b)(wN:0<=c)(hc:c<b)(J6:0<=a)(hi:Inv a c p r q h)(ht:q*r<=b*h+c):q=(a*b+c)/(p*b+r):=by
 have hv:0<p*b+r:=by unfold b at *;omega
 have h1:q*(p*b+r)<=a*b+c:=by
   have e:q*(p*b+r)=q*p*b+q*r:=by grind
   have e2:b*h=a*b-q*p*b:=by rw[hi.rest];grind
   omega
 have h2:=Int.le_ediv_of_mul_le hv h1;have:=hi.up;omega
theorem PN{a c p r:Int}(hp:2147483648<=p)(dZ:0<=r)(wN:0<=c)(hc:c<b)(J6:0<=a):Inv a c p r (a/p) (a-a/p*p):=by
 have hv:0<p*b+r:=by unfold b at *;omega
 refine⟨rfl,?_,?_⟩;have h1:=xp a (show 0<p by omega);have h2:a-a/p*p<p:=by have:=Int.emod_add_mul_ediv a p;have e:p*(a/p)=a/p*p:=ko ..;omega
 have h3:(a*b+c)/(p*b+r)<a/p+1:=by
   refine DS hv ?_;have q0:=uU J6 (show 0<=p by omega);have e1:(a/p+1)*(p*b+r)=(a/p*p+p)*b+(a/p+1)*r:=by grind
   have e2:=sy (show 0<=a/p+1 by omega) dZ;have e3:a+1<=a/p*p+p:=by omega
   have e4:=qF e3 (show 0<=b by unfold b;omega);have e5:(a+1)*b=a*b+b:=by grind
   omega
 omega;have:=Int.ediv_mul_le a (show p≠0 by omega);omega
theorem Vb{a c p r q h:Int}(hp:2147483648<=p)(dZ:0<=r)(wN:0<=c)(J6:0<=a)(cJ:a*b+c<(p*b+r)*b)(hi:Inv a c p r q h)(ht:b<=q\/b*h+c<q*r):Inv a c p r (q-1) (h+p):=by
 have hv:0<p*b+r:=by unfold b at *;omega
 have hq:(a*b+c)/(p*b+r)<q:=by
   rcases ht with ht|ht;have:(a*b+c)/(p*b+r)<b:=DS hv (by have:b*(p*b+r)=(p*b+r)*b:=ko ..;omega);omega;refine DS hv ?_;have e:q*(p*b+r)=q*p*b+q*r:=by grind
   have e2:b*h=a*b-q*p*b:=by rw[hi.rest];grind
   omega
 refine⟨?_,by omega,?_⟩;rw[hi.rest];grind;have:=hi.h0;omega
theorem Vd{a c p r q h:Int}(hp:2147483648<=p)(Ms:p<b)(dZ:0<=r)(hr:r<b)(wN:0<=c)(hc:c<b)(J6:0<=a)(cJ:a<p*b+r)(hi:Inv a c p r q h)(hh:b<=h)(Xu:0<=q):q=(a*b+c)/(p*b+r):=by
 refine Gx hp Ms dZ hr wN hc J6 hi ?_;have hq:q<=b:=by
   rcases Int.lt_or_le b q with h1|h1;have e1:=qF (show b+1<=q by omega) (show 0<=p by omega);have e2:(b+1)*p=p*b+p:=by grind
   have:=hi.rest;unfold b at *;omega;exact h1
 have e1:=qF hq dZ;have e2:=o9 hh (show 0<=b by unfold b;omega);have e3:=o9 (show r<=b by omega) (show 0<=b by unfold b;omega);omega
theorem G4:∀f x:Nat,x<2 ^ f->x<2 ^ Lib.bitLenAux f x/\(x≠0->2 ^ Lib.bitLenAux f x<=2*x)
 |0,x,h=>⟨by simpa[Lib.bitLenAux]using h,fun h'=>by simp at h;omega⟩
 | f+1,x,h=>by
   rw[Lib.bitLenAux];split;rename_i h0;subst h0;exact⟨by decide,fun h=>absurd rfl h⟩;rename_i h0;have h2:x/2<2 ^ f:=by rw[Nat.pow_succ]at h;omega
   obtain⟨i1,i2⟩:=G4 f (x/2) h2;rw[Nat.add_comm,Nat.pow_succ];refine⟨by omega,fun _=>?_⟩;rcases Nat.eq_zero_or_pos (x/2)with e|e;have:Lib.bitLenAux f (x/2)=0:=by
     rw[e];cases f<;>simp[Lib.bitLenAux]
   rw[this];omega;have:=i2 (by omega);omega
theorem Ve{y:Int}(h0:1<=y)(h1:y<18446744073709551616):∃s:Nat,(64-(Lib.bitLen y.toNat:Int))=s/\s<=63/\9223372036854775808<=y*2 ^ s/\y*2 ^ s<18446744073709551616:=by
 obtain⟨i1,i2⟩:=G4 64 y.toNat (by omega);have e2:=i2 (by omega);have hle:Lib.bitLenAux 64 y.toNat<=64:=by
   rcases mS 64 (Lib.bitLenAux 64 y.toNat)with h|h;have:=Nat.pow_le_pow_right (show 0<2 by omega) (show 65<=Lib.bitLenAux 64 y.toNat by omega);omega;exact h
 have mK:1<=Lib.bitLenAux 64 y.toNat:=by
   rcases Nat.eq_zero_or_pos (Lib.bitLenAux 64 y.toNat)with h|h;rw[h]at i1;omega;exact h
 refine⟨64-Lib.bitLenAux 64 y.toNat,by unfold Lib.bitLen;omega,by omega,?_,?_⟩
 all_goals
   have ey:y=(y.toNat:Int):=by omega
   have ep:2 ^ Lib.bitLenAux 64 y.toNat*2 ^ (64-Lib.bitLenAux 64 y.toNat)=2 ^ 64:=by rw[<- Nat.pow_add];congr 1;omega
   generalize Lib.bitLenAux 64 y.toNat=k at *;generalize y.toNat=x at *;subst ey;have hp:0<2 ^ (64-k):=Nat.pow_pos (by omega);have c1:=Nat.mul_lt_mul_of_pos_right i1 hp;have c2:=xf (2 ^ (64-k)) e2;rw[ep]at c1 c2;have c3:2*x*2 ^ (64-k)=2*(x*2 ^ (64-k)):=Nat.mul_assoc ..;have c4:((x*2 ^ (64-k):Nat):Int)=(x:Int)*2 ^ (64-k):=by push_cast;rfl
   rw[<- c4];omega
theorem adk{hi lo:Int}{s:Nat}(hs:s<=64)(h0:0<=lo)(h1:lo<18446744073709551616):(hi*2 ^ s+lo/2 ^ (64-s))*18446744073709551616+(lo*2 ^ s)%18446744073709551616=(hi*18446744073709551616+lo)*2 ^ s/\0<=lo/2 ^ (64-s)/\lo/2 ^ (64-s)<2 ^ s:=by
 have ep:(2:Int) ^ (64-s)*2 ^ s=18446744073709551616:=by rw[<- Int.pow_add];rw[show 64-s+s=64 by omega];rfl
 have p1:(0:Int)<2 ^ (64-s):=Int.pow_pos (by omega);have p2:(0:Int)<2 ^ s:=Int.pow_pos (by omega);have d:=Int.emod_add_mul_ediv lo (2 ^ (64-s));have m0:=yM lo (show(2:Int) ^ (64-s)≠0 by omega);have m1:=xp lo p1;have q0:=uU h0 (show(0:Int)<=2 ^ (64-s)by omega);have q1:lo/2 ^ (64-s)<2 ^ s:=DS p1 (by rw[ko,ep];exact h1);generalize lo/2 ^ (64-s)=h at *;generalize lo%2 ^ (64-s)=l at *;generalize(2:Int) ^ (64-s)=B at *;generalize(2:Int) ^ s=P at *;have e1:lo*P=h*18446744073709551616+l*P:=by
   rw[<- d,<- ep];grind
 have l0:=sy m0 (show 0<=P by omega);have l1:l*P<18446744073709551616:=by
   rw[<- ep];exact Int.mul_lt_mul_of_pos_right m1 p2
 have e2:(lo*P)%18446744073709551616=l*P:=by
   rw[e1];omega
 refine⟨?_,q0,q1⟩;rw[e2];have e3:(hi*P+h)*18446744073709551616+l*P=hi*P*18446744073709551616+(h*18446744073709551616+l*P):=by grind
 rw[e3,<- e1];grind
theorem join{N y P Y A c d q1 q0:Int}(hP:0<P)(hy:0<y)(hY:Y=y*P)(hN:A*(b*b)+(c*b+d)=N*P)(KW:q1=(A*b+c)/Y)(Xu:q0=((A*b+c-q1*Y)*b+d)/Y) :
   q1*b+q0=N/y/\((A*b+c-q1*Y)*b+d-q0*Y)/P=N%y/\(A*b+c-q1*Y)*b+d-q0*Y=N%y*P:=by
 have hYp:0<Y:=by rw[hY];exact Int.mul_pos hy hP
 have r0:=yM ((A*b+c-q1*Y)*b+d) (show Y≠0 by omega);have r1:=xp ((A*b+c-q1*Y)*b+d) hYp;have e:=Int.emod_add_mul_ediv ((A*b+c-q1*Y)*b+d) Y;rw[<- Xu]at e;have hr:(A*b+c-q1*Y)*b+d-q0*Y=((A*b+c-q1*Y)*b+d)%Y:=by
   have:Y*q0=q0*Y:=ko ..;omega
 have hk:(A*b+c-q1*Y)*b+d-q0*Y=(N-(q1*b+q0)*y)*P:=by
   have:(N-(q1*b+q0)*y)*P=N*P-(q1*b+q0)*(y*P):=by grind
   rw[this,<- hN,<- hY];grind
 generalize(A*b+c-q1*Y)*b+d-q0*Y=R at *;generalize((A*b+c-q1*Y)*b+d)%Y=R' at *;subst hr;have k0:0<=N-(q1*b+q0)*y:=by
   rcases Int.lt_or_le (N-(q1*b+q0)*y) 0 with h|h;have:=Int.mul_lt_mul_of_pos_right h hP;omega;exact h
 have k1:N-(q1*b+q0)*y<y:=by
   rcases Int.lt_or_le (N-(q1*b+q0)*y) y with h|h;exact h;have:=qF h (show 0<=P by omega);omega
 have hm:N%y=N-(q1*b+q0)*y:=by
   have:=Int.emod_emod_of_dvd N (Int.dvd_refl y);have e3:N=(N-(q1*b+q0)*y)+y*(q1*b+q0):=by grind
   rw[e3,Int.add_mul_emod_self_left];rw[Int.emod_eq_of_lt k0 k1];grind
 refine⟨?_,?_,?_⟩;have:=Int.emod_add_mul_ediv N y;have e4:y*(N/y)=y*(q1*b+q0):=by
   have:y*(q1*b+q0)=(q1*b+q0)*y:=ko ..;omega
 exact(Int.eq_of_mul_eq_mul_left (by omega) e4).symm;rw[hk,Int.mul_ediv_cancel _ (by omega),hm];rw[hk,hm]
end Go.Sx.EJ
namespace Go.Proofs.YtohebioanhliiaaGreatDoor.aF
section
open Go.Sx Go Go.Sx.EJ
abbrev bE:IE:=.c 4294967296
def sE:IE:=.wrap .u64 (.v 3)
def yE:IE:=.wrap .u64 (.shl (.v 2) sE)
def pE:IE:=.ediv yE 4294967296
def rE:IE:=.emod yE 4294967296
def aE:IE:=.bits .or .u64 (.wrap .u64 (.shl (.v 0) sE)) (.shr (.v 1) (.wrap .u64 (.sub (.c 64) sE)))
def lE:IE:=.wrap .u64 (.shl (.v 1) sE)
def cE:IE:=.ediv lE 4294967296
def dE:IE:=.emod lE 4294967296
def uE(q:IE):IE:=.wrap .u64 (.sub (.wrap .u64 (.add (.wrap .u64 (.mul aE bE)) cE)) (.wrap .u64 (.mul q yE)))
def ZI(q q0:IE):IE:=.shr (.wrap .u64 (.sub (.wrap .u64 (.add (.wrap .u64 (.mul (uE q) bE)) dE)) (.wrap .u64 (.mul q0 yE)))) sE
def ZJ(q q0:IE):au:=.ev (.aG (.le (.c 0) sE)) (.ev (.aG (.le sE (.c 64))) (.ret [.i (.wrap .u64 (.add (.wrap .u64 (.mul q bE)) q0)),.i (ZI q q0)]))
def inT(q:IE):au:=.ev (.aG (.tu pE)) (
.loop 241024 [.i (.wrap .u64 (.sub (uE q) (.wrap .u64 (.mul (.wrap .u64 (.tdiv (uE q) pE)) pE)))),.i (.wrap .u64 (.tdiv (uE q) pE))] [.c (.i .u64),.c (.i .u64)] 6 (
.ite (.or (.le bE (.v 7)) (.lt (.wrap .u64 (.add (.wrap .u64 (.mul bE (.v 6))) dE)) (.wrap .u64 (.mul (.v 7) rE)))) (
.ite (.le bE (.wrap .u64 (.add (.v 6) pE))) (ZJ q (.wrap .u64 (.sub (.v 7) (.c 1)))) (
.again 241024 [.i (.wrap .u64 (.add (.v 6) pE)),.i (.wrap .u64 (.sub (.v 7) (.c 1)))])) (
 ZJ q (.v 7))))
def t241:au:=
.ite (.eq (.v 2) (.c 0)) (
.stuck "") (
.ite (.le (.v 2) (.v 0)) (
.stuck "") (
.ite (.eq (.v 0) (.c 0)) (
.ev (.aG (.tu (.v 2))) (
.ret [.i (.wrap .u64 (.tdiv (.v 1) (.v 2))),.i (.tmod (.v 1) (.v 2))])) (
.ev (.call 267 (.c true) [.i (.v 2)] [.one (.c (.i .i64))] 3) (
.ev (.aG (.le (.c 0) sE)) (
.ev (.aG (.le sE (.c 64))) (
.ev (.aG (.le (.c 0) (.wrap .u64 (.sub (.c 64) sE)))) (
.ev (.aG (.le (.wrap .u64 (.sub (.c 64) sE)) (.c 64))) (
.ev (.aG (.tu pE)) (
.loop 241017 [.i (.wrap .u64 (.tdiv aE pE)),.i (.wrap .u64 (.sub aE (.wrap .u64 (.mul (.wrap .u64 (.tdiv aE pE)) pE))))] [.c (.i .u64),.c (.i .u64)] 4 (
.ite (.or (.le bE (.v 4)) (.lt (.wrap .u64 (.add (.wrap .u64 (.mul bE (.v 5))) cE)) (.wrap .u64 (.mul (.v 4) rE)))) (
.ite (.le bE (.wrap .u64 (.add (.v 5) pE))) (inT (.wrap .u64 (.sub (.v 4) (.c 1)))) (
.again 241017 [.i (.wrap .u64 (.sub (.v 4) (.c 1))),.i (.wrap .u64 (.add (.v 5) pE))])) (
 inT (.v 4))))))))))))
theorem aji:TT Tryz.prog 241=some ⟨241,t241,(rowOf 241).sub⟩:=by kernel_rfl
def t267:au:=.ev (.call 283 (.c true) [.i (.v 0)] [.one (.c (.i .i64))] 1) (.ev (.aG (r6 (.sub (.c 64) (.v 1)))) (.ret [.i (.sub (.c 64) (.v 1))]))
theorem ajj:TT Tryz.prog 267=some ⟨267,t267,(rowOf 267).sub⟩:=by kernel_rfl
theorem wu(n:Int):IntKind.u64.wrap n=n%18446744073709551616:=IntKind.wrap_u64 n
theorem wid{n:Int}(h0:0<=n)(h1:n<18446744073709551616):IntKind.u64.wrap n=n:=by rw[wu];exact Int.emod_eq_of_lt h0 h1
structure Nm(hi lo y:Int)(k:Nat):Prop where
 rK:0<=hi
 cJ:hi<y
 lo0:0<=lo
 lo1:lo<18446744073709551616
 hk:k<=63
 n0:9223372036854775808<=y*2 ^ k
 n1:y*2 ^ k<18446744073709551616
def Yv(y:Int)(k:Nat):Int:=y*2 ^ k
def Av(hi lo:Int)(k:Nat):Int:=hi*2 ^ k+lo/2 ^ (64-k)
def Lv(lo:Int)(k:Nat):Int:=(lo*2 ^ k)%18446744073709551616
def pv(y:Int)(k:Nat):Int:=Yv y k/4294967296
def rv(y:Int)(k:Nat):Int:=Yv y k%4294967296
def cv(lo:Int)(k:Nat):Int:=Lv lo k/4294967296
def dv(lo:Int)(k:Nat):Int:=Lv lo k%4294967296
structure Vf(e:az)(hi lo y:Int)(k:Nat):Prop where
 h0:e 0 = .i hi
 h1:e 1 = .i lo
 h2:e 2 = .i y
 h3:e 3 = .i k
section
variable {e:az}{hi lo y:Int}{k:Nat}
theorem Vf.av(h:Vf e hi lo y k){j:Nat}(hj:4<=j)(ds:List DV):Vf (e.av j ds) hi lo y k:=
 ⟨by rw[az.bd (by omega)];exact h.h0,by rw[az.bd (by omega)];exact h.h1,by rw[az.bd (by omega)];exact h.h2,by rw[az.bd (by omega)];exact h.h3⟩
theorem ZK(k:Nat):(1:Int)<=2 ^ k:=Int.pow_pos (by omega)
theorem Nm.A(n:Nm hi lo y k):0<=Av hi lo k/\Av hi lo k<Yv y k/\Av hi lo k*18446744073709551616+Lv lo k=(hi*18446744073709551616+lo)*2 ^ k/\0<=lo/2 ^ (64-k)/\lo/2 ^ (64-k)<2 ^ k/\0<=hi*2 ^ k:=by
 obtain⟨m1,m2,m3⟩:=adk (hi:=hi) (s:=k) (by have:=n.hk;omega) n.lo0 n.lo1;have p1:=ZK k;have e1:=qF (show hi+1<=y from n.cJ) (show(0:Int)<=2 ^ k by omega);have e2:(hi+1)*2 ^ k=hi*2 ^ k+2 ^ k:=by grind
 have e3:=sy n.rK (show(0:Int)<=2 ^ k by omega);refine⟨?_,?_,m1,m2,m3,e3⟩;show 0<=hi*2 ^ k+lo/2 ^ (64-k);omega;show hi*2 ^ k+lo/2 ^ (64-k)<y*2 ^ k;omega
theorem Nm.L(n:Nm hi lo y k):(0<=cv lo k/\cv lo k<4294967296)/\(0<=dv lo k/\dv lo k<4294967296)/\Lv lo k=cv lo k*4294967296+dv lo k:=by
 have:0<=Lv lo k/\Lv lo k<18446744073709551616:=by unfold Lv;omega
 unfold cv dv;omega
theorem Nm.P(n:Nm hi lo y k):(2147483648<=pv y k/\pv y k<4294967296)/\(0<=rv y k/\rv y k<4294967296)/\Yv y k=pv y k*4294967296+rv y k/\9223372036854775808<=Yv y k/\Yv y k<18446744073709551616:=by
 have h0:9223372036854775808<=Yv y k:=n.n0;have h1:Yv y k<18446744073709551616:=n.n1;unfold pv rv;omega
theorem dS(v:Vf e hi lo y k)(n:Nm hi lo y k):sE.af e=(k:Int):=by
 show IntKind.u64.wrap (e 3).int=k;rw[v.h3];have:=n.hk;exact wid (by show(0:Int)<=k;omega) (by show(k:Int)<18446744073709551616;omega)
theorem dY(v:Vf e hi lo y k)(n:Nm hi lo y k):yE.af e=Yv y k:=by
 show IntKind.u64.wrap ((e 2).int*2 ^ (sE.af e).toNat)=y*2 ^ k;rw[v.h2,dS v n,qm];have:=n.n0;have:=n.n1;exact wid (by show 0<=y*2 ^ k;omega) (by show y*2 ^ k<18446744073709551616;omega)
theorem dP(v:Vf e hi lo y k)(n:Nm hi lo y k):pE.af e=pv y k:=by
 show yE.af e/4294967296=Yv y k/4294967296;rw[dY v n]
theorem dR(v:Vf e hi lo y k)(n:Nm hi lo y k):rE.af e=rv y k:=by
 show yE.af e%4294967296=Yv y k%4294967296;rw[dY v n]
theorem dL(v:Vf e hi lo y k)(n:Nm hi lo y k):lE.af e=Lv lo k:=by
 show IntKind.u64.wrap ((e 1).int*2 ^ (sE.af e).toNat)=(lo*2 ^ k)%18446744073709551616;rw[v.h1,dS v n,qm,wu];rfl
theorem dC(v:Vf e hi lo y k)(n:Nm hi lo y k):cE.af e=cv lo k:=by
 show lE.af e/4294967296=Lv lo k/4294967296;rw[dL v n]
theorem dD(v:Vf e hi lo y k)(n:Nm hi lo y k):dE.af e=dv lo k:=by
 show lE.af e%4294967296=Lv lo k%4294967296;rw[dL v n]
theorem dA(v:Vf e hi lo y k)(n:Nm hi lo y k):aE.af e=Av hi lo k:=by
 show Go.bits .or .u64 (IntKind.u64.wrap ((e 0).int*2 ^ (sE.af e).toNat)) ((e 1).int/2 ^ (IntKind.u64.wrap (64-sE.af e)).toNat)=Av hi lo k;obtain⟨a0,a1,_,a3,a4,a5⟩:=n.A;obtain⟨_,_,_,_,y1⟩:=n.P;have hk:=n.hk;rw[v.h0,v.h1,dS v n,qm,show IntKind.u64.wrap (64-(k:Int))=((64-k:Nat):Int)by rw[wid (by omega) (by omega)];omega,qm];unfold Av at a0 a1 ⊢;show Go.bits .or .u64 (IntKind.u64.wrap (hi*2 ^ k)) (lo/2 ^ (64-k))=hi*2 ^ k+lo/2 ^ (64-k);rw[wid a5 (by omega)];show Go.bits .or .u64 (hi*2 ^ k) (lo/2 ^ (64-k))=hi*2 ^ k+lo/2 ^ (64-k);obtain⟨x,hx⟩:∃x:Nat,hi=x:=⟨hi.toNat,by have:=n.rK;omega⟩;obtain⟨z,hz⟩:∃z:Nat,lo/2 ^ (64-k)=z:=⟨(lo/2 ^ (64-k)).toNat,by omega⟩;subst hx;rw[hz]at a0 a1 a3 a4 ⊢;have c1:((x*2 ^ k:Nat):Int)=(x:Int)*2 ^ k:=by push_cast;rfl
 have c2:((2 ^ k:Nat):Int)=(2:Int) ^ k:=by push_cast;rfl
 rw[<- c1]at a1 ⊢;rw[<- c2]at a4;rw[bits_or_u64_nat _ _ (by omega) (by omega)];have:=Nat.two_pow_add_eq_or_of_lt (show z<2 ^ k by omega) x;rw[Nat.mul_comm]at this;rw[<- this];omega
theorem Xn{q h c r:Int}(h0:0<=h)(hb:h<4294967296)(c0:0<=c)(cb:c<4294967296)(q0:0<=q)(r0:0<=r)(rb:r<4294967296)(hc:(decide ((4294967296:Int)<=q)||decide (IntKind.u64.wrap (IntKind.u64.wrap (4294967296*h)+c)<IntKind.u64.wrap (q*r)))=true):b<=q\/b*h+c<q*r:=by
 unfold b;rw[wu,wu,wu,fF,aC,aC]at hc;rcases Int.lt_or_le q 4294967296 with hq|hq;have e1:=o9 (show r<=4294967295 by omega) q0;have e2:=sy q0 r0;generalize q*r=m at *;omega;exact Or.inl hq
theorem Xo{q h c r:Int}(h0:0<=h)(hb:h<4294967296)(c0:0<=c)(cb:c<4294967296)(q0:0<=q)(r0:0<=r)(rb:r<4294967296)(hc:(decide ((4294967296:Int)<=q)||decide (IntKind.u64.wrap (IntKind.u64.wrap (4294967296*h)+c)<IntKind.u64.wrap (q*r)))=false):q<b/\q*r<=b*h+c:=by
 unfold b;rw[wu,wu,wu,uL,tZ,tZ]at hc;have e1:=o9 (show r<=4294967295 by omega) q0;have e2:=sy q0 r0;generalize q*r=m at *;omega
def Lp(a c p r:Int)(q h:Int):Prop:=Inv a c p r q h/\0<=q/\q<=8589934592/\h<4294967296
theorem Lp.start{a c p r:Int}(hp:2147483648<=p)(Ms:p<4294967296)(dZ:0<=r)(wN:0<=c)(hc:c<4294967296)(J6:0<=a)(ha:a<18446744073709551616) :
   IntKind.u64.wrap (a.tdiv p)=a/p/\IntKind.u64.wrap (a-IntKind.u64.wrap (IntKind.u64.wrap (a.tdiv p)*p))=a-a/p*p/\Lp a c p r (a/p) (a-a/p*p):=by
 have i:=PN hp dZ wN (show c<b from hc) J6;have d:=Int.emod_add_mul_ediv a p;have m1:=xp a (show 0<p by omega);have q0:=uU J6 (show 0<=p by omega);have q1:a/p<8589934592:=DS (by omega) (by omega);have e1:a.tdiv p=a/p:=DQ J6;have h0:=i.h0;have e3:p*(a/p)=a/p*p:=ko ..;have m0:=sy q0 (show 0<=p by omega);rw[e1,wid q0 (by omega),wid m0 (by omega),wid h0 (by omega)];exact⟨rfl,rfl,i,q0,by omega,by omega⟩
theorem Lp.step{a c p r q h:Int}(hp:2147483648<=p)(Ms:p<4294967296)(dZ:0<=r)(hr:r<4294967296)(wN:0<=c)(hc:c<4294967296)(J6:0<=a)(cJ:a<p*4294967296+r)(hi:Lp a c p r q h)(ht:b<=q\/b*h+c<q*r) :
   IntKind.u64.wrap (q-1)=q-1/\IntKind.u64.wrap (h+p)=h+p/\0<=q-1/\(4294967296<=h+p->q-1=(a*b+c)/(p*b+r))/\(h+p<4294967296->Lp a c p r (q-1) (h+p)):=by
 obtain⟨i,q0,q1,h1⟩:=hi;have h0:=i.h0;have hl:a*b+c<(p*b+r)*b:=by
   have:=qF (show a+1<=p*b+r from cJ) (show 0<=b by unfold b;omega);have e:(a+1)*b=a*b+b:=by grind
   have:c<b:=hc;omega
 have i':=Vb hp dZ wN J6 hl i ht;have q2:1<=q:=by
   rcases ht with ht|ht;unfold b at ht;omega;rcases Int.lt_or_le q 1 with h|h;have:q=0:=by omega
   subst this;unfold b at ht;omega;exact h
 refine⟨wid (by omega) (by omega),wid (by omega) (by omega),by omega,fun hh=>?_,fun hh=>⟨i',by omega,by omega,hh⟩⟩;exact Vd hp Ms dZ hr wN hc J6 cJ i' hh (by omega)
theorem Lp.done{a c p r q h:Int}(hp:2147483648<=p)(Ms:p<4294967296)(dZ:0<=r)(hr:r<4294967296)(wN:0<=c)(hc:c<4294967296)(J6:0<=a)(hi:Lp a c p r q h)(ht:q*r<=b*h+c):q=(a*b+c)/(p*b+r):=
 Gx hp Ms dZ hr wN hc J6 hi.1 ht
def C9(hi lo y:Int)(k:Nat):Int:=(Av hi lo k*b+cv lo k)/(pv y k*b+rv y k)
def uv(hi lo y:Int)(k:Nat):Int:=Av hi lo k*b+cv lo k-C9 hi lo y k*(pv y k*b+rv y k)
def J7(hi lo y:Int)(k:Nat):Int:=(uv hi lo y k*b+dv lo k)/(pv y k*b+rv y k)
theorem Nm.Y(n:Nm hi lo y k):pv y k*b+rv y k=Yv y k:=by
 have:=n.P.2.2.1;unfold b;omega
theorem Nm.u(n:Nm hi lo y k):0<=uv hi lo y k/\uv hi lo y k<Yv y k/\0<=C9 hi lo y k/\C9 hi lo y k<4294967296:=by
 obtain⟨a0,a1,_⟩:=n.A;obtain⟨⟨c0,c1⟩,_⟩:=n.L;obtain⟨_,_,_,y0,y1⟩:=n.P;unfold uv C9;rw[n.Y];have r0:=yM (Av hi lo k*b+cv lo k) (show Yv y k≠0 by omega);have r1:=xp (Av hi lo k*b+cv lo k) (show 0<Yv y k by omega);have e:=Int.emod_add_mul_ediv (Av hi lo k*b+cv lo k) (Yv y k);have e2:Yv y k*((Av hi lo k*b+cv lo k)/Yv y k)=(Av hi lo k*b+cv lo k)/Yv y k*Yv y k:=ko ..;refine⟨by omega,by omega,uU (by unfold b;omega) (by omega),DS (by omega) ?_⟩;have:=qF (show Av hi lo k+1<=Yv y k by omega) (show 0<=b by unfold b;omega);have e3:(Av hi lo k+1)*b=Av hi lo k*b+b:=by grind
 have e4:4294967296*Yv y k=Yv y k*b:=by unfold b;omega
 unfold b at *;omega
theorem Nm.q0(n:Nm hi lo y k):0<=J7 hi lo y k/\J7 hi lo y k<4294967296:=by
 obtain⟨u0,u1,_⟩:=n.u;obtain⟨_,⟨d0,d1⟩,_⟩:=n.L;obtain⟨_,_,_,y0,y1⟩:=n.P;unfold J7;rw[n.Y];refine⟨uU (by unfold b;omega) (by omega),DS (by omega) ?_⟩;have:=qF (show uv hi lo y k+1<=Yv y k by omega) (show 0<=b by unfold b;omega);have e3:(uv hi lo y k+1)*b=uv hi lo y k*b+b:=by grind
 have e4:4294967296*Yv y k=Yv y k*b:=by unfold b;omega
 unfold b at *;omega
theorem dU(v:Vf e hi lo y k)(n:Nm hi lo y k){q:IE}(hq:q.af e=C9 hi lo y k):(uE q).af e=uv hi lo y k:=by
 show IntKind.u64.wrap (IntKind.u64.wrap (IntKind.u64.wrap (aE.af e*4294967296)+cE.af e)-IntKind.u64.wrap (q.af e*yE.af e))=uv hi lo y k;rw[dA v n,dC v n,dY v n,hq];obtain⟨u0,u1,_,_⟩:=n.u;obtain⟨_,_,_,y0,y1⟩:=n.P;have e1:uv hi lo y k=Av hi lo k*4294967296+cv lo k-C9 hi lo y k*Yv y k:=by unfold uv;rw[n.Y];rfl
 rw[e1]at u0 u1 ⊢;rw[wu,wu,wu,wu];generalize C9 hi lo y k*Yv y k=z at *;omega
theorem Nm.fin(n:Nm hi lo y k):C9 hi lo y k*b+J7 hi lo y k=(hi*18446744073709551616+lo)/y/\(uv hi lo y k*b+dv lo k-J7 hi lo y k*Yv y k)/2 ^ k=(hi*18446744073709551616+lo)%y/\0<=uv hi lo y k*b+dv lo k-J7 hi lo y k*Yv y k/\uv hi lo y k*b+dv lo k-J7 hi lo y k*Yv y k<Yv y k:=by
 obtain⟨a0,a1,aj,_⟩:=n.A;obtain⟨_,_,lj⟩:=n.L;obtain⟨_,_,_,y0,y1⟩:=n.P;have cJ:=n.cJ;have rK:=n.rK;have hj:=join (N:=hi*18446744073709551616+lo) (y:=y) (P:=2 ^ k) (Y:=Yv y k) (A:=Av hi lo k) (c:=cv lo k) (d:=dv lo k) (q1:=C9 hi lo y k) (q0:=J7 hi lo y k) (by have:=ZK k;omega) (by omega) rfl
   (by rw[<- aj,lj];unfold b;omega) (by unfold C9;rw[n.Y]) (by unfold J7 uv;rw[n.Y])
 have eu:Av hi lo k*b+cv lo k-C9 hi lo y k*Yv y k=uv hi lo y k:=by unfold uv;rw[n.Y]
 rw[eu]at hj;refine⟨hj.1,hj.2.1,?_⟩;rw[hj.2.2];have m0:=yM (hi*18446744073709551616+lo) (show y≠0 by omega);have m1:=xp (hi*18446744073709551616+lo) (show 0<y by omega);have p1:=ZK k;exact⟨sy m0 (by omega),Int.mul_lt_mul_of_pos_right m1 (by omega)⟩
theorem ajk(v:Vf e hi lo y k)(n:Nm hi lo y k){q q0:IE}(hq:q.af e=C9 hi lo y k)(h0:q0.af e=J7 hi lo y k):(ZI q q0).af e=(hi*18446744073709551616+lo)%y:=by
 show IntKind.u64.wrap (IntKind.u64.wrap (IntKind.u64.wrap ((uE q).af e*4294967296)+dE.af e)-IntKind.u64.wrap (q0.af e*yE.af e))/2 ^ (sE.af e).toNat=_;rw[dU v n hq,dD v n,dY v n,h0,dS v n,qm];obtain⟨_,f2,f3,f4⟩:=n.fin;obtain⟨_,_,_,y0,y1⟩:=n.P;rw[<- f2];congr 1;rw[wu,wu,wu,wu];unfold b at *;generalize J7 hi lo y k*Yv y k=z at *;omega
abbrev Res(hi lo y:Int)(rs:List DV):Prop:=rs=[.i ((hi*18446744073709551616+lo)/y),.i ((hi*18446744073709551616+lo)%y)]
theorem PO{E:Nat->List DV->List DV->Prop}{Ps:List (Int->Prop)}{F:Nat->List DV->Prop}(v:Vf e hi lo y k)(n:Nm hi lo y k){q q0:IE}(hq:q.af e=C9 hi lo y k)(h0:q0.af e=J7 hi lo y k):(ZJ q q0).gC E (Res hi lo y) Ps e F:=by
 have hk:=n.hk;refine pq (by rw[dS v n];show(0:Int)<=k;omega) (pq (by rw[dS v n];show(k:Int)<=64;omega) ?_);refine dN (rs:=[.i ((hi*18446744073709551616+lo)/y),.i ((hi*18446744073709551616+lo)%y)]) ?_ rfl;show [DV.i (IntKind.u64.wrap (IntKind.u64.wrap (q.af e*4294967296)+q0.af e)),DV.i ((ZI q q0).af e)]=_;rw[ajk v n hq h0,hq,h0,<- n.fin.1];obtain⟨_,_,u0,u1⟩:=n.u;obtain⟨z0,z1⟩:=n.q0;have:IntKind.u64.wrap (IntKind.u64.wrap (C9 hi lo y k*4294967296)+J7 hi lo y k)=C9 hi lo y k*b+J7 hi lo y k:=by
   unfold b;have e1:IntKind.u64.wrap (C9 hi lo y k*4294967296)=C9 hi lo y k*4294967296:=wid (by omega) (by omega);rw[e1,wid (by omega) (by omega)]
 rw[this]
theorem Xp{E:Nat->List DV->List DV->Prop}{Ps:List (Int->Prop)}{F:Nat->List DV->Prop}(v:Vf e hi lo y k)(n:Nm hi lo y k){q:IE}(hq:q.af e=C9 hi lo y k)(hq6:∀ds,q.af (e.av 6 ds)=C9 hi lo y k):(inT q).gC E (Res hi lo y) Ps e F:=by
 obtain⟨⟨p0,p1⟩,⟨r0,r1⟩,ye,y0,y1⟩:=n.P;obtain⟨_,⟨d0,d1⟩,_⟩:=n.L;obtain⟨u0,u1,_⟩:=n.u;obtain⟨s1,s2,s3⟩:=Lp.start (a:=uv hi lo y k) (c:=dv lo k) (p:=pv y k) (r:=rv y k) p0 p1 r0 d0 d1 u0 (by omega);refine jP (by show decide (pE.af e≠0)=true;rw[dP v n];exact gQ (by omega)) ?_;refine nZ (fun ds=>∃h x:Int,ds=[.i h,.i x]/\Lp (uv hi lo y k) (dv lo k) (pv y k) (rv y k) x h) (fun| [_,.i x]=>x.toNat|_=>0) ?_ ?_;refine⟨_,_,?_,s3⟩;show [DV.i (IntKind.u64.wrap ((uE q).af e-IntKind.u64.wrap (IntKind.u64.wrap (((uE q).af e).tdiv (pE.af e))*pE.af e))),DV.i (IntKind.u64.wrap (((uE q).af e).tdiv (pE.af e)))]=_;rw[dU v n hq,dP v n,s2,s1]
 . rintro _ ⟨h,x,rfl,hl⟩;have v':=v.av (show 4<=6 by omega) [.i h,.i x];have Nb:=hq6 [.i h,.i x];obtain⟨e',As⟩:∃e',e'=e.av 6 [DV.i h,DV.i x]:=⟨_,rfl⟩;have g6:(e' 6).int=h:=by rw[As];rfl
   have g7:(e' 7).int=x:=by rw[As];rfl
   rw[<- As]at v' Nb ⊢;have X4:=hl.1.h0;obtain⟨_,x0,x1,h1⟩:=id hl;have hc:∀z,(BE.or (.le bE (.v 7)) (.lt (.wrap .u64 (.add (.wrap .u64 (.mul bE (.v 6))) dE)) (.wrap .u64 (.mul (.v 7) rE)))).af e'=z->(decide ((4294967296:Int)<=x)||decide (IntKind.u64.wrap (IntKind.u64.wrap (4294967296*h)+dv lo k)<IntKind.u64.wrap (x*rv y k)))=z:=by
     intro z hz;rw[<- hz];show _=(decide ((4294967296:Int)<=(e' 7).int)||decide (IntKind.u64.wrap (IntKind.u64.wrap (4294967296*(e' 6).int)+dE.af e')<IntKind.u64.wrap ((e' 7).int*rE.af e')));rw[g6,g7,dD v' n,dR v' n]
   refine lY (fun hb=>?_) (fun hb=>?_);have ht:=Xn X4 h1 d0 d1 x0 r0 r1 (hc _ hb);obtain⟨w1,w2,w3,w4,w5⟩:=Lp.step p0 p1 r0 r1 d0 d1 u0 (by omega) hl ht;have gw:(IE.wrap .u64 (.add (.v 6) pE)).af e'=h+pv y k:=by
     show IntKind.u64.wrap ((e' 6).int+pE.af e')=_;rw[g6,dP v' n,w2]
   have gx:(IE.wrap .u64 (.sub (.v 7) (.c 1))).af e'=x-1:=by
     show IntKind.u64.wrap ((e' 7).int-1)=_;rw[g7,w1]
   refine lY (fun hb=>?_) (fun hb=>?_);have hb:(4294967296:Int)<=(IE.wrap .u64 (.add (.v 6) pE)).af e':=mC hb;rw[gw]at hb;exact PO v' n Nb (by rw[gx];exact w4 hb);have hb:¬ (4294967296:Int)<=(IE.wrap .u64 (.add (.v 6) pE)).af e':=Fc hb;rw[gw]at hb;refine lO ⟨⟨h+pv y k,x-1,?_,w5 (by omega)⟩,?_⟩;show [DV.i ((IE.wrap .u64 (.add (.v 6) pE)).af e'),DV.i ((IE.wrap .u64 (.sub (.v 7) (.c 1))).af e')]=_;rw[gw,gx];show((IE.wrap .u64 (.sub (.v 7) (.c 1))).af e').toNat<x.toNat;rw[gx];omega
   . obtain⟨_,hf⟩:=Xo X4 h1 d0 d1 x0 r0 r1 (hc _ hb);exact PO v' n Nb (by show(e' 7).int=_;rw[g7];exact Lp.done p0 p1 r0 r1 d0 d1 u0 hl hf)
theorem ZL{E:Nat->List DV->List DV->Prop}{Ps:List (Int->Prop)}{F:Nat->List DV->Prop}(v:Vf e hi lo y k)(n:Nm hi lo y k):(au.loop 241017 [.i (.wrap .u64 (.tdiv aE pE)),.i (.wrap .u64 (.sub aE (.wrap .u64 (.mul (.wrap .u64 (.tdiv aE pE)) pE))))] [.c (.i .u64),.c (.i .u64)] 4 (
.ite (.or (.le bE (.v 4)) (.lt (.wrap .u64 (.add (.wrap .u64 (.mul bE (.v 5))) cE)) (.wrap .u64 (.mul (.v 4) rE)))) (
.ite (.le bE (.wrap .u64 (.add (.v 5) pE))) (inT (.wrap .u64 (.sub (.v 4) (.c 1)))) (
.again 241017 [.i (.wrap .u64 (.sub (.v 4) (.c 1))),.i (.wrap .u64 (.add (.v 5) pE))])) (
 inT (.v 4)))).gC E (Res hi lo y) Ps e F:=by
 obtain⟨⟨p0,p1⟩,⟨r0,r1⟩,ye,y0,y1⟩:=n.P;obtain⟨⟨c0,c1⟩,_,_⟩:=n.L;obtain⟨a0,a1,_⟩:=n.A;obtain⟨s1,s2,s3⟩:=Lp.start (a:=Av hi lo k) (c:=cv lo k) (p:=pv y k) (r:=rv y k) p0 p1 r0 c0 c1 a0 (by omega);refine nZ (fun ds=>∃x h:Int,ds=[.i x,.i h]/\Lp (Av hi lo k) (cv lo k) (pv y k) (rv y k) x h) (fun| [.i x,_]=>x.toNat|_=>0) ?_ ?_;refine⟨_,_,?_,s3⟩;show [DV.i (IntKind.u64.wrap ((aE.af e).tdiv (pE.af e))),DV.i (IntKind.u64.wrap (aE.af e-IntKind.u64.wrap (IntKind.u64.wrap ((aE.af e).tdiv (pE.af e))*pE.af e)))]=_;rw[dA v n,dP v n,s2,s1]
 . rintro _ ⟨x,h,rfl,hl⟩;have v':=v.av (show 4<=4 by omega) [.i x,.i h];obtain⟨e',As⟩:∃e',e'=e.av 4 [DV.i x,DV.i h]:=⟨_,rfl⟩;have g4:e' 4 = .i x:=by rw[As];rfl
   have g5:e' 5 = .i h:=by rw[As];rfl
   rw[<- As]at v' ⊢;have X4:=hl.1.h0;obtain⟨_,x0,x1,h1⟩:=id hl;have hc:∀z,(BE.or (.le bE (.v 4)) (.lt (.wrap .u64 (.add (.wrap .u64 (.mul bE (.v 5))) cE)) (.wrap .u64 (.mul (.v 4) rE)))).af e'=z->(decide ((4294967296:Int)<=x)||decide (IntKind.u64.wrap (IntKind.u64.wrap (4294967296*h)+cv lo k)<IntKind.u64.wrap (x*rv y k)))=z:=by
     intro z hz;rw[<- hz];show _=(decide ((4294967296:Int)<=(e' 4).int)||decide (IntKind.u64.wrap (IntKind.u64.wrap (4294967296*(e' 5).int)+cE.af e')<IntKind.u64.wrap ((e' 4).int*rE.af e')));rw[g4,g5,dC v' n,dR v' n];rfl
   refine lY (fun hb=>?_) (fun hb=>?_);have ht:=Xn X4 h1 c0 c1 x0 r0 r1 (hc _ hb);obtain⟨w1,w2,w3,w4,w5⟩:=Lp.step p0 p1 r0 r1 c0 c1 a0 (by omega) hl ht;have gw:(IE.wrap .u64 (.add (.v 5) pE)).af e'=h+pv y k:=by
     show IntKind.u64.wrap ((e' 5).int+pE.af e')=_;rw[g5,dP v' n];exact w2
   have gx:∀e'':az,e'' 4 = .i x->(IE.wrap .u64 (.sub (.v 4) (.c 1))).af e''=x-1:=by
     intro e'' h4;show IntKind.u64.wrap ((e'' 4).int-1)=_;rw[h4];exact w1
   refine lY (fun hb=>?_) (fun hb=>?_);have hb:(4294967296:Int)<=(IE.wrap .u64 (.add (.v 5) pE)).af e':=mC hb;rw[gw]at hb;exact Xp v' n (by rw[gx e' g4];exact w4 hb) fun ds=>by rw[gx _ (by rw[az.bd (by omega)];exact g4)];exact w4 hb
   have hb:¬ (4294967296:Int)<=(IE.wrap .u64 (.add (.v 5) pE)).af e':=Fc hb;rw[gw]at hb;refine lO ⟨⟨x-1,h+pv y k,?_,w5 (by omega)⟩,?_⟩;show [DV.i ((IE.wrap .u64 (.sub (.v 4) (.c 1))).af e'),DV.i ((IE.wrap .u64 (.add (.v 5) pE)).af e')]=_;rw[gw,gx e' g4];show((IE.wrap .u64 (.sub (.v 4) (.c 1))).af e').toNat<x.toNat;rw[gx e' g4];omega
   . obtain⟨_,hf⟩:=Xo X4 h1 c0 c1 x0 r0 r1 (hc _ hb);have hd:x=C9 hi lo y k:=Lp.done p0 p1 r0 r1 c0 c1 a0 hl hf;exact Xp v' n (by show(e' 4).int=_;rw[g4];exact hd) fun ds=>by
       show(e'.av 6 ds 4).int=_;rw[az.bd (by omega),g4];exact hd
end
variable {X:bH}
def ZM(ds:List DV):Prop:=∃n:Int,ds=[.i n]/\1<=n/\n<18446744073709551616
def ZN(ds rs:List DV):Prop:=∀n:Int,ds=[.i n]->∃k:Nat,rs=[.i k]/\k<=63/\9223372036854775808<=n*2 ^ k/\n*2 ^ k<18446744073709551616
theorem ajl(hX:X 283=xI):mb (TT Tryz.prog) X 267 ZM ZN:=lB ajj fun ds hp=>by
 obtain⟨n,rfl,n0,n1⟩:=hp;obtain⟨k,k1,k2,k3,k4⟩:=Ve n0 n1;unfold t267;refine iy (pre:=fun ds=>ds=[.i n]) (rel:=fun _ rs=>rs=[.i (Lib.bitLen n.toNat)]) (fun ds h=>⟨[.i (Lib.bitLen n.toNat)],?_,rfl⟩) rfl ?_;subst h;refine ji Xq ?_;show X 283 [.i n]=_;rw[hX];simp only[xI,rh (show 0<=n/\n<=18446744073709551615 by omega),if_true];rintro _ _ rfl;refine zc (show -9223372036854775808<=64-(Lib.bitLen n.toNat:Int)/\64-(Lib.bitLen n.toNat:Int)<=9223372036854775807 by omega) ?_;refine dN (rs:=[.i (64-(Lib.bitLen n.toNat:Int))]) rfl fun m hm=>?_;cases hm;exact⟨k,by rw[k1],k2,k3,k4⟩
def ZO(ds:List DV):Prop:=∃hi lo y:Int,ds=[.i hi,.i lo,.i y]/\0<=hi/\hi<y/\y<18446744073709551616/\0<=lo/\lo<18446744073709551616
def PQ(ds rs:List DV):Prop:=∀hi lo y:Int,ds=[.i hi,.i lo,.i y]->Res hi lo y rs
theorem adl(hX:X 283=xI):mb (TT Tryz.prog) X 241 ZO PQ:=lB aji fun ds hp=>by
 obtain⟨hi,lo,y,rfl,h0,cJ,y1,l0,l1⟩:=hp;have e:PQ [.i hi,.i lo,.i y]=Res hi lo y:=by
   funext rs;exact propext ⟨fun h=>h _ _ _ rfl,fun h _ _ _ e=>by cases e;exact h⟩
 rw[e];unfold t241;refine dW (fun h=>absurd (show y=0 from h) (by omega)) (fun _=>?_);refine lY (fun h=>absurd (show y<=hi from mC h) (by omega)) (fun _=>?_);refine dW (fun h=>?_) (fun h=>?_);have h:hi=0:=h;subst h;refine jP (show decide (y≠0)=true from gQ (by omega)) (dN (rs:=[.i ((0*18446744073709551616+lo)/y),.i ((0*18446744073709551616+lo)%y)]) ?_ rfl);show [DV.i (IntKind.u64.wrap (lo.tdiv y)),DV.i (lo.tmod y)]=_;rw[DQ l0,Int.tmod_eq_emod_of_nonneg l0,Int.zero_mul,Int.zero_add,wid (uU l0 (by omega)) (by have:=Int.ediv_le_self y l0;omega)];refine iy (ajl hX) ⟨y,rfl,by omega,y1⟩ fun rs _ hr=>?_;obtain⟨k,rfl,k1,k2,k3⟩:=hr y rfl;have n:Nm hi lo y k:=⟨h0,cJ,l0,l1,k1,k2,k3⟩;have v:Vf ((aR.av 0 [.i hi,.i lo,.i y]).av 3 [.i (k:Int)]) hi lo y k:=⟨rfl,rfl,rfl,rfl⟩;have ds:=dS v n;have dk:(IE.wrap .u64 (.sub (.c 64) sE)).af ((aR.av 0 [.i hi,.i lo,.i y]).av 3 [.i (k:Int)])=64-(k:Int):=by
   show IntKind.u64.wrap (64-sE.af _)=_;rw[ds];exact wid (by omega) (by omega)
 refine pq (by rw[ds];show(0:Int)<=k;omega) (pq (by rw[ds];show(k:Int)<=64;omega) (pq (by rw[dk];show(0:Int)<=64-k;omega) (pq (by rw[dk];show 64-(k:Int)<=64;omega) ?_)));refine jP (by show decide (pE.af _≠0)=true;rw[dP v n];exact gQ (by have:=n.P.1;omega)) ?_;exact ZL v n
end
section
open Go.Sx
def t40:au:=
.ev (.call 64 (.c true) [.i (.v 0)] [.one (.s 146 [i6,i6]),oB] 3) (
.ite (.not (.v 4)) (
.ret [.i (.c 5)]) (
.ite (.not (.eq (.len 3) (.len 1))) (
.ret [.i (.c 1)]) (
.loop 40007 [.i (.c 0),.i (.c 0)] [.c i6,.c i6] 5 (
.ite (.lt (.v 6) (.len 3)) (
.ev (.aG (.le (.c 0) (.v 6))) (
.ev (.aG (.lt (.v 6) (.len 1))) (
.ite (.or (.lt (.get 1 (.v 6) 0) (.get 3 (.v 6) 0)) (.lt (.get 3 (.v 6) 1) (.get 1 (.v 6) 0))) (
.ret [.i (.c 4)]) (
.ev (.aG (r6 (.add (.v 6) (.c 1)))) (
.again 40007 [.i (.v 5),.i (.add (.v 6) (.c 1))]))))) (
.ret [.i (.c 0)])))))
theorem T40:TT Tryz.prog 40=some ⟨40,t40,(rowOf 40).sub⟩:=by kernel_rfl
def t27:au:=
.ite (.lt (.v 1) (.len 0)) (
.ret [.b (.c false)]) (
.loop 27004 [.b (.c false),.i (.c 0)] [.c (.b),.c i6] 3 (
.ite (.lt (.v 4) (.len 0)) (
.ev (.aG (.le (.c 0) (.v 4))) (
.ev (.bW 6 (.sub 0 (.v 4) [.c i6,.s 3 i6] 1)) (
.ite (.lt (.c 40) (.len 6)) (
.ret [.b (.c false)]) (
.ev (.aG (.le (.c 0) (.v 4))) (
.ev (.aG (.lt (.v 4) (.len 0))) (
.ev (.bW 2056 (.sub 0 (.v 4) [.c i6,.s 3 i6] 1)) (
.ev (.bW 5128 (.sub 0 (.v 4) [.c i6,.s 3 i6] 1)) (
.ev (.bW 9736 (.sub 0 (.v 4) [.c i6,.s 3 i6] 1)) (
.ev (.bW 13320 (.sub 0 (.v 4) [.c i6,.s 3 i6] 1)) (
.ev (.call 40 (.eq (.get 0 (.v 4) 0) (.c 1)) [.i (.get 0 (.v 4) 0),.l 5128] [oI] 5639) (
.ev (.aG (.or (.not (.and (.eq (.get 0 (.v 4) 0) (.c 1)) (.eq (.v 5639) (.c 0)))) (.lt (.c 0) (.len 9736)))) (
.ev (.aG (.or (.not (.and (.eq (.get 0 (.v 4) 0) (.c 1)) (.eq (.v 5639) (.c 0)))) (.lt (.c 1) (.len 13320)))) (
.ev (.aG (.or (.not (.and (.eq (.get 0 (.v 4) 0) (.c 1)) (.eq (.v 5639) (.c 0)))) (r6 (.mul (.get 9736 (.c 0) 0) (.get 13320 (.c 1) 0))))) (
.ev (.aG (.or (.not (.and (.eq (.get 0 (.v 4) 0) (.c 1)) (.eq (.v 5639) (.c 0)))) (.lt (.v 4) (.len 0)))) (
.ev (.aG (.or (.not (.and (.eq (.get 0 (.v 4) 0) (.c 1)) (.eq (.v 5639) (.c 0)))) (.le (.c 0) (.v 4)))) (
.ite (.and (.and (.eq (.get 0 (.v 4) 0) (.c 1)) (.eq (.v 5639) (.c 0))) (.lt (.v 2) (.mul (.get 9736 (.c 0) 0) (.get 13320 (.c 1) 0)))) (
.ret [.b (.c false)]) (
.ev (.aG (r6 (.add (.v 4) (.c 1)))) (
.again 27004 [.b (.v 3),.i (.add (.v 4) (.c 1))])))))))))))))))))) (
.ret [.b (.c true)])))
theorem T27:TT Tryz.prog 27=some ⟨27,t27,(rowOf 27).sub⟩:=by kernel_rfl
variable {X:bH}
theorem alM:ev (TT Tryz.prog) X 40 64 [.i 1]=some [.l [[1,1024],[1,1024]],.b true]:=by kernel_rfl
def XB(ds:List DV):Prop:=ds=[.i 1]
def XC(ds rs:List DV):Prop:=rs=[.l [[1,1024],[1,1024]],.b true]
theorem g64:mb (TT Tryz.prog) X 64 XB XC:=fun ds hp=>by
 obtain rfl:ds=[.i 1]:=hp;exact⟨_,⟨40,alM⟩,rfl⟩
def Sz(xs:List (List Int)):Prop:=xs.length=2/\(1<=cellAt xs 0 0/\cellAt xs 0 0<=1024)/\(1<=cellAt xs 1 0/\cellAt xs 1 0<=1024)
def GV(ds:List DV):Prop:=∃xs:List (List Int),ds=[.i 1,.l xs]/\xs.length<=40
def GX(ds rs:List DV):Prop:=∃e:Int,rs=[.i e]/\(0<=e/\e<=12)/\∀xs,ds=[.i 1,.l xs]->(e=0↔Sz xs)
theorem o40{E:Nat->List DV->List DV->Prop}(h64:∀ds,XB ds->∃rs,E 64 ds rs/\XC ds rs){ds:List DV}(hp:GV ds):t40.gC E (GX ds) [] (aR.av 0 ds) (fun _ _=>False):=by
 obtain⟨xs,rfl,hx⟩:=hp;unfold t40;refine iy h64 rfl ?_;rintro _ _ rfl;refine og (fun h=>?_) (fun _=>?_)
 . have:true=false:=h;cases this
 refine og (fun h=>?_) (fun h=>?_)
 . have h:¬ ((2:Int)=xs.length):=Fc h;refine dN (rs:=[.i 1]) rfl ⟨1,rfl,by omega,fun ys e=>?_⟩;cases e;exact⟨fun h=>by omega,fun hs=>absurd (by rw[hs.1];rfl) h⟩
 . have h:(2:Int)=xs.length:=mC h;refine nZ (fun ds=>∃q i:Int,ds=[.i q,.i i]/\0<=i/\i<=2/\(1<=i->1<=cellAt xs 0 0/\cellAt xs 0 0<=1024)/\(2<=i->1<=cellAt xs 1 0/\cellAt xs 1 0<=1024)) (fun| [_,.i i]=>(2-i).toNat|_=>0)
     ⟨0,0,rfl,by omega,by omega,fun h=>by omega,fun h=>by omega⟩ ?_
   rintro _ ⟨q,i,rfl,rK,Pf,h0,h1⟩;refine gZ (fun cJ=>?_) (fun mF=>?_)
   . have cJ:i<2:=cJ;refine pq (show(0:Int)<=i from rK) (MF (show i<(xs.length:Int)by omega) ?_);have hc:cellAt [[1,1024],[1,1024]] i 0=1/\cellAt [[1,1024],[1,1024]] i 1=1024:=by
       obtain rfl|rfl:i=0\/i=1:=by omega
       . exact⟨rfl,rfl⟩
       . exact⟨rfl,rfl⟩
     refine lY (fun hb=>?_) (fun hb=>?_)
     . have hb:(decide (cellAt xs i 0<cellAt [[1,1024],[1,1024]] i 0)||decide (cellAt [[1,1024],[1,1024]] i 1<cellAt xs i 0))=true:=hb;rw[hc.1,hc.2,fF,aC,aC]at hb;refine dN (rs:=[.i 4]) rfl ⟨4,rfl,by omega,fun ys e=>?_⟩;cases e;refine⟨fun h=>by omega,fun hs=>?_⟩;obtain⟨_,s0,s1⟩:=hs;obtain rfl|rfl:i=0\/i=1:=by omega
       . omega
       . omega
     . have hb:(decide (cellAt xs i 0<cellAt [[1,1024],[1,1024]] i 0)||decide (cellAt [[1,1024],[1,1024]] i 1<cellAt xs i 0))=false:=hb;rw[hc.1,hc.2,uL,tZ,tZ]at hb;refine zc (show(-9223372036854775808:Int)<=i+1/\i+1<=9223372036854775807 by omega) (lO ⟨⟨q,i+1,rfl,by omega,by omega,fun h=>?_,fun h=>?_⟩,?_⟩)
       . rcases Int.lt_or_le 0 i with h5|h5
         . exact h0 (by omega)
         . obtain rfl:i=0:=by omega
           omega
       . obtain rfl:i=1:=by omega
         omega
       . show(2-(i+1)).toNat<(2-i).toNat;omega
   . have mF:(2:Int)<=i:=mF;refine dN (rs:=[.i 0]) rfl ⟨0,rfl,by omega,fun ys e=>?_⟩;cases e;exact⟨fun _=>⟨by omega,h0 (by omega),h1 (by omega)⟩,fun _=>rfl⟩
theorem g40:mb (TT Tryz.prog) X 40 GV GX:=lB T40 fun ds hp=>o40 g64 hp
def nkR:List NK:=[.c i6,.s 3 i6]
def rQ(r:List Int):Int:=r.getD 0 0
def b8(r:List Int):List (List Int):=eK (ew nkR r 1)
def aag(m q:Int)(l:List (List Int)):Prop:=(l.length:Int)<=m/\∀r∈l,(b8 r).length<=40/\(rQ r=1->Sz (b8 r)->cellAt (b8 r) 0 0*cellAt (b8 r) 1 0<=q)
def Qk(ds:List DV):Prop:=∃(l:List (List Int)) (m q:Int),ds=[.l l,.i m,.i q]/\l.length<=9223372036854775807
def GU(ds rs:List DV):Prop:=∃b:Bool,rs=[.b b]/\∀l m q,ds=[.l l,.i m,.i q]->b=true->aag m q l
theorem o27{E:Nat->List DV->List DV->Prop}(h40:∀ds,GV ds->∃rs,E 40 ds rs/\GX ds rs){ds:List DV}(hp:Qk ds):t27.gC E (GU ds) [] (aR.av 0 ds) (fun _ _=>False):=by
 obtain⟨l,m,q,rfl,hll⟩:=hp;have no:GU [.l l,.i m,.i q] [.b false]:=⟨false,rfl,fun _ _ _ _ h=>by cases h⟩;unfold t27;refine gZ (fun h=>dN (rs:=[.b false]) rfl no) (fun hm=>?_);have hm:(l.length:Int)<=m:=hm;refine nZ (fun ds=>∃(b:Bool) (i:Nat),ds=[.b b,.i i]/\i<=l.length/\∀k,k<i->(b8 (l.getD k [])).length<=40/\(rQ (l.getD k [])=1->Sz (b8 (l.getD k []))->cellAt (b8 (l.getD k [])) 0 0*cellAt (b8 (l.getD k [])) 1 0<=q)) (fun| [_,.i i]=>((l.length:Int)-i).toNat|_=>0)
   ⟨false,0,rfl,by omega,fun k hk=>by omega⟩ ?_
 rintro _ ⟨b,i,rfl,hi,ch⟩;refine gZ (fun cJ=>?_) (fun mF=>?_)
 . have cJ:(i:Int)<l.length:=cJ;refine pq (show(0:Int)<=i by omega) ?_;have eJ:∀e:az,e 0 = .l l->e 4 = .i i->cU.af e (.sub 0 (.v 4) [.c i6,.s 3 i6] 1)=b8 (l.getD i []):=fun e h0 h4=>by
     simp only[cU.af,IE.af,h0,h4,di,dl,qm];rfl
   obtain⟨e1,lH⟩:∃e1:az,e1=(aR.av 0 [.l l,.i m,.i q]).av 3 [.b b,.i i]:=⟨_,rfl⟩;have g0:e1 0 = .l l:=by rw[lH];rfl
   have g2:e1 2 = .i q:=by rw[lH];rfl
   have g3:e1 3 = .b b:=by rw[lH];rfl
   have g4:e1 4 = .i i:=by rw[lH];rfl
   rw[<- lH];refine iQ (eJ _ g0 g4) (gZ (fun h=>dN (rs:=[.b false]) rfl no) (fun aeP=>?_));have aeP:((b8 (l.getD i [])).length:Int)<=40:=aeP;have ag:∀(e:az) (k:Nat) (d:DV),5<k->e 0 = .l l->e 2 = .i q->e 3 = .b b->e 4 = .i i->(e.set k d) 0 = .l l/\(e.set k d) 2 = .i q/\(e.set k d) 3 = .b b/\(e.set k d) 4 = .i i:=fun e k d hk a0 a2 a3 a4=>by
     simp only[az.set];rw[if_neg (by omega),if_neg (by omega),if_neg (by omega),if_neg (by omega)];exact⟨a0,a2,a3,a4⟩
   obtain⟨a0,a2,a3,a4⟩:=ag e1 6 (.l (b8 (l.getD i []))) (by omega) g0 g2 g3 g4;obtain⟨e2,pz⟩:∃e2:az,e2=e1.set 6 (.l (b8 (l.getD i []))):=⟨_,rfl⟩;rw[<- pz]at a0 a2 a3 a4 ⊢;refine pq (show(0:Int)<=(e2 4).int by rw[a4];show(0:Int)<=i;omega) (MF (show(e2 4).int<((e2 0).list.length:Int)by rw[a4,a0];exact cJ) ?_);refine iQ (eJ _ a0 a4) ?_;obtain⟨b0,b2,b3,b4⟩:=ag e2 2056 (.l (b8 (l.getD i []))) (by omega) a0 a2 a3 a4;refine iQ (eJ _ b0 b4) ?_;obtain⟨c0,c2,c3,c4⟩:=ag _ 5128 (.l (b8 (l.getD i []))) (by omega) b0 b2 b3 b4;refine iQ (eJ _ c0 c4) ?_;obtain⟨d0,d2,d3,d4⟩:=ag _ 9736 (.l (b8 (l.getD i []))) (by omega) c0 c2 c3 c4;refine iQ (eJ _ d0 d4) ?_;obtain⟨f0,f2,f3,f4⟩:=ag _ 13320 (.l (b8 (l.getD i []))) (by omega) d0 d2 d3 d4;obtain⟨e3,yG⟩:∃e3:az,e3=((((e2.set 2056 (.l (b8 (l.getD i [])))).set 5128 (.l (b8 (l.getD i [])))).set 9736 (.l (b8 (l.getD i [])))).set 13320 (.l (b8 (l.getD i [])))):=⟨_,rfl⟩;have k1:e3 5128 = .l (b8 (l.getD i [])):=by rw[yG];rfl
   have k2:e3 9736 = .l (b8 (l.getD i [])):=by rw[yG];rfl
   have k3:e3 13320 = .l (b8 (l.getD i [])):=by rw[yG];rfl
   rw[<- yG]at f0 f2 f3 f4 ⊢;have mQ:(IE.get 0 (.v 4) 0).af e3=rQ (l.getD i []):=by
     simp only[IE.af,f0,f4,di,dl];unfold cellAt;rw[qm];rfl
   have fin:∀(x:Int),(rQ (l.getD i [])=1->(x=0↔Sz (b8 (l.getD i []))))->∀e4:az,(∀k,k<5639->e4 k=e3 k)->(∀k,5639<k->e4 k=e3 k)->e4 5639 = .i x->
       (au.ev (.aG (.or (.not (.and (.eq (.get 0 (.v 4) 0) (.c 1)) (.eq (.v 5639) (.c 0)))) (.lt (.c 0) (.len 9736)))) (
.ev (.aG (.or (.not (.and (.eq (.get 0 (.v 4) 0) (.c 1)) (.eq (.v 5639) (.c 0)))) (.lt (.c 1) (.len 13320)))) (
.ev (.aG (.or (.not (.and (.eq (.get 0 (.v 4) 0) (.c 1)) (.eq (.v 5639) (.c 0)))) (r6 (.mul (.get 9736 (.c 0) 0) (.get 13320 (.c 1) 0))))) (
.ev (.aG (.or (.not (.and (.eq (.get 0 (.v 4) 0) (.c 1)) (.eq (.v 5639) (.c 0)))) (.lt (.v 4) (.len 0)))) (
.ev (.aG (.or (.not (.and (.eq (.get 0 (.v 4) 0) (.c 1)) (.eq (.v 5639) (.c 0)))) (.le (.c 0) (.v 4)))) (
.ite (.and (.and (.eq (.get 0 (.v 4) 0) (.c 1)) (.eq (.v 5639) (.c 0))) (.lt (.v 2) (.mul (.get 9736 (.c 0) 0) (.get 13320 (.c 1) 0)))) (
.ret [.b (.c false)]) (
.ev (.aG (r6 (.add (.v 4) (.c 1)))) (
.again 27004 [.b (.v 3),.i (.add (.v 4) (.c 1))])))))))).gC E (GU [.l l,.i m,.i q]) [] e4 (lN (fun _ _=>False) 27004 (fun vs=>(∃(b:Bool) (i:Nat),vs=[.b b,.i i]/\i<=l.length/\∀k,k<i->(b8 (l.getD k [])).length<=40/\(rQ (l.getD k [])=1->Sz (b8 (l.getD k []))->cellAt (b8 (l.getD k [])) 0 0*cellAt (b8 (l.getD k [])) 1 0<=q))/\(match vs with| [_,.i i]=>((l.length:Int)-i).toNat|_=>0)<((l.length:Int)-i).toNat)):=by
     intro x hx e4 lo hi4 XD;have m0:e4 0 = .l l:=by rw[lo 0 (by omega),f0]
     have m2:e4 2 = .i q:=by rw[lo 2 (by omega),f2]
     have m3:e4 3 = .b b:=by rw[lo 3 (by omega),f3]
     have m4:e4 4 = .i i:=by rw[lo 4 (by omega),f4]
     have n2:e4 9736 = .l (b8 (l.getD i [])):=by rw[hi4 9736 (by omega),k2]
     have n3:e4 13320 = .l (b8 (l.getD i [])):=by rw[hi4 13320 (by omega),k3]
     have aeQ:(IE.get 0 (.v 4) 0).af e4=rQ (l.getD i []):=by
       simp only[IE.af,m0,m4,di,dl];unfold cellAt;rw[qm];rfl
     have aeR:(BE.and (.eq (.get 0 (.v 4) 0) (.c 1)) (.eq (.v 5639) (.c 0))).af e4=true->rQ (l.getD i [])=1/\Sz (b8 (l.getD i [])):=fun h=>by
       have h:(decide ((IE.get 0 (.v 4) 0).af e4=1)&&decide ((e4 5639).int=0))=true:=h;rw[aeQ,XD,ao,aC,aC]at h;exact⟨h.1,(hx h.1).1 h.2⟩
     have aG:∀p:BE,(rQ (l.getD i [])=1/\Sz (b8 (l.getD i []))->p.af e4=true)->(BE.or (.not (.and (.eq (.get 0 (.v 4) 0) (.c 1)) (.eq (.v 5639) (.c 0)))) p).af e4=true:=fun p hp=>by
       cases hc:(BE.and (.eq (.get 0 (.v 4) 0) (.c 1)) (.eq (.v 5639) (.c 0))).af e4 with
       |false=>show(!((BE.and _ _).af e4)||p.af e4)=true;rw[hc];rfl
       |true=>show(!((BE.and _ _).af e4)||p.af e4)=true;rw[hp (aeR hc)];simp
     refine jP (aG _ fun h=>gQ ?_) (jP (aG _ fun h=>gQ ?_) (jP (aG _ fun h=>mA ?_) (jP (aG _ fun h=>gQ ?_) (jP (aG _ fun h=>gQ ?_) (lY (fun h=>dN (rs:=[.b false]) rfl no) (fun h=>?_))))))
     . simp only[IE.af,n2,dl];have:=h.2.1;omega
     . simp only[IE.af,n3,dl];have:=h.2.1;omega
     . simp only[IE.af,n2,n3,dl];obtain⟨_,s0,s1⟩:=h.2;have:=yX s0.2 s1.2 (by omega) (by omega);have:=sy (show 0<=cellAt (b8 (l.getD i [])) 0 0 by omega) (show 0<=cellAt (b8 (l.getD i [])) 1 0 by omega);omega
     . simp only[IE.af,m0,m4,di,dl];exact cJ
     . simp only[IE.af,m4,di];omega
     . refine zc (by simp only[IE.af,m4,di];omega) (lO ⟨⟨b,i+1,?_,by omega,fun k hk=>?_⟩,?_⟩)
       . simp only[List.map,DE.af,IE.af,BE.af,m3,m4,di,db];rfl
       . rcases mS k i with hki|hki
         . exact ch k hki
         . obtain rfl:k=i:=by omega
           refine⟨by omega,fun h1 hs=>?_⟩;have hc:(BE.and (.eq (.get 0 (.v 4) 0) (.c 1)) (.eq (.v 5639) (.c 0))).af e4=true:=by
             show(decide ((IE.get 0 (.v 4) 0).af e4=1)&&decide ((e4 5639).int=0))=true;rw[aeQ,XD,ao,aC,aC];exact⟨h1,(hx h1).2 hs⟩
           have h:((BE.and (.eq (.get 0 (.v 4) 0) (.c 1)) (.eq (.v 5639) (.c 0))).af e4&&decide ((IE.v 2).af e4<(IE.mul (.get 9736 (.c 0) 0) (.get 13320 (.c 1) 0)).af e4))=false:=h;rw[hc,Bool.true_and,tZ]at h;simp only[IE.af,m2,n2,n3,di,dl]at h;omega
       . simp only[List.map,DE.af,IE.af,BE.af,m3,m4,di,db];show((l.length:Int)-(i+1)).toNat<((l.length:Int)-i).toNat;omega
   refine Em h40 (fun hg=>?_) (fun hg rs hE hr=>?_) (fun hg=>?_)
   . have hg:decide ((IE.get 0 (.v 4) 0).af e3=1)=true:=hg;rw[aC,mQ]at hg;refine⟨b8 (l.getD i []),?_,by omega⟩;simp only[List.map,DE.af,k1,dl,mQ,hg]
   . have hg:decide ((IE.get 0 (.v 4) 0).af e3=1)=true:=hg;rw[aC,mQ]at hg;obtain⟨x,rfl,_,hx⟩:=hr;have hx:=hx (b8 (l.getD i [])) (by simp only[List.map,DE.af,k1,dl,mQ,hg]);exact fin x (fun _=>hx) _ (fun k hk=>az.bd hk) (fun k hk=>az.fg (by simp;omega)) rfl
   . have hg:decide ((IE.get 0 (.v 4) 0).af e3=1)=false:=hg;rw[tZ,mQ]at hg;exact fin 0 (fun h=>absurd h hg) _ (fun k hk=>az.bd hk) (fun k hk=>az.fg (by show 5639+1<=k;omega)) rfl
 . have mF:(l.length:Int)<=i:=mF;refine dN (rs:=[.b true]) rfl ⟨true,rfl,fun l' m' q' e _=>?_⟩;cases e;refine⟨hm,fun r hr=>?_⟩;obtain⟨k,hk,rfl⟩:=List.getElem_of_mem hr;have:=ch k (by omega);rwa[show l.getD k []=l[k]by simp[List.getD,hk]]at this
theorem g27:mb (TT Tryz.prog) X 27 Qk GU:=lB T27 fun ds hp=>o27 g40 hp
end
end Go.Proofs.YtohebioanhliiaaGreatDoor.aF

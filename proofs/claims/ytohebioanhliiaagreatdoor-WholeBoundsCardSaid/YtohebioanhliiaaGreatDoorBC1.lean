/- All functions come to an end, but for those shown by hand; Div64. -/
import Derived.Test.YtohebioanhliiaaGreatDoorBB1
import Derived.Test.YtohebioanhliiaaGreatDoorBB3
import Derived.Test.YtohebioanhliiaaGreatDoorBA4
import Derived.Test.YtohebioanhliiaaGreatDoorBB2
import Derived.Lib.BitFns
import Derived.Laws.Bits64b
set_option linter.unusedVariables false
set_option linter.unusedSimpArgs false
set_option maxRecDepth 100000
namespace Go.Proofs.YtohebioanhliiaaGreatDoor.aw
section
open Go.Sx
theorem u7{U:aA}{a b:IE}:((BE.le a b).ae U=true)↔a.ae U<=b.ae U:=decide_eq_true_iff
theorem u9{U:aA}{a b:IE}:((BE.lt a b).ae U=true)↔a.ae U<b.ae U:=decide_eq_true_iff
theorem va{U:aA}{a b:IE}:((BE.eq a b).ae U=true)↔a.ae U=b.ae U:=decide_eq_true_iff
theorem jU{U:aA}{a:BE}:((BE.not a).ae U=true)↔¬ (a.ae U=true):=by simp[BE.ae]
theorem jV{U:aA}{a b:BE}:((BE.and a b).ae U=true)↔a.ae U=true/\b.ae U=true:=by simp[BE.ae]
theorem vb{U:aA}{a b:BE}:((BE.or a b).ae U=true)↔a.ae U=true\/b.ae U=true:=by simp[BE.ae]
theorem Hi{x y w h:IE}:fa (Z6 x y w h):=by
 intro U hp;simp only[Z6,bh,gh,or_false,forall_eq_or_imp,forall_eq,u7,u9,va,jU,jV,vb,IE.ae]at hp;simp only[Z6,eG,u7,u9,va,jU,jV,vb,IE.ae];obtain⟨h1,h2,h3,h4,h5,h6⟩:=hp;generalize x.ae U=X at *;generalize y.ae U=Y at *;generalize w.ae U=W at *;generalize h.ae U=H at *;have a1:=qR h3 (show 0<=W by omega);have a2:=xo (show Y<=100 by omega) h5 (show 0<=W by omega) (by omega);have a3:=tk (show Y+1<=H by omega) (show 0<=W by omega);have a4:(Y+1)*W=Y*W+W:=by grind
 have a5:H*W=W*H:=mc ..;omega
theorem ql{hs:List BE}{g:BE}(h:∀U,(∀p∈hs,p.ae U=true)->g.ae U=true):fa (hs,g):=h
theorem Tt{n:Int}(h: -9223372036854775808<=n/\n<=9223372036854775807):IntKind.i64.wrap n=n:=CW (by simpa[IntKind.min,IntKind.max,IntKind.signed,IntKind.bits]using h)
theorem tdm(a d:Int):a.tdiv d*d+a.tmod d=a:=by have:=Int.tdiv_mul_add_tmod a d;omega
theorem ajb:∀l∈rK 202,fa l:=by
 intro l hl;simp only[rK,bh,gh,or_false]at hl;subst hl;refine ql fun U hp=>?_;simp only[bh,gh,or_false,forall_eq,u7,u9,va,jU,jV,vb,IE.ae]at hp;simp only[eG,G8,u7,u9,va,jU,jV,vb,IE.ae];have:=tdm ((U 4).int-(U 3).int) 2;have h1:=Int.tmod_nonneg 2 (show 0<=(U 4).int-(U 3).int by omega);have h2:((U 4).int-(U 3).int).tmod 2<2:=Int.tmod_lt_of_pos _ (by omega);omega
theorem ajc:∀l∈rK 221,fa l:=by
 intro l hl;simp only[rK,bh,gh,or_false]at hl;rcases hl with rfl|rfl;refine ql fun U hp=>?_;simp only[bh,gh,or_false,forall_eq_or_imp,forall_eq,IA,imp,u7,u9,va,jU,jV,vb,IE.ae]at hp ⊢;omega;refine ql fun U hp=>?_;simp only[bh,gh,or_false,forall_eq_or_imp,forall_eq,u7,u9,va,jU,jV,vb,IE.ae]at hp ⊢;omega
theorem ajd:∀l∈rK 123,fa l:=by
 intro l hl;simp only[rK,bh,gh,or_false]at hl;subst hl;refine ql fun U hp=>?_;simp only[bh,gh,or_false,forall_eq_or_imp,forall_eq,u7,u9,va,jU,jV,vb,IE.ae]at hp;simp only[eG,u7,u9,va,jU,jV,vb,IE.ae];exact⟨Int.tmod_lt_of_pos _ hp.1,Int.tmod_nonneg _ (by omega)⟩
theorem aje{x y:Int}(h0:1<=y)(h1:y<=9223372036854775807):(Go.IntKind.u64.wrap x).tmod (Go.IntKind.u64.wrap y)<Go.IntKind.u64.wrap y:=by
 have:Go.IntKind.u64.wrap y=y:=oR (k:=.u64) ⟨by show(0:Int)<=y;omega,by show y<=18446744073709551615;omega⟩;rw[this];exact Int.tmod_lt_of_pos _ (by omega)
theorem ajf:∀l∈rK 198,fa l:=by
 intro l hl;simp only[rK,bh,gh,or_false]at hl;rcases hl with rfl|rfl
 all_goals
   refine ql fun U hp=>?_;simp only[bh,gh,or_false,forall_eq_or_imp,forall_eq,u7,u9,va,jU,jV,vb,IE.ae]at hp ⊢;exact aje hp.1 hp.2
theorem l84:∀l∈rK 84,fa l:=by
 intro l hl;simp only[rK,bh,gh,or_false]at hl;rcases hl with rfl|rfl;refine ql fun U hp=>?_;simp only[bh,gh,or_false,forall_eq_or_imp,forall_eq,u7,u9,va,jU,jV,vb,IE.ae]at hp ⊢;rw[hp.1,hp.2];refine ql fun U hp=>?_;simp only[bh,gh,or_false,forall_eq_or_imp,forall_eq,u7,u9,va,jU,jV,vb,IE.ae]at hp ⊢;obtain⟨h1,h2,h3,h4,h5⟩:=hp;have a3:=tk (show(U 1570).int+1<=(U 1).int by omega) h5;have a4:((U 1570).int+1)*(U 0).int=(U 1570).int*(U 0).int+(U 0).int:=by grind
 have a5:(U 1).int*(U 0).int=(U 0).int*(U 1).int:=mc ..;omega
theorem l73:∀l∈rK 73,fa l:=by
 intro l hl;simp only[rK,bh,gh,or_false]at hl;subst hl;refine ql fun U hp=>?_;simp only[bh,gh,or_false,forall_eq_or_imp,forall_eq,u7,u9,va,jU,jV,vb,IE.ae]at hp ⊢;rw[Tt (by omega),show((U 6).int+1).toNat=(U 6).int.toNat+1 by omega,Int.pow_succ];grind
theorem ajg:∀l∈rK 236,fa l:=by
 intro l hl;simp only[rK,bh,gh,or_false]at hl;subst hl;exact Hi
theorem l19:∀l∈rK 19,fa l:=by
 intro l hl;simp only[rK,bh,gh,or_false]at hl;subst hl;exact Hi
theorem l24:∀l∈rK 24,fa l:=by
 intro l hl;simp only[rK,bh,gh,or_false]at hl;rcases hl with rfl|rfl;exact Hi;refine ql fun U hp=>?_;simp only[bh,gh,or_false,forall_eq_or_imp,forall_eq,u7,u9,va,jU,jV,vb,IE.ae]at hp;simp only[eG,u7,u9,va,jU,jV,vb,IE.ae];obtain⟨h1,h2,h3⟩:=hp;generalize cellAt (U 95).list 0 0=A at *;generalize cellAt (U 95).list 1 0=B at *;have a1:=nG h2 (show 0<=A by omega);have a2:=tk h1 (show 0<=B by omega);omega
theorem ajh:∀l∈rK 141,fa l:=by
 intro l hl;simp only[rK,bh,gh,or_false]at hl;subst hl;refine ql fun U hp=>?_;simp only[bh,gh,or_false,forall_eq,u7,u9,va,jU,jV,vb,IE.ae]at hp;simp only[eG,lg,nU,kG,u7,u9,va,jU,jV,vb,IE.ae];omega
theorem aji:∀l∈rK 112,fa l:=by
 intro l hl;simp only[rK,bh,gh,or_false]at hl;subst hl;refine ql fun U hp=>?_;simp only[bh,gh,or_false,forall_eq_or_imp,forall_eq,u7,u9,va,jU,jV,vb,IE.ae]at hp;simp only[eG,u7,u9,va,jU,jV,vb,IE.ae];generalize uT.ae U=L at *;omega
theorem U4{n d:Int}(hd:1<=d)(h1: -1073741824<=n)(h2:n<=1073741824): -1073741824<=n.tdiv d/\n.tdiv d<=1073741824/\n.tdiv d*d+n.tmod d=n/\-d<n.tmod d/\n.tmod d<d:=by
 have e:=tdm n d;have b:(n.tdiv d).natAbs<=n.natAbs:=by rw[Int.natAbs_tdiv];exact Nat.div_le_self _ _
 have c:(n.tmod d).natAbs<d.natAbs:=by rw[Int.natAbs_tmod];exact Nat.mod_lt _ (by omega)
 omega
theorem ajj:∀l∈rK 204,fa l:=by
 intro l hl;simp only[rK,bh,gh,or_false]at hl;rcases hl with rfl|rfl;refine ql fun U hp=>?_;simp only[bh,gh,or_false,forall_eq_or_imp,forall_eq,u7,u9,va,jU,jV,vb,IE.ae]at hp;simp only[imp,eG,lg,N8,u7,u9,va,jU,jV,vb,IE.ae];by_cases h: -1073741824<=(U 0).int/\(U 0).int<=1073741824;right;have k:=U4 hp.2 h.1 h.2;have e0:=Tt (n:=(U 0).int.tdiv (U 1).int) (by omega);rw[e0,Tt (by omega)];have e1:(U 1).int*((U 0).int.tdiv (U 1).int-1)=(U 0).int.tdiv (U 1).int*(U 1).int-(U 1).int:=by grind
 rw[e1];omega;left;omega;refine ql fun U hp=>?_;simp only[bh,gh,or_false,forall_eq_or_imp,forall_eq,u7,u9,va,jU,jV,vb,IE.ae]at hp;simp only[imp,eG,lg,u7,u9,va,jU,jV,vb,IE.ae];by_cases h: -1073741824<=(U 0).int/\(U 0).int<=1073741824;right;have k:=U4 hp.2 h.1 h.2;rw[Tt (by omega)];have e1:(U 1).int*(U 0).int.tdiv (U 1).int=(U 0).int.tdiv (U 1).int*(U 1).int:=mc ..;rw[e1];omega;left;omega
theorem ajk:∀l∈rK 210,fa l:=by
 intro l hl;simp only[rK,bh,gh,or_false]at hl;subst hl;refine ql fun U hp=>?_;simp only[u7,u9,va,jU,jV,vb,IE.ae];omega
theorem ajl:∀l∈rK 207,fa l:=by
 intro l hl;simp only[rK,bh,gh,or_false]at hl;rcases hl with rfl|rfl;refine ql fun U hp=>?_;simp only[bh,gh,or_false,forall_eq,Z5,u7,u9,va,jU,jV,vb,IE.ae]at hp ⊢;omega;refine ql fun U hp=>?_;simp only[bh,gh,or_false,forall_eq_or_imp,forall_eq,Z5,u7,u9,va,jU,jV,vb,IE.ae]at hp ⊢;omega
theorem ajm:∀l∈rK 134,fa l:=by
 intro l hl;simp only[rK,bh,gh,or_false]at hl;subst hl;refine ql fun U hp=>?_;simp only[bh,gh,or_false,forall_eq_or_imp,forall_eq,u7,u9,va,jU,jV,vb,IE.ae]at hp;simp only[eG,u7,u9,va,jU,jV,vb,IE.ae];obtain⟨h1,h2,h3⟩:=hp;generalize(U 0).int=A at *;generalize(U 1).int=B at *;have a1:=nG h2 (show 0<=A by omega);have a2:=tk h1 (show 0<=B by omega);omega
theorem l57:∀l∈rK 57,fa l:=by
 intro l hl;simp only[rK,bh,gh,or_false]at hl;subst hl;refine ql fun U hp=>?_;simp only[bh,gh,or_false,forall_eq_or_imp,forall_eq,acf,imp,u7,u9,va,jU,jV,vb,IE.ae]at hp ⊢;obtain⟨h1,h2,h3,h4⟩:=hp;by_cases h:(U 6).int=0;rw[h]at h3 h4;exact⟨h3,h4⟩;rcases h1 with h1|h1;omega;exact h1
theorem aB(k:Nat):∀l∈(an k).dZ,fa l:=by
 show ∀l∈rK k,fa l;by_cases ajn:k=202;subst ajn;exact ajb;by_cases ajo:k=221;subst ajo;exact ajc;by_cases To:k=123;subst To;exact ajd;by_cases ajp:k=198;subst ajp;exact ajf;by_cases h84:k=84;subst h84;exact l84;by_cases h73:k=73;subst h73;exact l73;by_cases ajq:k=236;subst ajq;exact ajg;by_cases U2:k=19;subst U2;exact l19;by_cases h24:k=24;subst h24;exact l24;by_cases ajr:k=141;subst ajr;exact ajh;by_cases Tn:k=112;subst Tn;exact aji;by_cases ajs:k=204;subst ajs;exact ajj;by_cases ajt:k=210;subst ajt;exact ajk;by_cases aju:k=134;subst aju;exact ajm;by_cases h57:k=57;subst h57;exact l57;by_cases ajv:k=207;subst ajv;exact ajl;intro l hl;unfold rK at hl;split at hl
 all_goals first|contradiction|(exact absurd hl (by simp))
end
section
open Go.Sx Go
abbrev Du(P:Program)(X:bD)(i k:Nat):Prop:=nO (TT P) X kc (ord.take i)->qn (TT P) X k (kc k).fQ (kc k).iA
theorem acp{X:bD}(h7:nO (TT Tryz.prog) X kc (ord.take 7))(m47:Du Tryz.prog X 19 47)(m44:Du Tryz.prog X 20 44)(KO:Du Tryz.prog X 22 30)(ahF:Du Tryz.prog X 48 241):nO (TT Tryz.prog) X kc (ord.take 125):=by
 have h8:=h7.next (k:=9) rfl (aC aB h7 c9)
 have h9:=h8.next (k:=56) rfl (aC aB h8 c56)
 have U1:=h9.next (k:=37) rfl (aC aB h9 c37)
 have Z9:=U1.next (k:=23) rfl (aC aB U1 c23)
 have h12:=Z9.next (k:=41) rfl (aC aB Z9 c41)
 have h13:=h12.next (k:=65) rfl (aC aB h12 c65)
 have Z':=h13.next (k:=42) rfl (aC aB h13 c42)
 have h15:=Z'.next (k:=28) rfl (aC aB Z' c28)
 have h16:=h15.next (k:=100) rfl (aC aB h15 ahG)
 have h17:=h16.next (k:=66) rfl (aC aB h16 c66)
 have Rq:=h17.next (k:=43) rfl (aC aB h17 c43)
 have U2:=Rq.next (k:=29) rfl (aC aB Rq c29)
 have Lt:=U2.next (k:=47) rfl (m47 U2)
 have h21:=Lt.next (k:=44) rfl (m44 Lt)
 have h22:=h21.next (k:=46) rfl (aC aB h21 c46)
 have h23:=h22.next (k:=30) rfl (KO h22)
 have h24:=h23.next (k:=101) rfl (aC aB h23 ahH)
 have h25:=h24.next (k:=67) rfl (aC aB h24 c67)
 have h26:=h25.next (k:=174) rfl (aC aB h25 ahI)
 have h27:=h26.next (k:=195) rfl (aC aB h26 ahJ)
 have h28:=h27.next (k:=149) rfl (aC aB h27 ahK)
 have h29:=h28.next (k:=102) rfl (aC aB h28 ahL)
 have h30:=h29.next (k:=151) rfl (aC aB h29 ahM)
 have h31:=h30.next (k:=150) rfl (aC aB h30 ahN)
 have h32:=h31.next (k:=104150) rfl (aC aB h31 Tk)
 have h33:=h32.next (k:=103) rfl (aC aB h32 ahO)
 have h34:=h33.next (k:=107) rfl (aC aB h33 ahP)
 have h35:=h34.next (k:=106) rfl (aC aB h34 ahQ)
 have h36:=h35.next (k:=104106) rfl (aC aB h35 Tl)
 have h37:=h36.next (k:=105) rfl (aC aB h36 ahR)
 have h38:=h37.next (k:=69) rfl (aC aB h37 c69)
 have h39:=h38.next (k:=109) rfl (aC aB h38 ahS)
 have h40:=h39.next (k:=155) rfl (aC aB h39 ahT)
 have h41:=h40.next (k:=139) rfl (aC aB h40 ahU)
 have h42:=h41.next (k:=196) rfl (aC aB h41 c196)
 have h43:=h42.next (k:=240) rfl (aC aB h42 ahV)
 have h44:=h43.next (k:=197) rfl (aC aB h43 ahW)
 have h45:=h44.next (k:=156) rfl (aC aB h44 ahX)
 have IJ:=h45.next (k:=110) rfl (aC aB h45 ahY)
 have AS:=IJ.next (k:=157) rfl (aC aB IJ ahZ)
 have h48:=AS.next (k:=267) rfl (aC aB AS ah0)
 have h49:=h48.next (k:=241) rfl (ahF h48)
 have h50:=h49.next (k:=242) rfl (aC aB h49 ah1)
 have h51:=h50.next (k:=198) rfl (aC aB h50 c198)
 have h52:=h51.next (k:=199) rfl (aC aB h51 ah2)
 have h53:=h52.next (k:=158) rfl (aC aB h52 ah3)
 have X8:=h53.next (k:=111) rfl (aC aB h53 ah4)
 have h55:=X8.next (k:=71) rfl (aC aB X8 c71)
 have h56:=h55.next (k:=159) rfl (aC aB h55 ah5)
 have h57:=h56.next (k:=200) rfl (aC aB h56 ah6)
 have h58:=h57.next (k:=201) rfl (aC aB h57 ah7)
 have h59:=h58.next (k:=202) rfl (aC aB h58 ah8)
 have h60:=h59.next (k:=160) rfl (aC aB h59 ah9)
 have h61:=h60.next (k:=161) rfl (aC aB h60 ah')
 have h62:=h61.next (k:=246) rfl (aC aB h61 aia)
 have HJ:=h62.next (k:=245) rfl (aC aB h62 aib)
 have h64:=HJ.next (k:=205245) rfl (aC aB HJ Tm)
 have h65:=h64.next (k:=163) rfl (aC aB h64 aic)
 have h66:=h65.next (k:=204) rfl (aC aB h65 aid)
 have h67:=h66.next (k:=244) rfl (aC aB h66 aie)
 have h68:=h67.next (k:=203) rfl (aC aB h67 aif)
 have h69:=h68.next (k:=112) rfl (aC aB h68 aih)
 have h70:=h69.next (k:=164) rfl (aC aB h69 aii)
 have h71:=h70.next (k:=165) rfl (aC aB h70 aij)
 have h72:=h71.next (k:=210) rfl (aC aB h71 aik)
 have h73:=h72.next (k:=211) rfl (aC aB h72 ail)
 have h74:=h73.next (k:=247) rfl (aC aB h73 aim)
 have h75:=h74.next (k:=250) rfl (aC aB h74 ain)
 have h76:=h75.next (k:=251) rfl (aC aB h75 aio)
 have h77:=h76.next (k:=284) rfl (aC aB h76 aip)
 have h78:=h77.next (k:=268) rfl (aC aB h77 aiq)
 have h79:=h78.next (k:=207) rfl (aC aB h78 air)
 have h80:=h79.next (k:=208) rfl (aC aB h79 ais)
 have h81:=h80.next (k:=166) rfl (aC aB h80 ait)
 have h82:=h81.next (k:=168) rfl (aC aB h81 aiu)
 have h83:=h82.next (k:=170) rfl (aC aB h82 aiv)
 have h84:=h83.next (k:=213) rfl (aC aB h83 aiw)
 have h85:=h84.next (k:=171) rfl (aC aB h84 aix)
 have h86:=h85.next (k:=172) rfl (aC aB h85 aiy)
 have h87:=h86.next (k:=113) rfl (aC aB h86 aiz)
 have h88:=h87.next (k:=72) rfl (aC aB h87 c72)
 have h89:=h88.next (k:=114) rfl (aC aB h88 aiA)
 have h90:=h89.next (k:=115) rfl (aC aB h89 aiB)
 have h91:=h90.next (k:=117) rfl (aC aB h90 aiC)
 have h92:=h91.next (k:=173) rfl (aC aB h91 aiD)
 have h93:=h92.next (k:=73) rfl (aC aB h92 c73)
 have h94:=h93.next (k:=118) rfl (aC aB h93 aiE)
 have h95:=h94.next (k:=119) rfl (aC aB h94 c119)
 have h96:=h95.next (k:=214) rfl (aC aB h95 aiF)
 have h97:=h96.next (k:=215) rfl (aC aB h96 aiG)
 have h98:=h97.next (k:=216) rfl (aC aB h97 aiH)
 have h99:=h98.next (k:=175) rfl (aC aB h98 aiI)
 have acr:=h99.next (k:=121) rfl (aC aB h99 aiJ)
 have acs:=acr.next (k:=120) rfl (aC aB acr aiK)
 have acu:=acs.next (k:=220) rfl (aC aB acs aiL)
 have acv:=acu.next (k:=176) rfl (aC aB acu aiM)
 have acw:=acv.next (k:=269) rfl (aC aB acv aiN)
 have acx:=acw.next (k:=252) rfl (aC aB acw aiO)
 have acy:=acx.next (k:=270) rfl (aC aB acx aiP)
 have acz:=acy.next (k:=271) rfl (aC aB acy aiQ)
 have acA:=acz.next (k:=253) rfl (aC aB acz aiR)
 have acB:=acA.next (k:=221) rfl (aC aB acA aiS)
 have acC:=acB.next (k:=222) rfl (aC aB acB aiT)
 have acD:=acC.next (k:=272) rfl (aC aB acC aiU)
 have Tn:=acD.next (k:=273) rfl (aC aB acD aiV)
 have acE:=Tn.next (k:=254) rfl (aC aB Tn aiW)
 have acF:=acE.next (k:=223) rfl (aC aB acE aiX)
 have acG:=acF.next (k:=224) rfl (aC aB acF aiY)
 have acH:=acG.next (k:=225) rfl (aC aB acG aiZ)
 have acI:=acH.next (k:=177) rfl (aC aB acH ai0)
 have acJ:=acI.next (k:=122) rfl (aC aB acI ai1)
 have acK:=acJ.next (k:=123) rfl (aC aB acJ ai2)
 have acL:=acK.next (k:=124) rfl (aC aB acK ai3)
 have acM:=acL.next (k:=74) rfl (aC aB acL c74)
 have acN:=acM.next (k:=152) rfl (aC aB acM ai4)
 have To:=acN.next (k:=153) rfl (aC aB acN ai5)
 have acO:=To.next (k:=154) rfl (aC aB To ai6)
 have ai7:=acO.next (k:=108) rfl (aC aB acO ai8)
 exact ai7
end
section
open Go.Sx
def iv(a:Nat):Nat->List DE
 |0=>[]
 |n+1=>.i (.v a)::iv (a+1) n
def r6(x:IE):BE:=.and (.le (.c (-9223372036854775808)) x) (.le x (.c 9223372036854775807))
def ns(l:List BE)(t:ar):ar:=l.foldr (fun p t=>.ev (.aG p) t) t
section
variable {E:Nat->List DV->List DV->Prop}{R:List DV->Prop}{Ps:List (Int->Prop)}{U:aA}{F:Nat->List DV->Prop}{t t':ar}
theorem nQ{x:IE}(h: -9223372036854775808<=x.ae U/\x.ae U<=9223372036854775807):(r6 x).ae U=true:=by
 simp only[r6,BE.ae,IE.ae,ah];exact⟨mM h.1,mM h.2⟩
theorem KE{x:IE}(h: -9223372036854775808<=x.ae U/\x.ae U<=9223372036854775807)(ht:t.jm E R Ps U F):(ar.ev (.aG (r6 x)) t).jm E R Ps U F:=pM (nQ h) ht
theorem Hh:∀ {l:List BE},(∀p∈l,p.ae U=true)->t.jm E R Ps U F->(ns l t).jm E R Ps U F
 | [],_,ht=>ht
 |p::l,h,ht=>pM (h p (aM ..)) (Hh (fun q hq=>h q (aZ _ hq)) ht)
theorem acP{a b:IE}(h:a.ae U<b.ae U)(ht:t.jm E R Ps U F):(ar.ev (.aG (.lt a b)) t).jm E R Ps U F:=pM (mM h) ht
theorem tM{a b:IE}(h:a.ae U<=b.ae U)(ht:t.jm E R Ps U F):(ar.ev (.aG (.le a b)) t).jm E R Ps U F:=pM (mM h) ht
theorem Oy{id rY:Nat}{bO:List DE}{G G':List DV->Prop}(ck:Nat.beq id rY=false)(h:G (bO.map (DE.ae U))):(ar.again id bO).jm E R Ps U (oN (oN F id G) rY G'):=by
 have ck:id≠rY:=fun e=>by subst e;simp at ck
 simpa[ar.jm,oN,ck]using h
theorem nj{a b:IE}(h1:a.ae U<b.ae U->t.jm E R Ps U F)(h2:b.ae U<=a.ae U->t'.jm E R Ps U F):(ar.ite (.lt a b) t t').jm E R Ps U F:=
 rk (fun h=>h1 (qt h)) (fun h=>h2 (Int.not_lt.1 (T3 h)))
theorem dd{a b:IE}(h1:a.ae U=b.ae U->t.jm E R Ps U F)(h2:a.ae U≠b.ae U->t'.jm E R Ps U F):(ar.ite (.eq a b) t t').jm E R Ps U F:=
 rk (fun h=>h1 (qt h)) (fun h=>h2 (T3 h))
theorem gV{bO:List DE}{rs:List DV}(e:bO.map (DE.ae U)=rs)(h:R rs):(ar.ret bO).jm E R Ps U F:=by
 subst e;exact h
end
theorem dl{xs:List (List Int)}:(DV.l xs).list=xs:=rfl
theorem di{n:Int}:(DV.i n).int=n:=rfl
def eL(l:List Int):List (List Int):=l.map fun x=>[x]
theorem dK{l:List Int}:(eL l).length=l.length:=kT ..
theorem Fc{l:List Int}{i:Int}(h0:0<=i)(h1:i<l.length):cellAt (eL l) i 0=l.getD i.toNat 0:=by
 unfold cellAt eL;have:i.toNat<l.length:=by omega
 simp[List.getD,this]
theorem uV{l:List Int}{i:Int}{x:Int}:setAt (eL l) i 0 x=eL (l.set i.toNat x):=by
 unfold setAt eL;refine List.ext_getElem? fun k=>?_;simp only[List.getElem?_modify,gJ,List.getElem?_set];by_cases e:i.toNat=k;subst e;rcases pf i.toNat l.length with h|h;simp[h,l7];simp[h,Nat.not_lt.2 h];simp[e]
theorem zI{n:Nat}{x:Int}:List.replicate n [x]=eL (List.replicate n x):=by simp[eL]
theorem Fe{l:List Int}{i:Nat}(h:i<l.length):l.getD i 0∈l:=by
 simp[List.getD,h]
end
end Go.Proofs.YtohebioanhliiaaGreatDoor.aw
namespace Go.Sx.Df
def b:Int:=4294967296
structure Inv(a c p r q h:Int):Prop where
 rest:h=a-q*p
 up:(a*b+c)/(p*b+r)<=q
 h0:0<=h
theorem E1{a c p r q h:Int}(hp:2147483648<=p)(N9:p<b)(dg:0<=r)(hr:r<b)(u6:0<=c)(hc:c<b)(IB:0<=a)(hi:Inv a c p r q h)(ht:q*r<=b*h+c):q=(a*b+c)/(p*b+r):=by
 have hv:0<p*b+r:=by unfold b at *;omega
 have h1:q*(p*b+r)<=a*b+c:=by
   have e:q*(p*b+r)=q*p*b+q*r:=by grind
   have e2:b*h=a*b-q*p*b:=by rw[hi.rest];grind
   omega
 have h2:=Int.le_ediv_of_mul_le hv h1;have:=hi.up;omega
theorem Oa{a c p r:Int}(hp:2147483648<=p)(dg:0<=r)(u6:0<=c)(hc:c<b)(IB:0<=a):Inv a c p r (a/p) (a-a/p*p):=by
 have hv:0<p*b+r:=by unfold b at *;omega
 refine⟨rfl,?_,?_⟩;have h1:=D9 a (show 0<p by omega);have h2:a-a/p*p<p:=by have:=Int.emod_add_mul_ediv a p;have e:p*(a/p)=a/p*p:=mc ..;omega
 have h3:(a*b+c)/(p*b+r)<a/p+1:=by
   refine D' hv ?_;have q0:=vy IB (show 0<=p by omega);have e1:(a/p+1)*(p*b+r)=(a/p*p+p)*b+(a/p+1)*r:=by grind
   have e2:=qR (show 0<=a/p+1 by omega) dg;have e3:a+1<=a/p*p+p:=by omega
   have e4:=tk e3 (show 0<=b by unfold b;omega);have e5:(a+1)*b=a*b+b:=by grind
   omega
 omega;have:=Int.ediv_mul_le a (show p≠0 by omega);omega
theorem Tf{a c p r q h:Int}(hp:2147483648<=p)(dg:0<=r)(u6:0<=c)(IB:0<=a)(cF:a*b+c<(p*b+r)*b)(hi:Inv a c p r q h)(ht:b<=q\/b*h+c<q*r):Inv a c p r (q-1) (h+p):=by
 have hv:0<p*b+r:=by unfold b at *;omega
 have hq:(a*b+c)/(p*b+r)<q:=by
   rcases ht with ht|ht;have:(a*b+c)/(p*b+r)<b:=D' hv (by have:b*(p*b+r)=(p*b+r)*b:=mc ..;omega);omega;refine D' hv ?_;have e:q*(p*b+r)=q*p*b+q*r:=by grind
   have e2:b*h=a*b-q*p*b:=by rw[hi.rest];grind
   omega
 refine⟨?_,by omega,?_⟩;rw[hi.rest];grind;have:=hi.h0;omega
theorem Tg{a c p r q h:Int}(hp:2147483648<=p)(N9:p<b)(dg:0<=r)(hr:r<b)(u6:0<=c)(hc:c<b)(IB:0<=a)(cF:a<p*b+r)(hi:Inv a c p r q h)(hh:b<=h)(UZ:0<=q):q=(a*b+c)/(p*b+r):=by
 refine E1 hp N9 dg hr u6 hc IB hi ?_;have hq:q<=b:=by
   rcases Int.lt_or_le b q with h1|h1;have e1:=tk (show b+1<=q by omega) (show 0<=p by omega);have e2:(b+1)*p=p*b+p:=by grind
   have:=hi.rest;unfold b at *;omega;exact h1
 have e1:=tk hq dg;have e2:=nG hh (show 0<=b by unfold b;omega);have e3:=nG (show r<=b by omega) (show 0<=b by unfold b;omega);omega
theorem Fo:∀f x:Nat,x<2 ^ f->x<2 ^ Lib.bitLenAux f x/\(x≠0->2 ^ Lib.bitLenAux f x<=2*x)
 |0,x,h=>⟨by simpa[Lib.bitLenAux]using h,fun h'=>by simp at h;omega⟩
 | f+1,x,h=>by
   rw[Lib.bitLenAux];split;rename_i h0;subst h0;exact⟨by decide,fun h=>absurd rfl h⟩;rename_i h0;have h2:x/2<2 ^ f:=by rw[Nat.pow_succ]at h;omega
   obtain⟨i1,i2⟩:=Fo f (x/2) h2;rw[Nat.add_comm,Nat.pow_succ];refine⟨by omega,fun _=>?_⟩;rcases Nat.eq_zero_or_pos (x/2)with e|e;have:Lib.bitLenAux f (x/2)=0:=by
     rw[e];cases f<;>simp[Lib.bitLenAux]
   rw[this];omega;have:=i2 (by omega);omega
theorem Th{y:Int}(h0:1<=y)(h1:y<18446744073709551616):∃s:Nat,(64-(Lib.bitLen y.toNat:Int))=s/\s<=63/\9223372036854775808<=y*2 ^ s/\y*2 ^ s<18446744073709551616:=by
 obtain⟨i1,i2⟩:=Fo 64 y.toNat (by omega);have e2:=i2 (by omega);have hle:Lib.bitLenAux 64 y.toNat<=64:=by
   rcases pf 64 (Lib.bitLenAux 64 y.toNat)with h|h;have:=Nat.pow_le_pow_right (show 0<2 by omega) (show 65<=Lib.bitLenAux 64 y.toNat by omega);omega;exact h
 have ll:1<=Lib.bitLenAux 64 y.toNat:=by
   rcases Nat.eq_zero_or_pos (Lib.bitLenAux 64 y.toNat)with h|h;rw[h]at i1;omega;exact h
 refine⟨64-Lib.bitLenAux 64 y.toNat,by unfold Lib.bitLen;omega,by omega,?_,?_⟩
 all_goals
   have ey:y=(y.toNat:Int):=by omega
   have ep:2 ^ Lib.bitLenAux 64 y.toNat*2 ^ (64-Lib.bitLenAux 64 y.toNat)=2 ^ 64:=by rw[<- Nat.pow_add];congr 1;omega
   generalize Lib.bitLenAux 64 y.toNat=k at *;generalize y.toNat=x at *;subst ey;have hp:0<2 ^ (64-k):=Nat.pow_pos (by omega);have c1:=Nat.mul_lt_mul_of_pos_right i1 hp;have c2:=vn (2 ^ (64-k)) e2;rw[ep]at c1 c2;have c3:2*x*2 ^ (64-k)=2*(x*2 ^ (64-k)):=Nat.mul_assoc ..;have c4:((x*2 ^ (64-k):Nat):Int)=(x:Int)*2 ^ (64-k):=by push_cast;rfl
   rw[<- c4];omega
theorem acg{hi lo:Int}{s:Nat}(hs:s<=64)(h0:0<=lo)(h1:lo<18446744073709551616):(hi*2 ^ s+lo/2 ^ (64-s))*18446744073709551616+(lo*2 ^ s)%18446744073709551616=(hi*18446744073709551616+lo)*2 ^ s/\0<=lo/2 ^ (64-s)/\lo/2 ^ (64-s)<2 ^ s:=by
 have ep:(2:Int) ^ (64-s)*2 ^ s=18446744073709551616:=by rw[<- Int.pow_add];rw[show 64-s+s=64 by omega];rfl
 have p1:(0:Int)<2 ^ (64-s):=Int.pow_pos (by omega);have p2:(0:Int)<2 ^ s:=Int.pow_pos (by omega);have d:=Int.emod_add_mul_ediv lo (2 ^ (64-s));have m0:=FC lo (show(2:Int) ^ (64-s)≠0 by omega);have m1:=D9 lo p1;have q0:=vy h0 (show(0:Int)<=2 ^ (64-s)by omega);have q1:lo/2 ^ (64-s)<2 ^ s:=D' p1 (by rw[mc,ep];exact h1);generalize lo/2 ^ (64-s)=h at *;generalize lo%2 ^ (64-s)=l at *;generalize(2:Int) ^ (64-s)=B at *;generalize(2:Int) ^ s=P at *;have e1:lo*P=h*18446744073709551616+l*P:=by
   rw[<- d,<- ep];grind
 have l0:=qR m0 (show 0<=P by omega);have l1:l*P<18446744073709551616:=by
   rw[<- ep];exact Int.mul_lt_mul_of_pos_right m1 p2
 have e2:(lo*P)%18446744073709551616=l*P:=by
   rw[e1];omega
 refine⟨?_,q0,q1⟩;rw[e2];have e3:(hi*P+h)*18446744073709551616+l*P=hi*P*18446744073709551616+(h*18446744073709551616+l*P):=by grind
 rw[e3,<- e1];grind
theorem join{N y P Y A c d q1 q0:Int}(hP:0<P)(hy:0<y)(hY:Y=y*P)(hN:A*(b*b)+(c*b+d)=N*P)(LM:q1=(A*b+c)/Y)(UZ:q0=((A*b+c-q1*Y)*b+d)/Y) :
   q1*b+q0=N/y/\((A*b+c-q1*Y)*b+d-q0*Y)/P=N%y/\(A*b+c-q1*Y)*b+d-q0*Y=N%y*P:=by
 have hYp:0<Y:=by rw[hY];exact Int.mul_pos hy hP
 have r0:=FC ((A*b+c-q1*Y)*b+d) (show Y≠0 by omega);have r1:=D9 ((A*b+c-q1*Y)*b+d) hYp;have e:=Int.emod_add_mul_ediv ((A*b+c-q1*Y)*b+d) Y;rw[<- UZ]at e;have hr:(A*b+c-q1*Y)*b+d-q0*Y=((A*b+c-q1*Y)*b+d)%Y:=by
   have:Y*q0=q0*Y:=mc ..;omega
 have hk:(A*b+c-q1*Y)*b+d-q0*Y=(N-(q1*b+q0)*y)*P:=by
   have:(N-(q1*b+q0)*y)*P=N*P-(q1*b+q0)*(y*P):=by grind
   rw[this,<- hN,<- hY];grind
 generalize(A*b+c-q1*Y)*b+d-q0*Y=R at *;generalize((A*b+c-q1*Y)*b+d)%Y=R' at *;subst hr;have k0:0<=N-(q1*b+q0)*y:=by
   rcases Int.lt_or_le (N-(q1*b+q0)*y) 0 with h|h;have:=Int.mul_lt_mul_of_pos_right h hP;omega;exact h
 have k1:N-(q1*b+q0)*y<y:=by
   rcases Int.lt_or_le (N-(q1*b+q0)*y) y with h|h;exact h;have:=tk h (show 0<=P by omega);omega
 have hm:N%y=N-(q1*b+q0)*y:=by
   have:=Int.emod_emod_of_dvd N (Int.dvd_refl y);have e3:N=(N-(q1*b+q0)*y)+y*(q1*b+q0):=by grind
   rw[e3,Int.add_mul_emod_self_left];rw[Int.emod_eq_of_lt k0 k1];grind
 refine⟨?_,?_,?_⟩;have:=Int.emod_add_mul_ediv N y;have e4:y*(N/y)=y*(q1*b+q0):=by
   have:y*(q1*b+q0)=(q1*b+q0)*y:=mc ..;omega
 exact(Int.eq_of_mul_eq_mul_left (by omega) e4).symm;rw[hk,Int.mul_ediv_cancel _ (by omega),hm];rw[hk,hm]
end Go.Sx.Df
namespace Go.Proofs.YtohebioanhliiaaGreatDoor.aw
section
open Go.Sx Go Go.Sx.Df
abbrev bE:IE:=.c 4294967296
def sE:IE:=.wrap .u64 (.v 3)
def yE:IE:=.wrap .u64 (.shl (.v 2) sE)
def pE:IE:=.ediv yE 4294967296
def rE:IE:=.emod yE 4294967296
def aE:IE:=.bits .or .u64 (.wrap .u64 (.shl (.v 0) sE)) (.shr (.v 1) (.wrap .u64 (.sub (.c 64) sE)))
def lE:IE:=.wrap .u64 (.shl (.v 1) sE)
def cE:IE:=.ediv lE 4294967296
def dE:IE:=.emod lE 4294967296
def uE(q:IE):IE:=.wrap .u64 (.sub (.wrap .u64 (.add (.wrap .u64 (.mul aE bE)) cE)) (.wrap .u64 (.mul q yE)))
def XK(q q0:IE):IE:=.shr (.wrap .u64 (.sub (.wrap .u64 (.add (.wrap .u64 (.mul (uE q) bE)) dE)) (.wrap .u64 (.mul q0 yE)))) sE
def XL(q q0:IE):ar:=.ev (.aG (.le (.c 0) sE)) (.ev (.aG (.le sE (.c 64))) (.ret [.i (.wrap .u64 (.add (.wrap .u64 (.mul q bE)) q0)),.i (XK q q0)]))
def inT(q:IE):ar:=.ev (.aG (.qu pE)) (
.loop 241024 [.i (.wrap .u64 (.sub (uE q) (.wrap .u64 (.mul (.wrap .u64 (.tdiv (uE q) pE)) pE)))),.i (.wrap .u64 (.tdiv (uE q) pE))] [.c (.i .u64),.c (.i .u64)] 6 (
.ite (.or (.le bE (.v 7)) (.lt (.wrap .u64 (.add (.wrap .u64 (.mul bE (.v 6))) dE)) (.wrap .u64 (.mul (.v 7) rE)))) (
.ite (.le bE (.wrap .u64 (.add (.v 6) pE))) (XL q (.wrap .u64 (.sub (.v 7) (.c 1)))) (
.again 241024 [.i (.wrap .u64 (.add (.v 6) pE)),.i (.wrap .u64 (.sub (.v 7) (.c 1)))])) (
 XL q (.v 7))))
def t241:ar:=
.ite (.eq (.v 2) (.c 0)) (
.stuck "") (
.ite (.le (.v 2) (.v 0)) (
.stuck "") (
.ite (.eq (.v 0) (.c 0)) (
.ev (.aG (.qu (.v 2))) (
.ret [.i (.wrap .u64 (.tdiv (.v 1) (.v 2))),.i (.tmod (.v 1) (.v 2))])) (
.ev (.call 267 (.c true) [.i (.v 2)] [.one (.c (.i .i64))] 3) (
.ev (.aG (.le (.c 0) sE)) (
.ev (.aG (.le sE (.c 64))) (
.ev (.aG (.le (.c 0) (.wrap .u64 (.sub (.c 64) sE)))) (
.ev (.aG (.le (.wrap .u64 (.sub (.c 64) sE)) (.c 64))) (
.ev (.aG (.qu pE)) (
.loop 241017 [.i (.wrap .u64 (.tdiv aE pE)),.i (.wrap .u64 (.sub aE (.wrap .u64 (.mul (.wrap .u64 (.tdiv aE pE)) pE))))] [.c (.i .u64),.c (.i .u64)] 4 (
.ite (.or (.le bE (.v 4)) (.lt (.wrap .u64 (.add (.wrap .u64 (.mul bE (.v 5))) cE)) (.wrap .u64 (.mul (.v 4) rE)))) (
.ite (.le bE (.wrap .u64 (.add (.v 5) pE))) (inT (.wrap .u64 (.sub (.v 4) (.c 1)))) (
.again 241017 [.i (.wrap .u64 (.sub (.v 4) (.c 1))),.i (.wrap .u64 (.add (.v 5) pE))])) (
 inT (.v 4))))))))))))
theorem ahm:TT Tryz.prog 241=some ⟨241,t241,(rowOf 241).sub⟩:=by kernel_rfl
def t267:ar:=.ev (.call 283 (.c true) [.i (.v 0)] [.one (.c (.i .i64))] 1) (.ev (.aG (r6 (.sub (.c 64) (.v 1)))) (.ret [.i (.sub (.c 64) (.v 1))]))
theorem ahn:TT Tryz.prog 267=some ⟨267,t267,(rowOf 267).sub⟩:=by kernel_rfl
theorem wu(n:Int):IntKind.u64.wrap n=n%18446744073709551616:=IntKind.wrap_u64 n
theorem wid{n:Int}(h0:0<=n)(h1:n<18446744073709551616):IntKind.u64.wrap n=n:=by rw[wu];exact Int.emod_eq_of_lt h0 h1
structure Nm(hi lo y:Int)(k:Nat):Prop where
 te:0<=hi
 cF:hi<y
 lo0:0<=lo
 lo1:lo<18446744073709551616
 hk:k<=63
 n0:9223372036854775808<=y*2 ^ k
 n1:y*2 ^ k<18446744073709551616
def Yv(y:Int)(k:Nat):Int:=y*2 ^ k
def Av(hi lo:Int)(k:Nat):Int:=hi*2 ^ k+lo/2 ^ (64-k)
def Lv(lo:Int)(k:Nat):Int:=(lo*2 ^ k)%18446744073709551616
def pv(y:Int)(k:Nat):Int:=Yv y k/4294967296
def rv(y:Int)(k:Nat):Int:=Yv y k%4294967296
def cv(lo:Int)(k:Nat):Int:=Lv lo k/4294967296
def dv(lo:Int)(k:Nat):Int:=Lv lo k%4294967296
structure Vf(e:aA)(hi lo y:Int)(k:Nat):Prop where
 h0:e 0 = .i hi
 h1:e 1 = .i lo
 h2:e 2 = .i y
 h3:e 3 = .i k
section
variable {e:aA}{hi lo y:Int}{k:Nat}
theorem Vf.ay(h:Vf e hi lo y k){j:Nat}(hj:4<=j)(ds:List DV):Vf (e.ay j ds) hi lo y k:=
 ⟨by rw[aA.bn (by omega)];exact h.h0,by rw[aA.bn (by omega)];exact h.h1,by rw[aA.bn (by omega)];exact h.h2,by rw[aA.bn (by omega)];exact h.h3⟩
theorem XM(k:Nat):(1:Int)<=2 ^ k:=Int.pow_pos (by omega)
theorem Nm.A(n:Nm hi lo y k):0<=Av hi lo k/\Av hi lo k<Yv y k/\Av hi lo k*18446744073709551616+Lv lo k=(hi*18446744073709551616+lo)*2 ^ k/\0<=lo/2 ^ (64-k)/\lo/2 ^ (64-k)<2 ^ k/\0<=hi*2 ^ k:=by
 obtain⟨m1,m2,m3⟩:=acg (hi:=hi) (s:=k) (by have:=n.hk;omega) n.lo0 n.lo1;have p1:=XM k;have e1:=tk (show hi+1<=y from n.cF) (show(0:Int)<=2 ^ k by omega);have e2:(hi+1)*2 ^ k=hi*2 ^ k+2 ^ k:=by grind
 have e3:=qR n.te (show(0:Int)<=2 ^ k by omega);refine⟨?_,?_,m1,m2,m3,e3⟩;show 0<=hi*2 ^ k+lo/2 ^ (64-k);omega;show hi*2 ^ k+lo/2 ^ (64-k)<y*2 ^ k;omega
theorem Nm.L(n:Nm hi lo y k):(0<=cv lo k/\cv lo k<4294967296)/\(0<=dv lo k/\dv lo k<4294967296)/\Lv lo k=cv lo k*4294967296+dv lo k:=by
 have:0<=Lv lo k/\Lv lo k<18446744073709551616:=by unfold Lv;omega
 unfold cv dv;omega
theorem Nm.P(n:Nm hi lo y k):(2147483648<=pv y k/\pv y k<4294967296)/\(0<=rv y k/\rv y k<4294967296)/\Yv y k=pv y k*4294967296+rv y k/\9223372036854775808<=Yv y k/\Yv y k<18446744073709551616:=by
 have h0:9223372036854775808<=Yv y k:=n.n0;have h1:Yv y k<18446744073709551616:=n.n1;unfold pv rv;omega
theorem dS(v:Vf e hi lo y k)(n:Nm hi lo y k):sE.ae e=(k:Int):=by
 show IntKind.u64.wrap (e 3).int=k;rw[v.h3];have:=n.hk;exact wid (by show(0:Int)<=k;omega) (by show(k:Int)<18446744073709551616;omega)
theorem dY(v:Vf e hi lo y k)(n:Nm hi lo y k):yE.ae e=Yv y k:=by
 show IntKind.u64.wrap ((e 2).int*2 ^ (sE.ae e).toNat)=y*2 ^ k;rw[v.h2,dS v n,xe];have:=n.n0;have:=n.n1;exact wid (by show 0<=y*2 ^ k;omega) (by show y*2 ^ k<18446744073709551616;omega)
theorem dP(v:Vf e hi lo y k)(n:Nm hi lo y k):pE.ae e=pv y k:=by
 show yE.ae e/4294967296=Yv y k/4294967296;rw[dY v n]
theorem dR(v:Vf e hi lo y k)(n:Nm hi lo y k):rE.ae e=rv y k:=by
 show yE.ae e%4294967296=Yv y k%4294967296;rw[dY v n]
theorem dL(v:Vf e hi lo y k)(n:Nm hi lo y k):lE.ae e=Lv lo k:=by
 show IntKind.u64.wrap ((e 1).int*2 ^ (sE.ae e).toNat)=(lo*2 ^ k)%18446744073709551616;rw[v.h1,dS v n,xe,wu];rfl
theorem dC(v:Vf e hi lo y k)(n:Nm hi lo y k):cE.ae e=cv lo k:=by
 show lE.ae e/4294967296=Lv lo k/4294967296;rw[dL v n]
theorem dD(v:Vf e hi lo y k)(n:Nm hi lo y k):dE.ae e=dv lo k:=by
 show lE.ae e%4294967296=Lv lo k%4294967296;rw[dL v n]
theorem dA(v:Vf e hi lo y k)(n:Nm hi lo y k):aE.ae e=Av hi lo k:=by
 show Go.bits .or .u64 (IntKind.u64.wrap ((e 0).int*2 ^ (sE.ae e).toNat)) ((e 1).int/2 ^ (IntKind.u64.wrap (64-sE.ae e)).toNat)=Av hi lo k;obtain⟨a0,a1,_,a3,a4,a5⟩:=n.A;obtain⟨_,_,_,_,y1⟩:=n.P;have hk:=n.hk;rw[v.h0,v.h1,dS v n,xe,show IntKind.u64.wrap (64-(k:Int))=((64-k:Nat):Int)by rw[wid (by omega) (by omega)];omega,xe];unfold Av at a0 a1 ⊢;show Go.bits .or .u64 (IntKind.u64.wrap (hi*2 ^ k)) (lo/2 ^ (64-k))=hi*2 ^ k+lo/2 ^ (64-k);rw[wid a5 (by omega)];show Go.bits .or .u64 (hi*2 ^ k) (lo/2 ^ (64-k))=hi*2 ^ k+lo/2 ^ (64-k);obtain⟨x,hx⟩:∃x:Nat,hi=x:=⟨hi.toNat,by have:=n.te;omega⟩;obtain⟨z,hz⟩:∃z:Nat,lo/2 ^ (64-k)=z:=⟨(lo/2 ^ (64-k)).toNat,by omega⟩;subst hx;rw[hz]at a0 a1 a3 a4 ⊢;have c1:((x*2 ^ k:Nat):Int)=(x:Int)*2 ^ k:=by push_cast;rfl
 have c2:((2 ^ k:Nat):Int)=(2:Int) ^ k:=by push_cast;rfl
 rw[<- c1]at a1 ⊢;rw[<- c2]at a4;rw[bits_or_u64_nat _ _ (by omega) (by omega)];have:=Nat.two_pow_add_eq_or_of_lt (show z<2 ^ k by omega) x;rw[Nat.mul_comm]at this;rw[<- this];omega
theorem UU{q h c r:Int}(h0:0<=h)(hb:h<4294967296)(c0:0<=c)(cb:c<4294967296)(q0:0<=q)(r0:0<=r)(rb:r<4294967296)(hc:(decide ((4294967296:Int)<=q)||decide (IntKind.u64.wrap (IntKind.u64.wrap (4294967296*h)+c)<IntKind.u64.wrap (q*r)))=true):b<=q\/b*h+c<q*r:=by
 unfold b;rw[wu,wu,wu,fU,aD,aD]at hc;rcases Int.lt_or_le q 4294967296 with hq|hq;have e1:=nG (show r<=4294967295 by omega) q0;have e2:=qR q0 r0;generalize q*r=m at *;omega;exact Or.inl hq
theorem UW{q h c r:Int}(h0:0<=h)(hb:h<4294967296)(c0:0<=c)(cb:c<4294967296)(q0:0<=q)(r0:0<=r)(rb:r<4294967296)(hc:(decide ((4294967296:Int)<=q)||decide (IntKind.u64.wrap (IntKind.u64.wrap (4294967296*h)+c)<IntKind.u64.wrap (q*r)))=false):q<b/\q*r<=b*h+c:=by
 unfold b;rw[wu,wu,wu,Ae,DG,DG]at hc;have e1:=nG (show r<=4294967295 by omega) q0;have e2:=qR q0 r0;generalize q*r=m at *;omega
def Lp(a c p r:Int)(q h:Int):Prop:=Inv a c p r q h/\0<=q/\q<=8589934592/\h<4294967296
theorem Lp.start{a c p r:Int}(hp:2147483648<=p)(N9:p<4294967296)(dg:0<=r)(u6:0<=c)(hc:c<4294967296)(IB:0<=a)(ha:a<18446744073709551616) :
   IntKind.u64.wrap (a.tdiv p)=a/p/\IntKind.u64.wrap (a-IntKind.u64.wrap (IntKind.u64.wrap (a.tdiv p)*p))=a-a/p*p/\Lp a c p r (a/p) (a-a/p*p):=by
 have i:=Oa hp dg u6 (show c<b from hc) IB;have d:=Int.emod_add_mul_ediv a p;have m1:=D9 a (show 0<p by omega);have q0:=vy IB (show 0<=p by omega);have q1:a/p<8589934592:=D' (by omega) (by omega);have e1:a.tdiv p=a/p:=D8 IB;have h0:=i.h0;have e3:p*(a/p)=a/p*p:=mc ..;have m0:=qR q0 (show 0<=p by omega);rw[e1,wid q0 (by omega),wid m0 (by omega),wid h0 (by omega)];exact⟨rfl,rfl,i,q0,by omega,by omega⟩
theorem Lp.step{a c p r q h:Int}(hp:2147483648<=p)(N9:p<4294967296)(dg:0<=r)(hr:r<4294967296)(u6:0<=c)(hc:c<4294967296)(IB:0<=a)(cF:a<p*4294967296+r)(hi:Lp a c p r q h)(ht:b<=q\/b*h+c<q*r) :
   IntKind.u64.wrap (q-1)=q-1/\IntKind.u64.wrap (h+p)=h+p/\0<=q-1/\(4294967296<=h+p->q-1=(a*b+c)/(p*b+r))/\(h+p<4294967296->Lp a c p r (q-1) (h+p)):=by
 obtain⟨i,q0,q1,h1⟩:=hi;have h0:=i.h0;have hl:a*b+c<(p*b+r)*b:=by
   have:=tk (show a+1<=p*b+r from cF) (show 0<=b by unfold b;omega);have e:(a+1)*b=a*b+b:=by grind
   have:c<b:=hc;omega
 have i':=Tf hp dg u6 IB hl i ht;have q2:1<=q:=by
   rcases ht with ht|ht;unfold b at ht;omega;rcases Int.lt_or_le q 1 with h|h;have:q=0:=by omega
   subst this;unfold b at ht;omega;exact h
 refine⟨wid (by omega) (by omega),wid (by omega) (by omega),by omega,fun hh=>?_,fun hh=>⟨i',by omega,by omega,hh⟩⟩;exact Tg hp N9 dg hr u6 hc IB cF i' hh (by omega)
theorem Lp.done{a c p r q h:Int}(hp:2147483648<=p)(N9:p<4294967296)(dg:0<=r)(hr:r<4294967296)(u6:0<=c)(hc:c<4294967296)(IB:0<=a)(hi:Lp a c p r q h)(ht:q*r<=b*h+c):q=(a*b+c)/(p*b+r):=
 E1 hp N9 dg hr u6 hc IB hi.1 ht
def BH(hi lo y:Int)(k:Nat):Int:=(Av hi lo k*b+cv lo k)/(pv y k*b+rv y k)
def uv(hi lo y:Int)(k:Nat):Int:=Av hi lo k*b+cv lo k-BH hi lo y k*(pv y k*b+rv y k)
def IC(hi lo y:Int)(k:Nat):Int:=(uv hi lo y k*b+dv lo k)/(pv y k*b+rv y k)
theorem Nm.Y(n:Nm hi lo y k):pv y k*b+rv y k=Yv y k:=by
 have:=n.P.2.2.1;unfold b;omega
theorem Nm.u(n:Nm hi lo y k):0<=uv hi lo y k/\uv hi lo y k<Yv y k/\0<=BH hi lo y k/\BH hi lo y k<4294967296:=by
 obtain⟨a0,a1,_⟩:=n.A;obtain⟨⟨c0,c1⟩,_⟩:=n.L;obtain⟨_,_,_,y0,y1⟩:=n.P;unfold uv BH;rw[n.Y];have r0:=FC (Av hi lo k*b+cv lo k) (show Yv y k≠0 by omega);have r1:=D9 (Av hi lo k*b+cv lo k) (show 0<Yv y k by omega);have e:=Int.emod_add_mul_ediv (Av hi lo k*b+cv lo k) (Yv y k);have e2:Yv y k*((Av hi lo k*b+cv lo k)/Yv y k)=(Av hi lo k*b+cv lo k)/Yv y k*Yv y k:=mc ..;refine⟨by omega,by omega,vy (by unfold b;omega) (by omega),D' (by omega) ?_⟩;have:=tk (show Av hi lo k+1<=Yv y k by omega) (show 0<=b by unfold b;omega);have e3:(Av hi lo k+1)*b=Av hi lo k*b+b:=by grind
 have e4:4294967296*Yv y k=Yv y k*b:=by unfold b;omega
 unfold b at *;omega
theorem Nm.q0(n:Nm hi lo y k):0<=IC hi lo y k/\IC hi lo y k<4294967296:=by
 obtain⟨u0,u1,_⟩:=n.u;obtain⟨_,⟨d0,d1⟩,_⟩:=n.L;obtain⟨_,_,_,y0,y1⟩:=n.P;unfold IC;rw[n.Y];refine⟨vy (by unfold b;omega) (by omega),D' (by omega) ?_⟩;have:=tk (show uv hi lo y k+1<=Yv y k by omega) (show 0<=b by unfold b;omega);have e3:(uv hi lo y k+1)*b=uv hi lo y k*b+b:=by grind
 have e4:4294967296*Yv y k=Yv y k*b:=by unfold b;omega
 unfold b at *;omega
theorem dU(v:Vf e hi lo y k)(n:Nm hi lo y k){q:IE}(hq:q.ae e=BH hi lo y k):(uE q).ae e=uv hi lo y k:=by
 show IntKind.u64.wrap (IntKind.u64.wrap (IntKind.u64.wrap (aE.ae e*4294967296)+cE.ae e)-IntKind.u64.wrap (q.ae e*yE.ae e))=uv hi lo y k;rw[dA v n,dC v n,dY v n,hq];obtain⟨u0,u1,_,_⟩:=n.u;obtain⟨_,_,_,y0,y1⟩:=n.P;have e1:uv hi lo y k=Av hi lo k*4294967296+cv lo k-BH hi lo y k*Yv y k:=by unfold uv;rw[n.Y];rfl
 rw[e1]at u0 u1 ⊢;rw[wu,wu,wu,wu];generalize BH hi lo y k*Yv y k=z at *;omega
theorem Nm.fin(n:Nm hi lo y k):BH hi lo y k*b+IC hi lo y k=(hi*18446744073709551616+lo)/y/\(uv hi lo y k*b+dv lo k-IC hi lo y k*Yv y k)/2 ^ k=(hi*18446744073709551616+lo)%y/\0<=uv hi lo y k*b+dv lo k-IC hi lo y k*Yv y k/\uv hi lo y k*b+dv lo k-IC hi lo y k*Yv y k<Yv y k:=by
 obtain⟨a0,a1,aj,_⟩:=n.A;obtain⟨_,_,lj⟩:=n.L;obtain⟨_,_,_,y0,y1⟩:=n.P;have cF:=n.cF;have te:=n.te;have hj:=join (N:=hi*18446744073709551616+lo) (y:=y) (P:=2 ^ k) (Y:=Yv y k) (A:=Av hi lo k) (c:=cv lo k) (d:=dv lo k) (q1:=BH hi lo y k) (q0:=IC hi lo y k) (by have:=XM k;omega) (by omega) rfl
   (by rw[<- aj,lj];unfold b;omega) (by unfold BH;rw[n.Y]) (by unfold IC uv;rw[n.Y])
 have eu:Av hi lo k*b+cv lo k-BH hi lo y k*Yv y k=uv hi lo y k:=by unfold uv;rw[n.Y]
 rw[eu]at hj;refine⟨hj.1,hj.2.1,?_⟩;rw[hj.2.2];have m0:=FC (hi*18446744073709551616+lo) (show y≠0 by omega);have m1:=D9 (hi*18446744073709551616+lo) (show 0<y by omega);have p1:=XM k;exact⟨qR m0 (by omega),Int.mul_lt_mul_of_pos_right m1 (by omega)⟩
theorem aho(v:Vf e hi lo y k)(n:Nm hi lo y k){q q0:IE}(hq:q.ae e=BH hi lo y k)(h0:q0.ae e=IC hi lo y k):(XK q q0).ae e=(hi*18446744073709551616+lo)%y:=by
 show IntKind.u64.wrap (IntKind.u64.wrap (IntKind.u64.wrap ((uE q).ae e*4294967296)+dE.ae e)-IntKind.u64.wrap (q0.ae e*yE.ae e))/2 ^ (sE.ae e).toNat=_;rw[dU v n hq,dD v n,dY v n,h0,dS v n,xe];obtain⟨_,f2,f3,f4⟩:=n.fin;obtain⟨_,_,_,y0,y1⟩:=n.P;rw[<- f2];congr 1;rw[wu,wu,wu,wu];unfold b at *;generalize IC hi lo y k*Yv y k=z at *;omega
abbrev Res(hi lo y:Int)(rs:List DV):Prop:=rs=[.i ((hi*18446744073709551616+lo)/y),.i ((hi*18446744073709551616+lo)%y)]
theorem Ob{E:Nat->List DV->List DV->Prop}{Ps:List (Int->Prop)}{F:Nat->List DV->Prop}(v:Vf e hi lo y k)(n:Nm hi lo y k){q q0:IE}(hq:q.ae e=BH hi lo y k)(h0:q0.ae e=IC hi lo y k):(XL q q0).jm E (Res hi lo y) Ps e F:=by
 have hk:=n.hk;refine tM (by rw[dS v n];show(0:Int)<=k;omega) (tM (by rw[dS v n];show(k:Int)<=64;omega) ?_);refine gV (rs:=[.i ((hi*18446744073709551616+lo)/y),.i ((hi*18446744073709551616+lo)%y)]) ?_ rfl;show [DV.i (IntKind.u64.wrap (IntKind.u64.wrap (q.ae e*4294967296)+q0.ae e)),DV.i ((XK q q0).ae e)]=_;rw[aho v n hq h0,hq,h0,<- n.fin.1];obtain⟨_,_,u0,u1⟩:=n.u;obtain⟨z0,z1⟩:=n.q0;have:IntKind.u64.wrap (IntKind.u64.wrap (BH hi lo y k*4294967296)+IC hi lo y k)=BH hi lo y k*b+IC hi lo y k:=by
   unfold b;have e1:IntKind.u64.wrap (BH hi lo y k*4294967296)=BH hi lo y k*4294967296:=wid (by omega) (by omega);rw[e1,wid (by omega) (by omega)]
 rw[this]
theorem UX{E:Nat->List DV->List DV->Prop}{Ps:List (Int->Prop)}{F:Nat->List DV->Prop}(v:Vf e hi lo y k)(n:Nm hi lo y k){q:IE}(hq:q.ae e=BH hi lo y k)(hq6:∀ds,q.ae (e.ay 6 ds)=BH hi lo y k):(inT q).jm E (Res hi lo y) Ps e F:=by
 obtain⟨⟨p0,p1⟩,⟨r0,r1⟩,ye,y0,y1⟩:=n.P;obtain⟨_,⟨d0,d1⟩,_⟩:=n.L;obtain⟨u0,u1,_⟩:=n.u;obtain⟨s1,s2,s3⟩:=Lp.start (a:=uv hi lo y k) (c:=dv lo k) (p:=pv y k) (r:=rv y k) p0 p1 r0 d0 d1 u0 (by omega);refine pM (by show decide (pE.ae e≠0)=true;rw[dP v n];exact mM (by omega)) ?_;refine vL (fun ds=>∃h x:Int,ds=[.i h,.i x]/\Lp (uv hi lo y k) (dv lo k) (pv y k) (rv y k) x h) (fun| [_,.i x]=>x.toNat|_=>0) ?_ ?_;refine⟨_,_,?_,s3⟩;show [DV.i (IntKind.u64.wrap ((uE q).ae e-IntKind.u64.wrap (IntKind.u64.wrap (((uE q).ae e).tdiv (pE.ae e))*pE.ae e))),DV.i (IntKind.u64.wrap (((uE q).ae e).tdiv (pE.ae e)))]=_;rw[dU v n hq,dP v n,s2,s1]
 . rintro _ ⟨h,x,rfl,hl⟩;have v':=v.ay (show 4<=6 by omega) [.i h,.i x];have Lh:=hq6 [.i h,.i x];obtain⟨e',Gk⟩:∃e',e'=e.ay 6 [DV.i h,DV.i x]:=⟨_,rfl⟩;have g6:(e' 6).int=h:=by rw[Gk];rfl
   have g7:(e' 7).int=x:=by rw[Gk];rfl
   rw[<- Gk]at v' Lh ⊢;have Vp:=hl.1.h0;obtain⟨_,x0,x1,h1⟩:=id hl;have hc:∀z,(BE.or (.le bE (.v 7)) (.lt (.wrap .u64 (.add (.wrap .u64 (.mul bE (.v 6))) dE)) (.wrap .u64 (.mul (.v 7) rE)))).ae e'=z->(decide ((4294967296:Int)<=x)||decide (IntKind.u64.wrap (IntKind.u64.wrap (4294967296*h)+dv lo k)<IntKind.u64.wrap (x*rv y k)))=z:=by
     intro z hz;rw[<- hz];show _=(decide ((4294967296:Int)<=(e' 7).int)||decide (IntKind.u64.wrap (IntKind.u64.wrap (4294967296*(e' 6).int)+dE.ae e')<IntKind.u64.wrap ((e' 7).int*rE.ae e')));rw[g6,g7,dD v' n,dR v' n]
   refine rk (fun hb=>?_) (fun hb=>?_);have ht:=UU Vp h1 d0 d1 x0 r0 r1 (hc _ hb);obtain⟨w1,w2,w3,w4,w5⟩:=Lp.step p0 p1 r0 r1 d0 d1 u0 (by omega) hl ht;have gw:(IE.wrap .u64 (.add (.v 6) pE)).ae e'=h+pv y k:=by
     show IntKind.u64.wrap ((e' 6).int+pE.ae e')=_;rw[g6,dP v' n,w2]
   have gx:(IE.wrap .u64 (.sub (.v 7) (.c 1))).ae e'=x-1:=by
     show IntKind.u64.wrap ((e' 7).int-1)=_;rw[g7,w1]
   refine rk (fun hb=>?_) (fun hb=>?_);have hb:(4294967296:Int)<=(IE.wrap .u64 (.add (.v 6) pE)).ae e':=qt hb;rw[gw]at hb;exact Ob v' n Lh (by rw[gx];exact w4 hb);have hb:¬ (4294967296:Int)<=(IE.wrap .u64 (.add (.v 6) pE)).ae e':=T3 hb;rw[gw]at hb;refine uG ⟨⟨h+pv y k,x-1,?_,w5 (by omega)⟩,?_⟩;show [DV.i ((IE.wrap .u64 (.add (.v 6) pE)).ae e'),DV.i ((IE.wrap .u64 (.sub (.v 7) (.c 1))).ae e')]=_;rw[gw,gx];show((IE.wrap .u64 (.sub (.v 7) (.c 1))).ae e').toNat<x.toNat;rw[gx];omega
   . obtain⟨_,hf⟩:=UW Vp h1 d0 d1 x0 r0 r1 (hc _ hb);exact Ob v' n Lh (by show(e' 7).int=_;rw[g7];exact Lp.done p0 p1 r0 r1 d0 d1 u0 hl hf)
theorem XO{E:Nat->List DV->List DV->Prop}{Ps:List (Int->Prop)}{F:Nat->List DV->Prop}(v:Vf e hi lo y k)(n:Nm hi lo y k):(ar.loop 241017 [.i (.wrap .u64 (.tdiv aE pE)),.i (.wrap .u64 (.sub aE (.wrap .u64 (.mul (.wrap .u64 (.tdiv aE pE)) pE))))] [.c (.i .u64),.c (.i .u64)] 4 (
.ite (.or (.le bE (.v 4)) (.lt (.wrap .u64 (.add (.wrap .u64 (.mul bE (.v 5))) cE)) (.wrap .u64 (.mul (.v 4) rE)))) (
.ite (.le bE (.wrap .u64 (.add (.v 5) pE))) (inT (.wrap .u64 (.sub (.v 4) (.c 1)))) (
.again 241017 [.i (.wrap .u64 (.sub (.v 4) (.c 1))),.i (.wrap .u64 (.add (.v 5) pE))])) (
 inT (.v 4)))).jm E (Res hi lo y) Ps e F:=by
 obtain⟨⟨p0,p1⟩,⟨r0,r1⟩,ye,y0,y1⟩:=n.P;obtain⟨⟨c0,c1⟩,_,_⟩:=n.L;obtain⟨a0,a1,_⟩:=n.A;obtain⟨s1,s2,s3⟩:=Lp.start (a:=Av hi lo k) (c:=cv lo k) (p:=pv y k) (r:=rv y k) p0 p1 r0 c0 c1 a0 (by omega);refine vL (fun ds=>∃x h:Int,ds=[.i x,.i h]/\Lp (Av hi lo k) (cv lo k) (pv y k) (rv y k) x h) (fun| [.i x,_]=>x.toNat|_=>0) ?_ ?_;refine⟨_,_,?_,s3⟩;show [DV.i (IntKind.u64.wrap ((aE.ae e).tdiv (pE.ae e))),DV.i (IntKind.u64.wrap (aE.ae e-IntKind.u64.wrap (IntKind.u64.wrap ((aE.ae e).tdiv (pE.ae e))*pE.ae e)))]=_;rw[dA v n,dP v n,s2,s1]
 . rintro _ ⟨x,h,rfl,hl⟩;have v':=v.ay (show 4<=4 by omega) [.i x,.i h];obtain⟨e',Gk⟩:∃e',e'=e.ay 4 [DV.i x,DV.i h]:=⟨_,rfl⟩;have g4:e' 4 = .i x:=by rw[Gk];rfl
   have g5:e' 5 = .i h:=by rw[Gk];rfl
   rw[<- Gk]at v' ⊢;have Vp:=hl.1.h0;obtain⟨_,x0,x1,h1⟩:=id hl;have hc:∀z,(BE.or (.le bE (.v 4)) (.lt (.wrap .u64 (.add (.wrap .u64 (.mul bE (.v 5))) cE)) (.wrap .u64 (.mul (.v 4) rE)))).ae e'=z->(decide ((4294967296:Int)<=x)||decide (IntKind.u64.wrap (IntKind.u64.wrap (4294967296*h)+cv lo k)<IntKind.u64.wrap (x*rv y k)))=z:=by
     intro z hz;rw[<- hz];show _=(decide ((4294967296:Int)<=(e' 4).int)||decide (IntKind.u64.wrap (IntKind.u64.wrap (4294967296*(e' 5).int)+cE.ae e')<IntKind.u64.wrap ((e' 4).int*rE.ae e')));rw[g4,g5,dC v' n,dR v' n];rfl
   refine rk (fun hb=>?_) (fun hb=>?_);have ht:=UU Vp h1 c0 c1 x0 r0 r1 (hc _ hb);obtain⟨w1,w2,w3,w4,w5⟩:=Lp.step p0 p1 r0 r1 c0 c1 a0 (by omega) hl ht;have gw:(IE.wrap .u64 (.add (.v 5) pE)).ae e'=h+pv y k:=by
     show IntKind.u64.wrap ((e' 5).int+pE.ae e')=_;rw[g5,dP v' n];exact w2
   have gx:∀e'':aA,e'' 4 = .i x->(IE.wrap .u64 (.sub (.v 4) (.c 1))).ae e''=x-1:=by
     intro e'' h4;show IntKind.u64.wrap ((e'' 4).int-1)=_;rw[h4];exact w1
   refine rk (fun hb=>?_) (fun hb=>?_);have hb:(4294967296:Int)<=(IE.wrap .u64 (.add (.v 5) pE)).ae e':=qt hb;rw[gw]at hb;exact UX v' n (by rw[gx e' g4];exact w4 hb) fun ds=>by rw[gx _ (by rw[aA.bn (by omega)];exact g4)];exact w4 hb
   have hb:¬ (4294967296:Int)<=(IE.wrap .u64 (.add (.v 5) pE)).ae e':=T3 hb;rw[gw]at hb;refine uG ⟨⟨x-1,h+pv y k,?_,w5 (by omega)⟩,?_⟩;show [DV.i ((IE.wrap .u64 (.sub (.v 4) (.c 1))).ae e'),DV.i ((IE.wrap .u64 (.add (.v 5) pE)).ae e')]=_;rw[gw,gx e' g4];show((IE.wrap .u64 (.sub (.v 4) (.c 1))).ae e').toNat<x.toNat;rw[gx e' g4];omega
   . obtain⟨_,hf⟩:=UW Vp h1 c0 c1 x0 r0 r1 (hc _ hb);have hd:x=BH hi lo y k:=Lp.done p0 p1 r0 r1 c0 c1 a0 hl hf;exact UX v' n (by show(e' 4).int=_;rw[g4];exact hd) fun ds=>by
       show(e'.ay 6 ds 4).int=_;rw[aA.bn (by omega),g4];exact hd
end
variable {X:bD}
def XP(ds:List DV):Prop:=∃n:Int,ds=[.i n]/\1<=n/\n<18446744073709551616
def XQ(ds rs:List DV):Prop:=∀n:Int,ds=[.i n]->∃k:Nat,rs=[.i k]/\k<=63/\9223372036854775808<=n*2 ^ k/\n*2 ^ k<18446744073709551616
theorem ahp(hX:X 283=vU):qn (TT Tryz.prog) X 267 XP XQ:=vJ ahn fun ds hp=>by
 obtain⟨n,rfl,n0,n1⟩:=hp;obtain⟨k,k1,k2,k3,k4⟩:=Th n0 n1;unfold t267;refine vK (pre:=fun ds=>ds=[.i n]) (rel:=fun _ rs=>rs=[.i (Lib.bitLen n.toNat)]) (fun ds h=>⟨[.i (Lib.bitLen n.toNat)],?_,rfl⟩) rfl ?_;subst h;refine im UY ?_;show X 283 [.i n]=_;rw[hX];simp only[vU,pU (show 0<=n/\n<=18446744073709551615 by omega),if_true];rintro _ _ rfl;refine KE (show -9223372036854775808<=64-(Lib.bitLen n.toNat:Int)/\64-(Lib.bitLen n.toNat:Int)<=9223372036854775807 by omega) ?_;refine gV (rs:=[.i (64-(Lib.bitLen n.toNat:Int))]) rfl fun m hm=>?_;cases hm;exact⟨k,by rw[k1],k2,k3,k4⟩
def XR(ds:List DV):Prop:=∃hi lo y:Int,ds=[.i hi,.i lo,.i y]/\0<=hi/\hi<y/\y<18446744073709551616/\0<=lo/\lo<18446744073709551616
def Oc(ds rs:List DV):Prop:=∀hi lo y:Int,ds=[.i hi,.i lo,.i y]->Res hi lo y rs
theorem ahq(hX:X 283=vU):qn (TT Tryz.prog) X 241 XR Oc:=vJ ahm fun ds hp=>by
 obtain⟨hi,lo,y,rfl,h0,cF,y1,l0,l1⟩:=hp;have e:Oc [.i hi,.i lo,.i y]=Res hi lo y:=by
   funext rs;exact propext ⟨fun h=>h _ _ _ rfl,fun h _ _ _ e=>by cases e;exact h⟩
 rw[e];unfold t241;refine dd (fun h=>absurd (show y=0 from h) (by omega)) (fun _=>?_);refine rk (fun h=>absurd (show y<=hi from qt h) (by omega)) (fun _=>?_);refine dd (fun h=>?_) (fun h=>?_);have h:hi=0:=h;subst h;refine pM (show decide (y≠0)=true from mM (by omega)) (gV (rs:=[.i ((0*18446744073709551616+lo)/y),.i ((0*18446744073709551616+lo)%y)]) ?_ rfl);show [DV.i (IntKind.u64.wrap (lo.tdiv y)),DV.i (lo.tmod y)]=_;rw[D8 l0,Int.tmod_eq_emod_of_nonneg l0,Int.zero_mul,Int.zero_add,wid (vy l0 (by omega)) (by have:=Int.ediv_le_self y l0;omega)];refine vK (ahp hX) ⟨y,rfl,by omega,y1⟩ fun rs _ hr=>?_;obtain⟨k,rfl,k1,k2,k3⟩:=hr y rfl;have n:Nm hi lo y k:=⟨h0,cF,l0,l1,k1,k2,k3⟩;have v:Vf ((bB.ay 0 [.i hi,.i lo,.i y]).ay 3 [.i (k:Int)]) hi lo y k:=⟨rfl,rfl,rfl,rfl⟩;have ds:=dS v n;have dk:(IE.wrap .u64 (.sub (.c 64) sE)).ae ((bB.ay 0 [.i hi,.i lo,.i y]).ay 3 [.i (k:Int)])=64-(k:Int):=by
   show IntKind.u64.wrap (64-sE.ae _)=_;rw[ds];exact wid (by omega) (by omega)
 refine tM (by rw[ds];show(0:Int)<=k;omega) (tM (by rw[ds];show(k:Int)<=64;omega) (tM (by rw[dk];show(0:Int)<=64-k;omega) (tM (by rw[dk];show 64-(k:Int)<=64;omega) ?_)));refine pM (by show decide (pE.ae _≠0)=true;rw[dP v n];exact mM (by have:=n.P.1;omega)) ?_;exact XO v n
end
section
open Go.Sx
variable {X:bD}
def nkR:List NK:=[.c i6,.s 3 i6]
def ai9(r:List Int):Int:=r.getD 0 0
def Ya(r:List Int):List (List Int):=eL (fW nkR r 1)
end
end Go.Proofs.YtohebioanhliiaaGreatDoor.aw

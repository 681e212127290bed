/- All functions come to an end, but for those shown by hand; Div64. -/
import Derived.Test.YtohebioanhliiaaGreatDoorGB3
set_option linter.unusedVariables false
set_option linter.unusedSimpArgs false
set_option maxRecDepth 100000
namespace Go.Proofs.YtohebioanhliiaaGreatDoor.av
section
open Go.Sx
variable{ae:aH}{n:Int}
theorem yv{a b:IE}:((BE.le a b).af ae=true)↔a.af ae<=b.af ae:=decide_eq_true_iff
theorem yw{a b:IE}:((BE.lt a b).af ae=true)↔a.af ae<b.af ae:=decide_eq_true_iff
theorem yx{a b:IE}:((BE.eq a b).af ae=true)↔a.af ae=b.af ae:=decide_eq_true_iff
theorem lI{a:BE}:((BE.not a).af ae=true)↔¬ (a.af ae=true):=by simp[BE.af]
theorem lJ{a b:BE}:((BE.and a b).af ae=true)↔a.af ae=true/\b.af ae=true:=by simp[BE.af]
theorem yy{a b:BE}:((BE.or a b).af ae=true)↔a.af ae=true\/b.af ae=true:=by simp[BE.af]
theorem KI{x y w h:IE}:gJ (pix x y w h):=by
 intro ae hp;simp only[pix,bF,il,or_false,forall_eq_or_imp,forall_eq,yv,yw,yx,lI,lJ,yy,IE.af]at hp;simp only[pix,fF,yv,yw,yx,lI,lJ,yy,IE.af];obtain⟨h1,h2,h3,h4,h5,h6⟩:=hp;generalize x.af ae=X at *;generalize y.af ae=Y at *;generalize w.af ae=W at *;generalize h.af ae=H at *;have a1:=j7 h3 (show 0<=W by omega);have a2:=De (show Y<=100 by omega) h5 (show 0<=W by omega) (by omega);have a3:=rS (show Y+1<=H by omega) (show 0<=W by omega);have a4:(Y+1)*W=Y*W+W:=by grind
 have a5:H*W=W*H:=l6 ..;omega
theorem sZ{hs:List BE}{g:BE}(h:∀ae,(∀p∈hs,p.af ae=true)->g.af ae=true):gJ (hs,g):=h
theorem XP(h: -9223372036854775808<=n/\n<=9223372036854775807):IntKind.i64.wrap n=n:=FU (by simpa[IntKind.min,IntKind.max,IntKind.signed,IntKind.bits]using h)
theorem tdm(a d:Int):a.tdiv d*d+a.tmod d=a:=by have:=Int.tdiv_mul_add_tmod a d;omega
theorem alH:∀l∈ux 202,gJ l:=by
 intro l hl;simp only[ux,bF,il,or_false]at hl;subst hl;refine sZ fun ae hp=>?_;simp only[bF,il,or_false,forall_eq,yv,yw,yx,lI,lJ,yy,IE.af]at hp;simp only[fF,Kg,yv,yw,yx,lI,lJ,yy,IE.af];have:=tdm ((ae 4).int-(ae 3).int) 2;have h1:=Int.tmod_nonneg 2 (show 0<=(ae 4).int-(ae 3).int by omega);have h2:((ae 4).int-(ae 3).int).tmod 2<2:=Int.tmod_lt_of_pos _ (by omega);omega
theorem alI:∀l∈ux 221,gJ l:=by
 intro l hl;simp only[ux,bF,il,or_false]at hl;rcases hl with rfl|rfl;refine sZ fun ae hp=>?_;simp only[bF,il,or_false,forall_eq_or_imp,forall_eq,L9,imp,yv,yw,yx,lI,lJ,yy,IE.af]at hp ⊢;omega;refine sZ fun ae hp=>?_;simp only[bF,il,or_false,forall_eq_or_imp,forall_eq,yv,yw,yx,lI,lJ,yy,IE.af]at hp ⊢;omega
theorem alJ:∀l∈ux 123,gJ l:=by
 intro l hl;simp only[ux,bF,il,or_false]at hl;subst hl;refine sZ fun ae hp=>?_;simp only[bF,il,or_false,forall_eq_or_imp,forall_eq,yv,yw,yx,lI,lJ,yy,IE.af]at hp;simp only[fF,yv,yw,yx,lI,lJ,yy,IE.af];exact⟨Int.tmod_lt_of_pos _ hp.1,Int.tmod_nonneg _ (by omega)⟩
theorem alK{x y:Int}(h0:1<=y)(h1:y<=9223372036854775807):(Go.IntKind.u64.wrap x).tmod (Go.IntKind.u64.wrap y)<Go.IntKind.u64.wrap y:=by
 have:Go.IntKind.u64.wrap y=y:=rC (k:=.u64) ⟨by show(0:Int)<=y;omega,by show y<=18446744073709551615;omega⟩;rw[this];exact Int.tmod_lt_of_pos _ (by omega)
theorem alL:∀l∈ux 198,gJ l:=by
 intro l hl;simp only[ux,bF,il,or_false]at hl;rcases hl with rfl|rfl
 all_goals
   refine sZ fun ae hp=>?_;simp only[bF,il,or_false,forall_eq_or_imp,forall_eq,yv,yw,yx,lI,lJ,yy,IE.af]at hp ⊢;exact alK hp.1 hp.2
theorem l84:∀l∈ux 84,gJ l:=by
 intro l hl;simp only[ux,bF,il,or_false]at hl;rcases hl with rfl|rfl;refine sZ fun ae hp=>?_;simp only[bF,il,or_false,forall_eq_or_imp,forall_eq,yv,yw,yx,lI,lJ,yy,IE.af]at hp ⊢;rw[hp.1,hp.2];refine sZ fun ae hp=>?_;simp only[bF,il,or_false,forall_eq_or_imp,forall_eq,yv,yw,yx,lI,lJ,yy,IE.af]at hp ⊢;obtain⟨h1,h2,h3,h4,h5⟩:=hp;have a3:=rS (show(ae 1570).int+1<=(ae 1).int by omega) h5;have a4:((ae 1570).int+1)*(ae 0).int=(ae 1570).int*(ae 0).int+(ae 0).int:=by grind
 have a5:(ae 1).int*(ae 0).int=(ae 0).int*(ae 1).int:=l6 ..;omega
theorem l73:∀l∈ux 73,gJ l:=by
 intro l hl;simp only[ux,bF,il,or_false]at hl;subst hl;refine sZ fun ae hp=>?_;simp only[bF,il,or_false,forall_eq_or_imp,forall_eq,yv,yw,yx,lI,lJ,yy,IE.af]at hp ⊢;rw[XP (by omega),show((ae 6).int+1).toNat=(ae 6).int.toNat+1 by omega,Int.pow_succ];grind
theorem alM:∀l∈ux 236,gJ l:=by
 intro l hl;simp only[ux,bF,il,or_false]at hl;subst hl;exact KI
theorem l19:∀l∈ux 19,gJ l:=by
 intro l hl;simp only[ux,bF,il,or_false]at hl;subst hl;exact KI
theorem l24:∀l∈ux 24,gJ l:=by
 intro l hl;simp only[ux,bF,il,or_false]at hl;rcases hl with rfl|rfl;exact KI;refine sZ fun ae hp=>?_;simp only[bF,il,or_false,forall_eq_or_imp,forall_eq,yv,yw,yx,lI,lJ,yy,IE.af]at hp;simp only[fF,yv,yw,yx,lI,lJ,yy,IE.af];obtain⟨h1,h2,h3⟩:=hp;generalize cellAt (ae 95).list 0 0=A at *;generalize cellAt (ae 95).list 1 0=B at *;have a1:=rR h2 (show 0<=A by omega);have a2:=rS h1 (show 0<=B by omega);omega
theorem alN:∀l∈ux 141,gJ l:=by
 intro l hl;simp only[ux,bF,il,or_false]at hl;subst hl;refine sZ fun ae hp=>?_;simp only[bF,il,or_false,forall_eq,yv,yw,yx,lI,lJ,yy,IE.af]at hp;simp only[fF,mU,ta,nc,yv,yw,yx,lI,lJ,yy,IE.af];omega
theorem alO:∀l∈ux 112,gJ l:=by
 intro l hl;simp only[ux,bF,il,or_false]at hl;subst hl;refine sZ fun ae hp=>?_;simp only[bF,il,or_false,forall_eq_or_imp,forall_eq,yv,yw,yx,lI,lJ,yy,IE.af]at hp;simp only[fF,yv,yw,yx,lI,lJ,yy,IE.af];generalize xY.af ae=L at *;omega
theorem Zv{d:Int}(hd:1<=d)(h1: -1073741824<=n)(h2:n<=1073741824): -1073741824<=n.tdiv d/\n.tdiv d<=1073741824/\n.tdiv d*d+n.tmod d=n/\-d<n.tmod d/\n.tmod d<d:=by
 have e:=tdm n d;have b:(n.tdiv d).natAbs<=n.natAbs:=by rw[Int.natAbs_tdiv];exact Nat.div_le_self _ _
 have c:(n.tmod d).natAbs<d.natAbs:=by rw[Int.natAbs_tmod];exact Nat.mod_lt _ (by omega)
 omega
theorem alP:∀l∈ux 204,gJ l:=by
 intro l hl;simp only[ux,bF,il,or_false]at hl;rcases hl with rfl|rfl;refine sZ fun ae hp=>?_;simp only[bF,il,or_false,forall_eq_or_imp,forall_eq,yv,yw,yx,lI,lJ,yy,IE.af]at hp;simp only[imp,fF,mU,Rw,yv,yw,yx,lI,lJ,yy,IE.af];by_cases h: -1073741824<=(ae 0).int/\(ae 0).int<=1073741824;right;have k:=Zv hp.2 h.1 h.2;have e0:=XP (n:=(ae 0).int.tdiv (ae 1).int) (by omega);rw[e0,XP (by omega)];have e1:(ae 1).int*((ae 0).int.tdiv (ae 1).int-1)=(ae 0).int.tdiv (ae 1).int*(ae 1).int-(ae 1).int:=by grind
 rw[e1];omega;left;omega;refine sZ fun ae hp=>?_;simp only[bF,il,or_false,forall_eq_or_imp,forall_eq,yv,yw,yx,lI,lJ,yy,IE.af]at hp;simp only[imp,fF,mU,yv,yw,yx,lI,lJ,yy,IE.af];by_cases h: -1073741824<=(ae 0).int/\(ae 0).int<=1073741824;right;have k:=Zv hp.2 h.1 h.2;rw[XP (by omega)];have e1:(ae 1).int*(ae 0).int.tdiv (ae 1).int=(ae 0).int.tdiv (ae 1).int*(ae 1).int:=l6 ..;rw[e1];omega;left;omega
theorem alQ:∀l∈ux 210,gJ l:=by
 intro l hl;simp only[ux,bF,il,or_false]at hl;subst hl;refine sZ fun ae hp=>?_;simp only[yv,yw,yx,lI,lJ,yy,IE.af];omega
theorem alR:∀l∈ux 207,gJ l:=by
 intro l hl;simp only[ux,bF,il,or_false]at hl;rcases hl with rfl|rfl;refine sZ fun ae hp=>?_;simp only[bF,il,or_false,forall_eq,dxy,yv,yw,yx,lI,lJ,yy,IE.af]at hp ⊢;omega;refine sZ fun ae hp=>?_;simp only[bF,il,or_false,forall_eq_or_imp,forall_eq,dxy,yv,yw,yx,lI,lJ,yy,IE.af]at hp ⊢;omega
theorem alS:∀l∈ux 134,gJ l:=by
 intro l hl;simp only[ux,bF,il,or_false]at hl;subst hl;refine sZ fun ae hp=>?_;simp only[bF,il,or_false,forall_eq_or_imp,forall_eq,yv,yw,yx,lI,lJ,yy,IE.af]at hp;simp only[fF,yv,yw,yx,lI,lJ,yy,IE.af];obtain⟨h1,h2,h3⟩:=hp;generalize(ae 0).int=A at *;generalize(ae 1).int=B at *;have a1:=rR h2 (show 0<=A by omega);have a2:=rS h1 (show 0<=B by omega);omega
theorem l57:∀l∈ux 57,gJ l:=by
 intro l hl;simp only[ux,bF,il,or_false]at hl;subst hl;refine sZ fun ae hp=>?_;simp only[bF,il,or_false,forall_eq_or_imp,forall_eq,aed,imp,yv,yw,yx,lI,lJ,yy,IE.af]at hp ⊢;obtain⟨h1,h2,h3,h4⟩:=hp;by_cases h:(ae 6).int=0;rw[h]at h3 h4;exact⟨h3,h4⟩;rcases h1 with h1|h1;omega;exact h1
theorem aK(k:Nat):∀l∈(an k).fC,gJ l:=by
 show ∀l∈ux k,gJ l;by_cases alT:k=202;subst alT;exact alH;by_cases alU:k=221;subst alU;exact alI;by_cases XI:k=123;subst XI;exact alJ;by_cases alV:k=198;subst alV;exact alL;by_cases h84:k=84;subst h84;exact l84;by_cases h73:k=73;subst h73;exact l73;by_cases alW:k=236;subst alW;exact alM;by_cases Zs:k=19;subst Zs;exact l19;by_cases VH:k=24;subst VH;exact l24;by_cases alX:k=141;subst alX;exact alN;by_cases XH:k=112;subst XH;exact alO;by_cases alY:k=204;subst alY;exact alP;by_cases alZ:k=210;subst alZ;exact alQ;by_cases al0:k=134;subst al0;exact alS;by_cases h57:k=57;subst h57;exact l57;by_cases al1:k=207;subst al1;exact alR;intro l hl;unfold ux at hl;split at hl
 all_goals first|contradiction|(exact absurd hl (by simp))
end
section
open Go.Sx Go
abbrev GF(P:Program)(X:bY)(i k:Nat):Prop:=sr (TT P) X kc (ord.take i)->vy (TT P) X k (kc k).jA (kc k).lh
theorem ae7{X:bY}(h7:sr (TT PP) X kc (ord.take 7))(m47:GF PP X 19 47)(m44:GF PP X 20 44)(OS:GF PP X 22 30)(aj2:GF PP X 48 241):sr (TT PP) X kc (ord.take 125):=by
 have h8:=h7.next (k:=9) rfl (aJ aK h7 c9)
 have h9:=h8.next (k:=56) rfl (aJ aK h8 c56)
 have Zr:=h9.next (k:=37) rfl (aJ aK h9 c37)
 have h11:=Zr.next (k:=23) rfl (aJ aK Zr c23)
 have h12:=h11.next (k:=41) rfl (aJ aK h11 c41)
 have h13:=h12.next (k:=65) rfl (aJ aK h12 c65)
 have h14:=h13.next (k:=42) rfl (aJ aK h13 c42)
 have h15:=h14.next (k:=28) rfl (aJ aK h14 c28)
 have h16:=h15.next (k:=100) rfl (aJ aK h15 aj3)
 have h17:=h16.next (k:=66) rfl (aJ aK h16 c66)
 have Gp:=h17.next (k:=43) rfl (aJ aK h17 c43)
 have Zs:=Gp.next (k:=29) rfl (aJ aK Gp c29)
 have Pv:=Zs.next (k:=47) rfl (m47 Zs)
 have h21:=Pv.next (k:=44) rfl (m44 Pv)
 have h22:=h21.next (k:=46) rfl (aJ aK h21 c46)
 have Xz:=h22.next (k:=30) rfl (OS h22)
 have VH:=Xz.next (k:=101) rfl (aJ aK Xz aj4)
 have h25:=VH.next (k:=67) rfl (aJ aK VH c67)
 have h26:=h25.next (k:=174) rfl (aJ aK h25 aj5)
 have h27:=h26.next (k:=195) rfl (aJ aK h26 aj6)
 have h28:=h27.next (k:=149) rfl (aJ aK h27 aj7)
 have h29:=h28.next (k:=102) rfl (aJ aK h28 aj8)
 have h30:=h29.next (k:=151) rfl (aJ aK h29 aj9)
 have h31:=h30.next (k:=150) rfl (aJ aK h30 aj')
 have h32:=h31.next (k:=104150) rfl (aJ aK h31 XD)
 have h33:=h32.next (k:=103) rfl (aJ aK h32 aka)
 have h34:=h33.next (k:=107) rfl (aJ aK h33 akb)
 have h35:=h34.next (k:=106) rfl (aJ aK h34 akc)
 have h36:=h35.next (k:=104106) rfl (aJ aK h35 XE)
 have h37:=h36.next (k:=105) rfl (aJ aK h36 akd)
 have h38:=h37.next (k:=69) rfl (aJ aK h37 c69)
 have h39:=h38.next (k:=109) rfl (aJ aK h38 ake)
 have h40:=h39.next (k:=155) rfl (aJ aK h39 akf)
 have h41:=h40.next (k:=139) rfl (aJ aK h40 akg)
 have h42:=h41.next (k:=196) rfl (aJ aK h41 c196)
 have h43:=h42.next (k:=240) rfl (aJ aK h42 akh)
 have h44:=h43.next (k:=197) rfl (aJ aK h43 aki)
 have h45:=h44.next (k:=156) rfl (aJ aK h44 akj)
 have Mr:=h45.next (k:=110) rfl (aJ aK h45 akk)
 have DJ:=Mr.next (k:=157) rfl (aJ aK Mr akl)
 have h48:=DJ.next (k:=267) rfl (aJ aK DJ akm)
 have h49:=h48.next (k:=241) rfl (aj2 h48)
 have h50:=h49.next (k:=242) rfl (aJ aK h49 akn)
 have h51:=h50.next (k:=198) rfl (aJ aK h50 c198)
 have h52:=h51.next (k:=199) rfl (aJ aK h51 ako)
 have h53:=h52.next (k:=158) rfl (aJ aK h52 akp)
 have h54:=h53.next (k:=111) rfl (aJ aK h53 akq)
 have h55:=h54.next (k:=71) rfl (aJ aK h54 c71)
 have h56:=h55.next (k:=159) rfl (aJ aK h55 akr)
 have h57:=h56.next (k:=200) rfl (aJ aK h56 aks)
 have Zj:=h57.next (k:=201) rfl (aJ aK h57 akt)
 have h59:=Zj.next (k:=202) rfl (aJ aK Zj aku)
 have h60:=h59.next (k:=160) rfl (aJ aK h59 akv)
 have h61:=h60.next (k:=161) rfl (aJ aK h60 akw)
 have h62:=h61.next (k:=246) rfl (aJ aK h61 akx)
 have Lg:=h62.next (k:=245) rfl (aJ aK h62 aky)
 have h64:=Lg.next (k:=205245) rfl (aJ aK Lg XG)
 have h65:=h64.next (k:=163) rfl (aJ aK h64 akz)
 have h66:=h65.next (k:=204) rfl (aJ aK h65 akA)
 have h67:=h66.next (k:=244) rfl (aJ aK h66 akB)
 have h68:=h67.next (k:=203) rfl (aJ aK h67 akC)
 have h69:=h68.next (k:=112) rfl (aJ aK h68 akD)
 have h70:=h69.next (k:=164) rfl (aJ aK h69 akE)
 have h71:=h70.next (k:=165) rfl (aJ aK h70 akF)
 have h72:=h71.next (k:=210) rfl (aJ aK h71 akG)
 have h73:=h72.next (k:=211) rfl (aJ aK h72 akH)
 have h74:=h73.next (k:=247) rfl (aJ aK h73 akI)
 have h75:=h74.next (k:=250) rfl (aJ aK h74 akJ)
 have h76:=h75.next (k:=251) rfl (aJ aK h75 akK)
 have h77:=h76.next (k:=284) rfl (aJ aK h76 akL)
 have h78:=h77.next (k:=268) rfl (aJ aK h77 akM)
 have h79:=h78.next (k:=207) rfl (aJ aK h78 akN)
 have h80:=h79.next (k:=208) rfl (aJ aK h79 akO)
 have h81:=h80.next (k:=166) rfl (aJ aK h80 akP)
 have h82:=h81.next (k:=168) rfl (aJ aK h81 akQ)
 have h83:=h82.next (k:=170) rfl (aJ aK h82 akR)
 have h84:=h83.next (k:=213) rfl (aJ aK h83 akS)
 have h85:=h84.next (k:=171) rfl (aJ aK h84 akT)
 have h86:=h85.next (k:=172) rfl (aJ aK h85 akU)
 have h87:=h86.next (k:=113) rfl (aJ aK h86 akV)
 have h88:=h87.next (k:=72) rfl (aJ aK h87 c72)
 have h89:=h88.next (k:=114) rfl (aJ aK h88 akW)
 have h90:=h89.next (k:=115) rfl (aJ aK h89 akX)
 have h91:=h90.next (k:=117) rfl (aJ aK h90 akY)
 have h92:=h91.next (k:=173) rfl (aJ aK h91 akZ)
 have h93:=h92.next (k:=73) rfl (aJ aK h92 c73)
 have h94:=h93.next (k:=118) rfl (aJ aK h93 ak0)
 have h95:=h94.next (k:=119) rfl (aJ aK h94 c119)
 have h96:=h95.next (k:=214) rfl (aJ aK h95 ak1)
 have h97:=h96.next (k:=215) rfl (aJ aK h96 ak2)
 have h98:=h97.next (k:=216) rfl (aJ aK h97 ak3)
 have h99:=h98.next (k:=175) rfl (aJ aK h98 ak4)
 have aff:=h99.next (k:=121) rfl (aJ aK h99 ak5)
 have afg:=aff.next (k:=120) rfl (aJ aK aff ak6)
 have afh:=afg.next (k:=220) rfl (aJ aK afg ak7)
 have afi:=afh.next (k:=176) rfl (aJ aK afh ak8)
 have afj:=afi.next (k:=269) rfl (aJ aK afi ak9)
 have afk:=afj.next (k:=252) rfl (aJ aK afj ak')
 have afl:=afk.next (k:=270) rfl (aJ aK afk ala)
 have afm:=afl.next (k:=271) rfl (aJ aK afl alb)
 have afn:=afm.next (k:=253) rfl (aJ aK afm alc)
 have afo:=afn.next (k:=221) rfl (aJ aK afn ald)
 have afp:=afo.next (k:=222) rfl (aJ aK afo ale)
 have afq:=afp.next (k:=272) rfl (aJ aK afp alf)
 have XH:=afq.next (k:=273) rfl (aJ aK afq alg)
 have afr:=XH.next (k:=254) rfl (aJ aK XH alh)
 have afs:=afr.next (k:=223) rfl (aJ aK afr ali)
 have aft:=afs.next (k:=224) rfl (aJ aK afs alj)
 have afu:=aft.next (k:=225) rfl (aJ aK aft alk)
 have afv:=afu.next (k:=177) rfl (aJ aK afu alm)
 have afw:=afv.next (k:=122) rfl (aJ aK afv aln)
 have afx:=afw.next (k:=123) rfl (aJ aK afw alo)
 have afy:=afx.next (k:=124) rfl (aJ aK afx alp)
 have afz:=afy.next (k:=74) rfl (aJ aK afy c74)
 have afA:=afz.next (k:=152) rfl (aJ aK afz alq)
 have XI:=afA.next (k:=153) rfl (aJ aK afA alr)
 have afB:=XI.next (k:=154) rfl (aJ aK XI als)
 have alu:=afB.next (k:=108) rfl (aJ aK afB alv)
 exact alu
end
section
open Go.Sx
variable{l:List Int}{i x:Int}
def iv(a:Nat):Nat->List DE
 |0=>[]
 |n+1=>.i (.v a)::iv (a+1) n
def r6(x:IE):BE:=.and (.le (.c (-9223372036854775808)) x) (.le x (.c 9223372036854775807))
def ns(l:List BE)(t:au):au:=l.foldr (fun p t=>.ev (.aL p) t) t
section
variable {E:Nat->List DV->List DV->Prop}{R:List DV->Prop}{Ps:List (Int->Prop)}{ae:aH}{F:Nat->List DV->Prop}{t t':au}
variable{bP:List DE}{x:IE}
theorem qt(h: -9223372036854775808<=x.af ae/\x.af ae<=9223372036854775807):(r6 x).af ae=true:=by
 simp only[r6,BE.af,IE.af,ao];exact⟨kR h.1,kR h.2⟩
theorem oN(h: -9223372036854775808<=x.af ae/\x.af ae<=9223372036854775807)(ht:t.gY E R Ps ae F):(au.ev (.aL (r6 x)) t).gY E R Ps ae F:=sk (qt h) ht
theorem KH:∀ {l:List BE},(∀p∈l,p.af ae=true)->t.gY E R Ps ae F->(ns l t).gY E R Ps ae F
 | [],_,ht=>ht
 |p::l,h,ht=>sk (h p (aU ..)) (KH (fun q hq=>h q (bn _ hq)) ht)
theorem Gm{a b:IE}(h:a.af ae<b.af ae)(ht:t.gY E R Ps ae F):(au.ev (.aL (.lt a b)) t).gY E R Ps ae F:=sk (kR h) ht
theorem l9{a b:IE}(h:a.af ae<=b.af ae)(ht:t.gY E R Ps ae F):(au.ev (.aL (.le a b)) t).gY E R Ps ae F:=sk (kR h) ht
theorem SL{id sV:Nat}{G G':List DV->Prop}(cV:Nat.beq id sV=false)(h:G (bP.map (DE.af ae))):(au.again id bP).gY E R Ps ae (qv (qv F id G) sV G'):=by
 have cV:id≠sV:=fun e=>by subst e;simp at cV
 simpa[au.gY,qv,cV]using h
theorem ix{a b:IE}(h1:a.af ae<b.af ae->t.gY E R Ps ae F)(h2:b.af ae<=a.af ae->t'.gY E R Ps ae F):(au.ite (.lt a b) t t').gY E R Ps ae F:=
 jR (fun h=>h1 (mW h)) (fun h=>h2 (Int.not_lt.1 (Jq h)))
theorem dV{a b:IE}(h1:a.af ae=b.af ae->t.gY E R Ps ae F)(h2:a.af ae≠b.af ae->t'.gY E R Ps ae F):(au.ite (.eq a b) t t').gY E R Ps ae F:=
 jR (fun h=>h1 (mW h)) (fun h=>h2 (Jq h))
theorem Cp{c:BE}(h1:c.af ae=false->t.gY E R Ps ae F)(h2:c.af ae=true->t'.gY E R Ps ae F):(au.ite (.not c) t t').gY E R Ps ae F:=
 jR (fun h=>h1 (by simpa[BE.af]using h)) (fun h=>h2 (by simpa[BE.af]using h))
theorem iP{rs:List DV}(e:bP.map (DE.af ae)=rs)(h:R rs):(au.ret bP).gY E R Ps ae F:=by
 subst e;exact h
end
theorem dl{xs:List (List Int)}:(DV.l xs).list=xs:=rfl
theorem di{n:Int}:(DV.i n).int=n:=rfl
theorem db{b:Bool}:(DV.b b).bool=b:=rfl
def fM(l:List Int):List (List Int):=l.map fun x=>[x]
theorem fa:(fM l).length=l.length:=lS ..
theorem IH(h0:0<=i)(h1:i<l.length):cellAt (fM l) i 0=l.getD i.toNat 0:=by
 unfold cellAt fM;have:i.toNat<l.length:=by omega
 simp[List.getD,this]
theorem yh:setAt (fM l) i 0 x=fM (l.set i.toNat x):=by
 unfold setAt fM;refine List.ext_getElem? fun k=>?_;simp only[List.getElem?_modify,gL,List.getElem?_set];by_cases e:i.toNat=k;subst e;rcases qK i.toNat l.length with h|h;simp[h,lV];simp[h,Nat.not_lt.2 h];simp[e]
theorem Cv{n:Nat}:List.replicate n [x]=fM (List.replicate n x):=by simp[fM]
theorem II{i:Nat}(h:i<l.length):l.getD i 0∈l:=by
 simp[List.getD,h]
end
end Go.Proofs.YtohebioanhliiaaGreatDoor.av
namespace Go.Sx.F6
variable{c h y:Int}
def b:Int:=4294967296
structure Inv(a c p r q h:Int):Prop where
 rest:h=a-q*p
 up:(a*b+c)/(p*b+r)<=q
 h0:0<=h
theorem Ib{a p r q:Int}(hp:2147483648<=p)(Rx:p<b)(eo:0<=r)(hr:r<b)(tU:0<=c)(hc:c<b)(Ma:0<=a)(hi:Inv a c p r q h)(ht:q*r<=b*h+c):q=(a*b+c)/(p*b+r):=by
 have hv:0<p*b+r:=by unfold b at *;omega
 have h1:q*(p*b+r)<=a*b+c:=by
   have e:q*(p*b+r)=q*p*b+q*r:=by grind
   have e2:b*h=a*b-q*p*b:=by rw[hi.rest];grind
   omega
 have h2:=Int.le_ediv_of_mul_le hv h1;have:=hi.up;omega
theorem Ry{a p r:Int}(hp:2147483648<=p)(eo:0<=r)(tU:0<=c)(hc:c<b)(Ma:0<=a):Inv a c p r (a/p) (a-a/p*p):=by
 have hv:0<p*b+r:=by unfold b at *;omega
 refine⟨rfl,?_,?_⟩;have h1:=yQ a (show 0<p by omega);have h2:a-a/p*p<p:=by have:=Int.emod_add_mul_ediv a p;have e:p*(a/p)=a/p*p:=l6 ..;omega
 have h3:(a*b+c)/(p*b+r)<a/p+1:=by
   refine Fe hv ?_;have q0:=wo Ma (show 0<=p by omega);have e1:(a/p+1)*(p*b+r)=(a/p*p+p)*b+(a/p+1)*r:=by grind
   have e2:=j7 (show 0<=a/p+1 by omega) eo;have e3:a+1<=a/p*p+p:=by omega
   have e4:=rS e3 (show 0<=b by unfold b;omega);have e5:(a+1)*b=a*b+b:=by grind
   omega
 omega;have:=Int.ediv_mul_le a (show p≠0 by omega);omega
theorem W7{a p r q:Int}(hp:2147483648<=p)(eo:0<=r)(tU:0<=c)(Ma:0<=a)(cu:a*b+c<(p*b+r)*b)(hi:Inv a c p r q h)(ht:b<=q\/b*h+c<q*r):Inv a c p r (q-1) (h+p):=by
 have hv:0<p*b+r:=by unfold b at *;omega
 have hq:(a*b+c)/(p*b+r)<q:=by
   rcases ht with ht|ht;have:(a*b+c)/(p*b+r)<b:=Fe hv (by have:b*(p*b+r)=(p*b+r)*b:=l6 ..;omega);omega;refine Fe hv ?_;have e:q*(p*b+r)=q*p*b+q*r:=by grind
   have e2:b*h=a*b-q*p*b:=by rw[hi.rest];grind
   omega
 refine⟨?_,by omega,?_⟩;rw[hi.rest];grind;have:=hi.h0;omega
theorem W8{a p r q:Int}(hp:2147483648<=p)(Rx:p<b)(eo:0<=r)(hr:r<b)(tU:0<=c)(hc:c<b)(Ma:0<=a)(cu:a<p*b+r)(hi:Inv a c p r q h)(hh:b<=h)(Za:0<=q):q=(a*b+c)/(p*b+r):=by
 refine Ib hp Rx eo hr tU hc Ma hi ?_;have hq:q<=b:=by
   rcases Int.lt_or_le b q with h1|h1;have e1:=rS (show b+1<=q by omega) (show 0<=p by omega);have e2:(b+1)*p=p*b+p:=by grind
   have:=hi.rest;unfold b at *;omega;exact h1
 have e1:=rS hq eo;have e2:=rR hh (show 0<=b by unfold b;omega);have e3:=rR (show r<=b by omega) (show 0<=b by unfold b;omega);omega
theorem IT:∀f x:Nat,x<2 ^ f->x<2 ^ Lib.bitLenAux f x/\(x≠0->2 ^ Lib.bitLenAux f x<=2*x)
 |0,x,h=>⟨by simpa[Lib.bitLenAux]using h,fun h'=>by simp at h;omega⟩
 | f+1,x,h=>by
   rw[Lib.bitLenAux];split;rename_i h0;subst h0;exact⟨by decide,fun h=>absurd rfl h⟩;rename_i h0;have h2:x/2<2 ^ f:=by rw[Nat.pow_succ]at h;omega
   obtain⟨i1,i2⟩:=IT f (x/2) h2;rw[Nat.add_comm,Nat.pow_succ];refine⟨by omega,fun _=>?_⟩;rcases Nat.eq_zero_or_pos (x/2)with e|e;have:Lib.bitLenAux f (x/2)=0:=by
     rw[e];cases f<;>simp[Lib.bitLenAux]
   rw[this];omega;have:=i2 (by omega);omega
theorem W9(h0:1<=y)(h1:y<18446744073709551616):∃s:Nat,(64-(Lib.bitLen y.toNat:Int))=s/\s<=63/\9223372036854775808<=y*2 ^ s/\y*2 ^ s<18446744073709551616:=by
 obtain⟨i1,i2⟩:=IT 64 y.toNat (by omega);have e2:=i2 (by omega);have hle:Lib.bitLenAux 64 y.toNat<=64:=by
   rcases qK 64 (Lib.bitLenAux 64 y.toNat)with h|h;have:=Nat.pow_le_pow_right (show 0<2 by omega) (show 65<=Lib.bitLenAux 64 y.toNat by omega);omega;exact h
 have kJ:1<=Lib.bitLenAux 64 y.toNat:=by
   rcases Nat.eq_zero_or_pos (Lib.bitLenAux 64 y.toNat)with h|h;rw[h]at i1;omega;exact h
 refine⟨64-Lib.bitLenAux 64 y.toNat,by unfold Lib.bitLen;omega,by omega,?_,?_⟩
 all_goals
   have ey:y=(y.toNat:Int):=by omega
   have ep:2 ^ Lib.bitLenAux 64 y.toNat*2 ^ (64-Lib.bitLenAux 64 y.toNat)=2 ^ 64:=by rw[<- Nat.pow_add];congr 1;omega
   generalize Lib.bitLenAux 64 y.toNat=k at *;generalize y.toNat=x at *;subst ey;have hp:0<2 ^ (64-k):=Nat.pow_pos (by omega);have c1:=Nat.mul_lt_mul_of_pos_right i1 hp;have c2:=yJ (2 ^ (64-k)) e2;rw[ep]at c1 c2;have c3:2*x*2 ^ (64-k)=2*(x*2 ^ (64-k)):=Nat.mul_assoc ..;have c4:((x*2 ^ (64-k):Nat):Int)=(x:Int)*2 ^ (64-k):=by push_cast;rfl
   rw[<- c4];omega
theorem aee{hi lo:Int}{s:Nat}(hs:s<=64)(h0:0<=lo)(h1:lo<18446744073709551616):(hi*2 ^ s+lo/2 ^ (64-s))*18446744073709551616+(lo*2 ^ s)%18446744073709551616=(hi*18446744073709551616+lo)*2 ^ s/\0<=lo/2 ^ (64-s)/\lo/2 ^ (64-s)<2 ^ s:=by
 have ep:(2:Int) ^ (64-s)*2 ^ s=18446744073709551616:=by rw[<- Int.pow_add];rw[show 64-s+s=64 by omega];rfl
 have p1:(0:Int)<2 ^ (64-s):=Int.pow_pos (by omega);have p2:(0:Int)<2 ^ s:=Int.pow_pos (by omega);have d:=Int.emod_add_mul_ediv lo (2 ^ (64-s));have m0:=Aj lo (show(2:Int) ^ (64-s)≠0 by omega);have m1:=yQ lo p1;have q0:=wo h0 (show(0:Int)<=2 ^ (64-s)by omega);have q1:lo/2 ^ (64-s)<2 ^ s:=Fe p1 (by rw[l6,ep];exact h1);generalize lo/2 ^ (64-s)=h at *;generalize lo%2 ^ (64-s)=l at *;generalize(2:Int) ^ (64-s)=B at *;generalize(2:Int) ^ s=P at *;have e1:lo*P=h*18446744073709551616+l*P:=by
   rw[<- d,<- ep];grind
 have l0:=j7 m0 (show 0<=P by omega);have l1:l*P<18446744073709551616:=by
   rw[<- ep];exact Int.mul_lt_mul_of_pos_right m1 p2
 have e2:(lo*P)%18446744073709551616=l*P:=by
   rw[e1];omega
 refine⟨?_,q0,q1⟩;rw[e2];have e3:(hi*P+h)*18446744073709551616+l*P=hi*P*18446744073709551616+(h*18446744073709551616+l*P):=by grind
 rw[e3,<- e1];grind
theorem join{N P Y A d q1 q0:Int}(hP:0<P)(hy:0<y)(hY:Y=y*P)(hN:A*(b*b)+(c*b+d)=N*P)(PL:q1=(A*b+c)/Y)(Za:q0=((A*b+c-q1*Y)*b+d)/Y) :
   q1*b+q0=N/y/\((A*b+c-q1*Y)*b+d-q0*Y)/P=N%y/\(A*b+c-q1*Y)*b+d-q0*Y=N%y*P:=by
 have hYp:0<Y:=by rw[hY];exact Int.mul_pos hy hP
 have r0:=Aj ((A*b+c-q1*Y)*b+d) (show Y≠0 by omega);have r1:=yQ ((A*b+c-q1*Y)*b+d) hYp;have e:=Int.emod_add_mul_ediv ((A*b+c-q1*Y)*b+d) Y;rw[<- Za]at e;have hr:(A*b+c-q1*Y)*b+d-q0*Y=((A*b+c-q1*Y)*b+d)%Y:=by
   have:Y*q0=q0*Y:=l6 ..;omega
 have hk:(A*b+c-q1*Y)*b+d-q0*Y=(N-(q1*b+q0)*y)*P:=by
   have:(N-(q1*b+q0)*y)*P=N*P-(q1*b+q0)*(y*P):=by grind
   rw[this,<- hN,<- hY];grind
 generalize(A*b+c-q1*Y)*b+d-q0*Y=R at *;generalize((A*b+c-q1*Y)*b+d)%Y=R' at *;subst hr;have k0:0<=N-(q1*b+q0)*y:=by
   rcases Int.lt_or_le (N-(q1*b+q0)*y) 0 with h|h;have:=Int.mul_lt_mul_of_pos_right h hP;omega;exact h
 have k1:N-(q1*b+q0)*y<y:=by
   rcases Int.lt_or_le (N-(q1*b+q0)*y) y with h|h;exact h;have:=rS h (show 0<=P by omega);omega
 have hm:N%y=N-(q1*b+q0)*y:=by
   have:=Int.emod_emod_of_dvd N (Int.dvd_refl y);have e3:N=(N-(q1*b+q0)*y)+y*(q1*b+q0):=by grind
   rw[e3,Int.add_mul_emod_self_left];rw[Int.emod_eq_of_lt k0 k1];grind
 refine⟨?_,?_,?_⟩;have:=Int.emod_add_mul_ediv N y;have e4:y*(N/y)=y*(q1*b+q0):=by
   have:y*(q1*b+q0)=(q1*b+q0)*y:=l6 ..;omega
 exact(Int.eq_of_mul_eq_mul_left (by omega) e4).symm;rw[hk,Int.mul_ediv_cancel _ (by omega),hm];rw[hk,hm]
end Go.Sx.F6
namespace Go.Proofs.YtohebioanhliiaaGreatDoor.av
section
open Go.Sx Go Go.Sx.F6
abbrev bE:IE:=.c 4294967296
def sE:IE:=.wrap .u64 (.v 3)
def yE:IE:=.wrap .u64 (.shl (.v 2) sE)
def pE:IE:=.ediv yE 4294967296
def rE:IE:=.emod yE 4294967296
def aE:IE:=.bits .or .u64 (.wrap .u64 (.shl (.v 0) sE)) (.shr (.v 1) (.wrap .u64 (.sub (.c 64) sE)))
def lE:IE:=.wrap .u64 (.shl (.v 1) sE)
def cE:IE:=.ediv lE 4294967296
def dE:IE:=.emod lE 4294967296
def uE(q:IE):IE:=.wrap .u64 (.sub (.wrap .u64 (.add (.wrap .u64 (.mul aE bE)) cE)) (.wrap .u64 (.mul q yE)))
def aaV(q q0:IE):IE:=.shr (.wrap .u64 (.sub (.wrap .u64 (.add (.wrap .u64 (.mul (uE q) bE)) dE)) (.wrap .u64 (.mul q0 yE)))) sE
def aaW(q q0:IE):au:=.ev (.aL (.le (.c 0) sE)) (.ev (.aL (.le sE (.c 64))) (.ret [.i (.wrap .u64 (.add (.wrap .u64 (.mul q bE)) q0)),.i (aaV q q0)]))
def inT(q:IE):au:=.ev (.aL (.sP pE)) (
.loop 241024 [.i (.wrap .u64 (.sub (uE q) (.wrap .u64 (.mul (.wrap .u64 (.tdiv (uE q) pE)) pE)))),.i (.wrap .u64 (.tdiv (uE q) pE))] [.c (.i .u64),.c (.i .u64)] 6 (
.ite (.or (.le bE (.v 7)) (.lt (.wrap .u64 (.add (.wrap .u64 (.mul bE (.v 6))) dE)) (.wrap .u64 (.mul (.v 7) rE)))) (
.ite (.le bE (.wrap .u64 (.add (.v 6) pE))) (aaW q (.wrap .u64 (.sub (.v 7) (.c 1)))) (
.again 241024 [.i (.wrap .u64 (.add (.v 6) pE)),.i (.wrap .u64 (.sub (.v 7) (.c 1)))])) (
 aaW q (.v 7))))
def t241:au:=
.ite (.eq (.v 2) (.c 0)) (
.stuck "") (
.ite (.le (.v 2) (.v 0)) (
.stuck "") (
.ite (.eq (.v 0) (.c 0)) (
.ev (.aL (.sP (.v 2))) (
.ret [.i (.wrap .u64 (.tdiv (.v 1) (.v 2))),.i (.tmod (.v 1) (.v 2))])) (
.ev (.call 267 (.c true) [.i (.v 2)] [.one (.c (.i .i64))] 3) (
.ev (.aL (.le (.c 0) sE)) (
.ev (.aL (.le sE (.c 64))) (
.ev (.aL (.le (.c 0) (.wrap .u64 (.sub (.c 64) sE)))) (
.ev (.aL (.le (.wrap .u64 (.sub (.c 64) sE)) (.c 64))) (
.ev (.aL (.sP pE)) (
.loop 241017 [.i (.wrap .u64 (.tdiv aE pE)),.i (.wrap .u64 (.sub aE (.wrap .u64 (.mul (.wrap .u64 (.tdiv aE pE)) pE))))] [.c (.i .u64),.c (.i .u64)] 4 (
.ite (.or (.le bE (.v 4)) (.lt (.wrap .u64 (.add (.wrap .u64 (.mul bE (.v 5))) cE)) (.wrap .u64 (.mul (.v 4) rE)))) (
.ite (.le bE (.wrap .u64 (.add (.v 5) pE))) (inT (.wrap .u64 (.sub (.v 4) (.c 1)))) (
.again 241017 [.i (.wrap .u64 (.sub (.v 4) (.c 1))),.i (.wrap .u64 (.add (.v 5) pE))])) (
 inT (.v 4))))))))))))
theorem aiV:TT PP 241=some ⟨241,t241,(rowOf 241).sub⟩:=by kernel_rfl
def t267:au:=.ev (.call 283 (.c true) [.i (.v 0)] [.one (.c (.i .i64))] 1) (.ev (.aL (r6 (.sub (.c 64) (.v 1)))) (.ret [.i (.sub (.c 64) (.v 1))]))
theorem aiW:TT PP 267=some ⟨267,t267,(rowOf 267).sub⟩:=by kernel_rfl
theorem wu(n:Int):IntKind.u64.wrap n=n%18446744073709551616:=IntKind.wrap_u64 n
theorem wid{n:Int}(h0:0<=n)(h1:n<18446744073709551616):IntKind.u64.wrap n=n:=by rw[wu];exact Int.emod_eq_of_lt h0 h1
structure Nm(hi lo y:Int)(k:Nat):Prop where
 vX:0<=hi
 cu:hi<y
 lo0:0<=lo
 lo1:lo<18446744073709551616
 hk:k<=63
 n0:9223372036854775808<=y*2 ^ k
 n1:y*2 ^ k<18446744073709551616
def Yv(y:Int)(k:Nat):Int:=y*2 ^ k
def Av(hi lo:Int)(k:Nat):Int:=hi*2 ^ k+lo/2 ^ (64-k)
def Lv(lo:Int)(k:Nat):Int:=(lo*2 ^ k)%18446744073709551616
def pv(y:Int)(k:Nat):Int:=Yv y k/4294967296
def rv(y:Int)(k:Nat):Int:=Yv y k%4294967296
def cv(lo:Int)(k:Nat):Int:=Lv lo k/4294967296
def dv(lo:Int)(k:Nat):Int:=Lv lo k%4294967296
structure Vf(e:aH)(hi lo y:Int)(k:Nat):Prop where
 h0:e 0 = .i hi
 h1:e 1 = .i lo
 h2:e 2 = .i y
 h3:e 3 = .i k
section
variable {e:aH}{hi lo y:Int}{k:Nat}
variable{c h:Int}{E:Nat->List DV->List DV->Prop}{F:Nat->List DV->Prop}{Ps:List (Int->Prop)}
theorem Vf.aB(h:Vf e hi lo y k){j:Nat}(hj:4<=j)(ds:List DV):Vf (e.aB j ds) hi lo y k:=
 ⟨by rw[aH.cA (by omega)];exact h.h0,by rw[aH.cA (by omega)];exact h.h1,by rw[aH.cA (by omega)];exact h.h2,by rw[aH.cA (by omega)];exact h.h3⟩
theorem aaX(k:Nat):(1:Int)<=2 ^ k:=Int.pow_pos (by omega)
theorem Nm.A(n:Nm hi lo y k):0<=Av hi lo k/\Av hi lo k<Yv y k/\Av hi lo k*18446744073709551616+Lv lo k=(hi*18446744073709551616+lo)*2 ^ k/\0<=lo/2 ^ (64-k)/\lo/2 ^ (64-k)<2 ^ k/\0<=hi*2 ^ k:=by
 obtain⟨m1,m2,m3⟩:=aee (hi:=hi) (s:=k) (by have:=n.hk;omega) n.lo0 n.lo1;have p1:=aaX k;have e1:=rS (show hi+1<=y from n.cu) (show(0:Int)<=2 ^ k by omega);have e2:(hi+1)*2 ^ k=hi*2 ^ k+2 ^ k:=by grind
 have e3:=j7 n.vX (show(0:Int)<=2 ^ k by omega);refine⟨?_,?_,m1,m2,m3,e3⟩;show 0<=hi*2 ^ k+lo/2 ^ (64-k);omega;show hi*2 ^ k+lo/2 ^ (64-k)<y*2 ^ k;omega
theorem Nm.L(n:Nm hi lo y k):(0<=cv lo k/\cv lo k<4294967296)/\(0<=dv lo k/\dv lo k<4294967296)/\Lv lo k=cv lo k*4294967296+dv lo k:=by
 have:0<=Lv lo k/\Lv lo k<18446744073709551616:=by unfold Lv;omega
 unfold cv dv;omega
theorem Nm.P(n:Nm hi lo y k):(2147483648<=pv y k/\pv y k<4294967296)/\(0<=rv y k/\rv y k<4294967296)/\Yv y k=pv y k*4294967296+rv y k/\9223372036854775808<=Yv y k/\Yv y k<18446744073709551616:=by
 have h0:9223372036854775808<=Yv y k:=n.n0;have h1:Yv y k<18446744073709551616:=n.n1;unfold pv rv;omega
theorem dS(v:Vf e hi lo y k)(n:Nm hi lo y k):sE.af e=(k:Int):=by
 show IntKind.u64.wrap (e 3).int=k;rw[v.h3];have:=n.hk;exact wid (by show(0:Int)<=k;omega) (by show(k:Int)<18446744073709551616;omega)
theorem dY(v:Vf e hi lo y k)(n:Nm hi lo y k):yE.af e=Yv y k:=by
 show IntKind.u64.wrap ((e 2).int*2 ^ (sE.af e).toNat)=y*2 ^ k;rw[v.h2,dS v n,xm];have:=n.n0;have:=n.n1;exact wid (by show 0<=y*2 ^ k;omega) (by show y*2 ^ k<18446744073709551616;omega)
theorem dP(v:Vf e hi lo y k)(n:Nm hi lo y k):pE.af e=pv y k:=by
 show yE.af e/4294967296=Yv y k/4294967296;rw[dY v n]
theorem dR(v:Vf e hi lo y k)(n:Nm hi lo y k):rE.af e=rv y k:=by
 show yE.af e%4294967296=Yv y k%4294967296;rw[dY v n]
theorem dL(v:Vf e hi lo y k)(n:Nm hi lo y k):lE.af e=Lv lo k:=by
 show IntKind.u64.wrap ((e 1).int*2 ^ (sE.af e).toNat)=(lo*2 ^ k)%18446744073709551616;rw[v.h1,dS v n,xm,wu];rfl
theorem dC(v:Vf e hi lo y k)(n:Nm hi lo y k):cE.af e=cv lo k:=by
 show lE.af e/4294967296=Lv lo k/4294967296;rw[dL v n]
theorem dD(v:Vf e hi lo y k)(n:Nm hi lo y k):dE.af e=dv lo k:=by
 show lE.af e%4294967296=Lv lo k%4294967296;rw[dL v n]
theorem dA(v:Vf e hi lo y k)(n:Nm hi lo y k):aE.af e=Av hi lo k:=by
 show Go.bits .or .u64 (IntKind.u64.wrap ((e 0).int*2 ^ (sE.af e).toNat)) ((e 1).int/2 ^ (IntKind.u64.wrap (64-sE.af e)).toNat)=Av hi lo k;obtain⟨a0,a1,_,a3,a4,a5⟩:=n.A;obtain⟨_,_,_,_,y1⟩:=n.P;have hk:=n.hk;rw[v.h0,v.h1,dS v n,xm,show IntKind.u64.wrap (64-(k:Int))=((64-k:Nat):Int)by rw[wid (by omega) (by omega)];omega,xm];unfold Av at a0 a1 ⊢;show Go.bits .or .u64 (IntKind.u64.wrap (hi*2 ^ k)) (lo/2 ^ (64-k))=hi*2 ^ k+lo/2 ^ (64-k);rw[wid a5 (by omega)];show Go.bits .or .u64 (hi*2 ^ k) (lo/2 ^ (64-k))=hi*2 ^ k+lo/2 ^ (64-k);obtain⟨x,hx⟩:∃x:Nat,hi=x:=⟨hi.toNat,by have:=n.vX;omega⟩;obtain⟨z,hz⟩:∃z:Nat,lo/2 ^ (64-k)=z:=⟨(lo/2 ^ (64-k)).toNat,by omega⟩;subst hx;rw[hz]at a0 a1 a3 a4 ⊢;have c1:((x*2 ^ k:Nat):Int)=(x:Int)*2 ^ k:=by push_cast;rfl
 have c2:((2 ^ k:Nat):Int)=(2:Int) ^ k:=by push_cast;rfl
 rw[<- c1]at a1 ⊢;rw[<- c2]at a4;rw[bits_or_u64_nat _ _ (by omega) (by omega)];have:=Nat.two_pow_add_eq_or_of_lt (show z<2 ^ k by omega) x;rw[Nat.mul_comm]at this;rw[<- this];omega
theorem Y5{q r:Int}(h0:0<=h)(hb:h<4294967296)(c0:0<=c)(cb:c<4294967296)(q0:0<=q)(r0:0<=r)(rb:r<4294967296)(hc:(decide ((4294967296:Int)<=q)||decide (IntKind.u64.wrap (IntKind.u64.wrap (4294967296*h)+c)<IntKind.u64.wrap (q*r)))=true):b<=q\/b*h+c<q*r:=by
 unfold b;rw[wu,wu,wu,ig,aM,aM]at hc;rcases Int.lt_or_le q 4294967296 with hq|hq;have e1:=rR (show r<=4294967295 by omega) q0;have e2:=j7 q0 r0;generalize q*r=m at *;omega;exact Or.inl hq
theorem Y6{q r:Int}(h0:0<=h)(hb:h<4294967296)(c0:0<=c)(cb:c<4294967296)(q0:0<=q)(r0:0<=r)(rb:r<4294967296)(hc:(decide ((4294967296:Int)<=q)||decide (IntKind.u64.wrap (IntKind.u64.wrap (4294967296*h)+c)<IntKind.u64.wrap (q*r)))=false):q<b/\q*r<=b*h+c:=by
 unfold b;rw[wu,wu,wu,G0,Le,Le]at hc;have e1:=rR (show r<=4294967295 by omega) q0;have e2:=j7 q0 r0;generalize q*r=m at *;omega
def Lp(a c p r:Int)(q h:Int):Prop:=Inv a c p r q h/\0<=q/\q<=8589934592/\h<4294967296
theorem Lp.start{a p r:Int}(hp:2147483648<=p)(Rx:p<4294967296)(eo:0<=r)(tU:0<=c)(hc:c<4294967296)(Ma:0<=a)(ha:a<18446744073709551616) :
   IntKind.u64.wrap (a.tdiv p)=a/p/\IntKind.u64.wrap (a-IntKind.u64.wrap (IntKind.u64.wrap (a.tdiv p)*p))=a-a/p*p/\Lp a c p r (a/p) (a-a/p*p):=by
 have i:=Ry hp eo tU (show c<b from hc) Ma;have d:=Int.emod_add_mul_ediv a p;have m1:=yQ a (show 0<p by omega);have q0:=wo Ma (show 0<=p by omega);have q1:a/p<8589934592:=Fe (by omega) (by omega);have e1:a.tdiv p=a/p:=As Ma;have h0:=i.h0;have e3:p*(a/p)=a/p*p:=l6 ..;have m0:=j7 q0 (show 0<=p by omega);rw[e1,wid q0 (by omega),wid m0 (by omega),wid h0 (by omega)];exact⟨rfl,rfl,i,q0,by omega,by omega⟩
theorem Lp.step{a p r q:Int}(hp:2147483648<=p)(Rx:p<4294967296)(eo:0<=r)(hr:r<4294967296)(tU:0<=c)(hc:c<4294967296)(Ma:0<=a)(cu:a<p*4294967296+r)(hi:Lp a c p r q h)(ht:b<=q\/b*h+c<q*r) :
   IntKind.u64.wrap (q-1)=q-1/\IntKind.u64.wrap (h+p)=h+p/\0<=q-1/\(4294967296<=h+p->q-1=(a*b+c)/(p*b+r))/\(h+p<4294967296->Lp a c p r (q-1) (h+p)):=by
 obtain⟨i,q0,q1,h1⟩:=hi;have h0:=i.h0;have hl:a*b+c<(p*b+r)*b:=by
   have:=rS (show a+1<=p*b+r from cu) (show 0<=b by unfold b;omega);have e:(a+1)*b=a*b+b:=by grind
   have:c<b:=hc;omega
 have i':=W7 hp eo tU Ma hl i ht;have q2:1<=q:=by
   rcases ht with ht|ht;unfold b at ht;omega;rcases Int.lt_or_le q 1 with h|h;have:q=0:=by omega
   subst this;unfold b at ht;omega;exact h
 refine⟨wid (by omega) (by omega),wid (by omega) (by omega),by omega,fun hh=>?_,fun hh=>⟨i',by omega,by omega,hh⟩⟩;exact W8 hp Rx eo hr tU hc Ma cu i' hh (by omega)
theorem Lp.done{a p r q:Int}(hp:2147483648<=p)(Rx:p<4294967296)(eo:0<=r)(hr:r<4294967296)(tU:0<=c)(hc:c<4294967296)(Ma:0<=a)(hi:Lp a c p r q h)(ht:q*r<=b*h+c):q=(a*b+c)/(p*b+r):=
 Ib hp Rx eo hr tU hc Ma hi.1 ht
def Ew(hi lo y:Int)(k:Nat):Int:=(Av hi lo k*b+cv lo k)/(pv y k*b+rv y k)
def uv(hi lo y:Int)(k:Nat):Int:=Av hi lo k*b+cv lo k-Ew hi lo y k*(pv y k*b+rv y k)
def Mb(hi lo y:Int)(k:Nat):Int:=(uv hi lo y k*b+dv lo k)/(pv y k*b+rv y k)
theorem Nm.Y(n:Nm hi lo y k):pv y k*b+rv y k=Yv y k:=by
 have:=n.P.2.2.1;unfold b;omega
theorem Nm.u(n:Nm hi lo y k):0<=uv hi lo y k/\uv hi lo y k<Yv y k/\0<=Ew hi lo y k/\Ew hi lo y k<4294967296:=by
 obtain⟨a0,a1,_⟩:=n.A;obtain⟨⟨c0,c1⟩,_⟩:=n.L;obtain⟨_,_,_,y0,y1⟩:=n.P;unfold uv Ew;rw[n.Y];have r0:=Aj (Av hi lo k*b+cv lo k) (show Yv y k≠0 by omega);have r1:=yQ (Av hi lo k*b+cv lo k) (show 0<Yv y k by omega);have e:=Int.emod_add_mul_ediv (Av hi lo k*b+cv lo k) (Yv y k);have e2:Yv y k*((Av hi lo k*b+cv lo k)/Yv y k)=(Av hi lo k*b+cv lo k)/Yv y k*Yv y k:=l6 ..;refine⟨by omega,by omega,wo (by unfold b;omega) (by omega),Fe (by omega) ?_⟩;have:=rS (show Av hi lo k+1<=Yv y k by omega) (show 0<=b by unfold b;omega);have e3:(Av hi lo k+1)*b=Av hi lo k*b+b:=by grind
 have e4:4294967296*Yv y k=Yv y k*b:=by unfold b;omega
 unfold b at *;omega
theorem Nm.q0(n:Nm hi lo y k):0<=Mb hi lo y k/\Mb hi lo y k<4294967296:=by
 obtain⟨u0,u1,_⟩:=n.u;obtain⟨_,⟨d0,d1⟩,_⟩:=n.L;obtain⟨_,_,_,y0,y1⟩:=n.P;unfold Mb;rw[n.Y];refine⟨wo (by unfold b;omega) (by omega),Fe (by omega) ?_⟩;have:=rS (show uv hi lo y k+1<=Yv y k by omega) (show 0<=b by unfold b;omega);have e3:(uv hi lo y k+1)*b=uv hi lo y k*b+b:=by grind
 have e4:4294967296*Yv y k=Yv y k*b:=by unfold b;omega
 unfold b at *;omega
theorem dU(v:Vf e hi lo y k)(n:Nm hi lo y k){q:IE}(hq:q.af e=Ew hi lo y k):(uE q).af e=uv hi lo y k:=by
 show IntKind.u64.wrap (IntKind.u64.wrap (IntKind.u64.wrap (aE.af e*4294967296)+cE.af e)-IntKind.u64.wrap (q.af e*yE.af e))=uv hi lo y k;rw[dA v n,dC v n,dY v n,hq];obtain⟨u0,u1,_,_⟩:=n.u;obtain⟨_,_,_,y0,y1⟩:=n.P;have e1:uv hi lo y k=Av hi lo k*4294967296+cv lo k-Ew hi lo y k*Yv y k:=by unfold uv;rw[n.Y];rfl
 rw[e1]at u0 u1 ⊢;rw[wu,wu,wu,wu];generalize Ew hi lo y k*Yv y k=z at *;omega
theorem Nm.fin(n:Nm hi lo y k):Ew hi lo y k*b+Mb hi lo y k=(hi*18446744073709551616+lo)/y/\(uv hi lo y k*b+dv lo k-Mb hi lo y k*Yv y k)/2 ^ k=(hi*18446744073709551616+lo)%y/\0<=uv hi lo y k*b+dv lo k-Mb hi lo y k*Yv y k/\uv hi lo y k*b+dv lo k-Mb hi lo y k*Yv y k<Yv y k:=by
 obtain⟨a0,a1,aj,_⟩:=n.A;obtain⟨_,_,lj⟩:=n.L;obtain⟨_,_,_,y0,y1⟩:=n.P;have cu:=n.cu;have vX:=n.vX;have hj:=join (N:=hi*18446744073709551616+lo) (y:=y) (P:=2 ^ k) (Y:=Yv y k) (A:=Av hi lo k) (c:=cv lo k) (d:=dv lo k) (q1:=Ew hi lo y k) (q0:=Mb hi lo y k) (by have:=aaX k;omega) (by omega) rfl
   (by rw[<- aj,lj];unfold b;omega) (by unfold Ew;rw[n.Y]) (by unfold Mb uv;rw[n.Y])
 have eu:Av hi lo k*b+cv lo k-Ew hi lo y k*Yv y k=uv hi lo y k:=by unfold uv;rw[n.Y]
 rw[eu]at hj;refine⟨hj.1,hj.2.1,?_⟩;rw[hj.2.2];have m0:=Aj (hi*18446744073709551616+lo) (show y≠0 by omega);have m1:=yQ (hi*18446744073709551616+lo) (show 0<y by omega);have p1:=aaX k;exact⟨j7 m0 (by omega),Int.mul_lt_mul_of_pos_right m1 (by omega)⟩
theorem aiX(v:Vf e hi lo y k)(n:Nm hi lo y k){q q0:IE}(hq:q.af e=Ew hi lo y k)(h0:q0.af e=Mb hi lo y k):(aaV q q0).af e=(hi*18446744073709551616+lo)%y:=by
 show IntKind.u64.wrap (IntKind.u64.wrap (IntKind.u64.wrap ((uE q).af e*4294967296)+dE.af e)-IntKind.u64.wrap (q0.af e*yE.af e))/2 ^ (sE.af e).toNat=_;rw[dU v n hq,dD v n,dY v n,h0,dS v n,xm];obtain⟨_,f2,f3,f4⟩:=n.fin;obtain⟨_,_,_,y0,y1⟩:=n.P;rw[<- f2];congr 1;rw[wu,wu,wu,wu];unfold b at *;generalize Mb hi lo y k*Yv y k=z at *;omega
abbrev Res(hi lo y:Int)(rs:List DV):Prop:=rs=[.i ((hi*18446744073709551616+lo)/y),.i ((hi*18446744073709551616+lo)%y)]
theorem Rz(v:Vf e hi lo y k)(n:Nm hi lo y k){q q0:IE}(hq:q.af e=Ew hi lo y k)(h0:q0.af e=Mb hi lo y k):(aaW q q0).gY E (Res hi lo y) Ps e F:=by
 have hk:=n.hk;refine l9 (by rw[dS v n];show(0:Int)<=k;omega) (l9 (by rw[dS v n];show(k:Int)<=64;omega) ?_);refine iP (rs:=[.i ((hi*18446744073709551616+lo)/y),.i ((hi*18446744073709551616+lo)%y)]) ?_ rfl;show [DV.i (IntKind.u64.wrap (IntKind.u64.wrap (q.af e*4294967296)+q0.af e)),DV.i ((aaV q q0).af e)]=_;rw[aiX v n hq h0,hq,h0,<- n.fin.1];obtain⟨_,_,u0,u1⟩:=n.u;obtain⟨z0,z1⟩:=n.q0;have:IntKind.u64.wrap (IntKind.u64.wrap (Ew hi lo y k*4294967296)+Mb hi lo y k)=Ew hi lo y k*b+Mb hi lo y k:=by
   unfold b;have e1:IntKind.u64.wrap (Ew hi lo y k*4294967296)=Ew hi lo y k*4294967296:=wid (by omega) (by omega);rw[e1,wid (by omega) (by omega)]
 rw[this]
theorem Y7(v:Vf e hi lo y k)(n:Nm hi lo y k){q:IE}(hq:q.af e=Ew hi lo y k)(hq6:∀ds,q.af (e.aB 6 ds)=Ew hi lo y k):(inT q).gY E (Res hi lo y) Ps e F:=by
 obtain⟨⟨p0,p1⟩,⟨r0,r1⟩,ye,y0,y1⟩:=n.P;obtain⟨_,⟨d0,d1⟩,_⟩:=n.L;obtain⟨u0,u1,_⟩:=n.u;obtain⟨s1,s2,s3⟩:=Lp.start (a:=uv hi lo y k) (c:=dv lo k) (p:=pv y k) (r:=rv y k) p0 p1 r0 d0 d1 u0 (by omega);refine sk (by show decide (pE.af e≠0)=true;rw[dP v n];exact kR (by omega)) ?_;refine mN (fun ds=>∃h x:Int,ds=[.i h,.i x]/\Lp (uv hi lo y k) (dv lo k) (pv y k) (rv y k) x h) (fun| [_,.i x]=>x.toNat|_=>0) ?_ ?_;refine⟨_,_,?_,s3⟩;show [DV.i (IntKind.u64.wrap ((uE q).af e-IntKind.u64.wrap (IntKind.u64.wrap (((uE q).af e).tdiv (pE.af e))*pE.af e))),DV.i (IntKind.u64.wrap (((uE q).af e).tdiv (pE.af e)))]=_;rw[dU v n hq,dP v n,s2,s1]
 . rintro _ ⟨h,x,rfl,hl⟩;have v':=v.aB (show 4<=6 by omega) [.i h,.i x];have Pf:=hq6 [.i h,.i x];obtain⟨e',JM⟩:∃e',e'=e.aB 6 [DV.i h,DV.i x]:=⟨_,rfl⟩;have g6:(e' 6).int=h:=by rw[JM];rfl
   have g7:(e' 7).int=x:=by rw[JM];rfl
   rw[<- JM]at v' Pf ⊢;have ZP:=hl.1.h0;obtain⟨_,x0,x1,h1⟩:=id hl;have hc:∀z,(BE.or (.le bE (.v 7)) (.lt (.wrap .u64 (.add (.wrap .u64 (.mul bE (.v 6))) dE)) (.wrap .u64 (.mul (.v 7) rE)))).af e'=z->(decide ((4294967296:Int)<=x)||decide (IntKind.u64.wrap (IntKind.u64.wrap (4294967296*h)+dv lo k)<IntKind.u64.wrap (x*rv y k)))=z:=by
     intro z hz;rw[<- hz];show _=(decide ((4294967296:Int)<=(e' 7).int)||decide (IntKind.u64.wrap (IntKind.u64.wrap (4294967296*(e' 6).int)+dE.af e')<IntKind.u64.wrap ((e' 7).int*rE.af e')));rw[g6,g7,dD v' n,dR v' n]
   refine jR (fun hb=>?_) (fun hb=>?_);have ht:=Y5 ZP h1 d0 d1 x0 r0 r1 (hc _ hb);obtain⟨w1,w2,w3,w4,w5⟩:=Lp.step p0 p1 r0 r1 d0 d1 u0 (by omega) hl ht;have gw:(IE.wrap .u64 (.add (.v 6) pE)).af e'=h+pv y k:=by
     show IntKind.u64.wrap ((e' 6).int+pE.af e')=_;rw[g6,dP v' n,w2]
   have gx:(IE.wrap .u64 (.sub (.v 7) (.c 1))).af e'=x-1:=by
     show IntKind.u64.wrap ((e' 7).int-1)=_;rw[g7,w1]
   refine jR (fun hb=>?_) (fun hb=>?_);have hb:(4294967296:Int)<=(IE.wrap .u64 (.add (.v 6) pE)).af e':=mW hb;rw[gw]at hb;exact Rz v' n Pf (by rw[gx];exact w4 hb);have hb:¬ (4294967296:Int)<=(IE.wrap .u64 (.add (.v 6) pE)).af e':=Jq hb;rw[gw]at hb;refine ld ⟨⟨h+pv y k,x-1,?_,w5 (by omega)⟩,?_⟩;show [DV.i ((IE.wrap .u64 (.add (.v 6) pE)).af e'),DV.i ((IE.wrap .u64 (.sub (.v 7) (.c 1))).af e')]=_;rw[gw,gx];show((IE.wrap .u64 (.sub (.v 7) (.c 1))).af e').toNat<x.toNat;rw[gx];omega
   . obtain⟨_,hf⟩:=Y6 ZP h1 d0 d1 x0 r0 r1 (hc _ hb);exact Rz v' n Pf (by show(e' 7).int=_;rw[g7];exact Lp.done p0 p1 r0 r1 d0 d1 u0 hl hf)
theorem aaY(v:Vf e hi lo y k)(n:Nm hi lo y k):(au.loop 241017 [.i (.wrap .u64 (.tdiv aE pE)),.i (.wrap .u64 (.sub aE (.wrap .u64 (.mul (.wrap .u64 (.tdiv aE pE)) pE))))] [.c (.i .u64),.c (.i .u64)] 4 (
.ite (.or (.le bE (.v 4)) (.lt (.wrap .u64 (.add (.wrap .u64 (.mul bE (.v 5))) cE)) (.wrap .u64 (.mul (.v 4) rE)))) (
.ite (.le bE (.wrap .u64 (.add (.v 5) pE))) (inT (.wrap .u64 (.sub (.v 4) (.c 1)))) (
.again 241017 [.i (.wrap .u64 (.sub (.v 4) (.c 1))),.i (.wrap .u64 (.add (.v 5) pE))])) (
 inT (.v 4)))).gY E (Res hi lo y) Ps e F:=by
 obtain⟨⟨p0,p1⟩,⟨r0,r1⟩,ye,y0,y1⟩:=n.P;obtain⟨⟨c0,c1⟩,_,_⟩:=n.L;obtain⟨a0,a1,_⟩:=n.A;obtain⟨s1,s2,s3⟩:=Lp.start (a:=Av hi lo k) (c:=cv lo k) (p:=pv y k) (r:=rv y k) p0 p1 r0 c0 c1 a0 (by omega);refine mN (fun ds=>∃x h:Int,ds=[.i x,.i h]/\Lp (Av hi lo k) (cv lo k) (pv y k) (rv y k) x h) (fun| [.i x,_]=>x.toNat|_=>0) ?_ ?_;refine⟨_,_,?_,s3⟩;show [DV.i (IntKind.u64.wrap ((aE.af e).tdiv (pE.af e))),DV.i (IntKind.u64.wrap (aE.af e-IntKind.u64.wrap (IntKind.u64.wrap ((aE.af e).tdiv (pE.af e))*pE.af e)))]=_;rw[dA v n,dP v n,s2,s1]
 . rintro _ ⟨x,h,rfl,hl⟩;have v':=v.aB (show 4<=4 by omega) [.i x,.i h];obtain⟨e',JM⟩:∃e',e'=e.aB 4 [DV.i x,DV.i h]:=⟨_,rfl⟩;have g4:e' 4 = .i x:=by rw[JM];rfl
   have g5:e' 5 = .i h:=by rw[JM];rfl
   rw[<- JM]at v' ⊢;have ZP:=hl.1.h0;obtain⟨_,x0,x1,h1⟩:=id hl;have hc:∀z,(BE.or (.le bE (.v 4)) (.lt (.wrap .u64 (.add (.wrap .u64 (.mul bE (.v 5))) cE)) (.wrap .u64 (.mul (.v 4) rE)))).af e'=z->(decide ((4294967296:Int)<=x)||decide (IntKind.u64.wrap (IntKind.u64.wrap (4294967296*h)+cv lo k)<IntKind.u64.wrap (x*rv y k)))=z:=by
     intro z hz;rw[<- hz];show _=(decide ((4294967296:Int)<=(e' 4).int)||decide (IntKind.u64.wrap (IntKind.u64.wrap (4294967296*(e' 5).int)+cE.af e')<IntKind.u64.wrap ((e' 4).int*rE.af e')));rw[g4,g5,dC v' n,dR v' n];rfl
   refine jR (fun hb=>?_) (fun hb=>?_);have ht:=Y5 ZP h1 c0 c1 x0 r0 r1 (hc _ hb);obtain⟨w1,w2,w3,w4,w5⟩:=Lp.step p0 p1 r0 r1 c0 c1 a0 (by omega) hl ht;have gw:(IE.wrap .u64 (.add (.v 5) pE)).af e'=h+pv y k:=by
     show IntKind.u64.wrap ((e' 5).int+pE.af e')=_;rw[g5,dP v' n];exact w2
   have gx:∀e'':aH,e'' 4 = .i x->(IE.wrap .u64 (.sub (.v 4) (.c 1))).af e''=x-1:=by
     intro e'' h4;show IntKind.u64.wrap ((e'' 4).int-1)=_;rw[h4];exact w1
   refine jR (fun hb=>?_) (fun hb=>?_);have hb:(4294967296:Int)<=(IE.wrap .u64 (.add (.v 5) pE)).af e':=mW hb;rw[gw]at hb;exact Y7 v' n (by rw[gx e' g4];exact w4 hb) fun ds=>by rw[gx _ (by rw[aH.cA (by omega)];exact g4)];exact w4 hb
   have hb:¬ (4294967296:Int)<=(IE.wrap .u64 (.add (.v 5) pE)).af e':=Jq hb;rw[gw]at hb;refine ld ⟨⟨x-1,h+pv y k,?_,w5 (by omega)⟩,?_⟩;show [DV.i ((IE.wrap .u64 (.sub (.v 4) (.c 1))).af e'),DV.i ((IE.wrap .u64 (.add (.v 5) pE)).af e')]=_;rw[gw,gx e' g4];show((IE.wrap .u64 (.sub (.v 4) (.c 1))).af e').toNat<x.toNat;rw[gx e' g4];omega
   . obtain⟨_,hf⟩:=Y6 ZP h1 c0 c1 x0 r0 r1 (hc _ hb);have hd:x=Ew hi lo y k:=Lp.done p0 p1 r0 r1 c0 c1 a0 hl hf;exact Y7 v' n (by show(e' 4).int=_;rw[g4];exact hd) fun ds=>by
       show(e'.aB 6 ds 4).int=_;rw[aH.cA (by omega),g4];exact hd
end
variable {X:bY}
def aaZ(ds:List DV):Prop:=∃n:Int,ds=[.i n]/\1<=n/\n<18446744073709551616
def aa0(ds rs:List DV):Prop:=∀n:Int,ds=[.i n]->∃k:Nat,rs=[.i k]/\k<=63/\9223372036854775808<=n*2 ^ k/\n*2 ^ k<18446744073709551616
theorem aiY(hX:X 283=zh):vy (TT PP) X 267 aaZ aa0:=wT aiW fun ds hp=>by
 obtain⟨n,rfl,n0,n1⟩:=hp;obtain⟨k,k1,k2,k3,k4⟩:=W9 n0 n1;unfold t267;refine ue (pre:=fun ds=>ds=[.i n]) (rel:=fun _ rs=>rs=[.i (Lib.bitLen n.toNat)]) (fun ds h=>⟨[.i (Lib.bitLen n.toNat)],?_,rfl⟩) rfl ?_;subst h;refine jy Y8 ?_;show X 283 [.i n]=_;rw[hX];simp only[zh,su (show 0<=n/\n<=18446744073709551615 by omega),if_true];rintro _ _ rfl;refine oN (show -9223372036854775808<=64-(Lib.bitLen n.toNat:Int)/\64-(Lib.bitLen n.toNat:Int)<=9223372036854775807 by omega) ?_;refine iP (rs:=[.i (64-(Lib.bitLen n.toNat:Int))]) rfl fun m hm=>?_;cases hm;exact⟨k,by rw[k1],k2,k3,k4⟩
def aa1(ds:List DV):Prop:=∃hi lo y:Int,ds=[.i hi,.i lo,.i y]/\0<=hi/\hi<y/\y<18446744073709551616/\0<=lo/\lo<18446744073709551616
def RA(ds rs:List DV):Prop:=∀hi lo y:Int,ds=[.i hi,.i lo,.i y]->Res hi lo y rs
theorem aef(hX:X 283=zh):vy (TT PP) X 241 aa1 RA:=wT aiV fun ds hp=>by
 obtain⟨hi,lo,y,rfl,h0,cu,y1,l0,l1⟩:=hp;have e:RA [.i hi,.i lo,.i y]=Res hi lo y:=by
   funext rs;exact propext ⟨fun h=>h _ _ _ rfl,fun h _ _ _ e=>by cases e;exact h⟩
 rw[e];unfold t241;refine dV (fun h=>absurd (show y=0 from h) (by omega)) (fun _=>?_);refine jR (fun h=>absurd (show y<=hi from mW h) (by omega)) (fun _=>?_);refine dV (fun h=>?_) (fun h=>?_);have h:hi=0:=h;subst h;refine sk (show decide (y≠0)=true from kR (by omega)) (iP (rs:=[.i ((0*18446744073709551616+lo)/y),.i ((0*18446744073709551616+lo)%y)]) ?_ rfl);show [DV.i (IntKind.u64.wrap (lo.tdiv y)),DV.i (lo.tmod y)]=_;rw[As l0,Int.tmod_eq_emod_of_nonneg l0,Int.zero_mul,Int.zero_add,wid (wo l0 (by omega)) (by have:=Int.ediv_le_self y l0;omega)];refine ue (aiY hX) ⟨y,rfl,by omega,y1⟩ fun rs _ hr=>?_;obtain⟨k,rfl,k1,k2,k3⟩:=hr y rfl;have n:Nm hi lo y k:=⟨h0,cu,l0,l1,k1,k2,k3⟩;have v:Vf ((bj.aB 0 [.i hi,.i lo,.i y]).aB 3 [.i (k:Int)]) hi lo y k:=⟨rfl,rfl,rfl,rfl⟩;have ds:=dS v n;have dk:(IE.wrap .u64 (.sub (.c 64) sE)).af ((bj.aB 0 [.i hi,.i lo,.i y]).aB 3 [.i (k:Int)])=64-(k:Int):=by
   show IntKind.u64.wrap (64-sE.af _)=_;rw[ds];exact wid (by omega) (by omega)
 refine l9 (by rw[ds];show(0:Int)<=k;omega) (l9 (by rw[ds];show(k:Int)<=64;omega) (l9 (by rw[dk];show(0:Int)<=64-k;omega) (l9 (by rw[dk];show 64-(k:Int)<=64;omega) ?_)));refine sk (by show decide (pE.af _≠0)=true;rw[dP v n];exact kR (by have:=n.P.1;omega)) ?_;exact aaY v n
end
section
open Go.Sx
variable {X:bY}
def Sz(xs:List (List Int)):Prop:=xs.length=2/\(1<=cellAt xs 0 0/\cellAt xs 0 0<=1024)/\(1<=cellAt xs 1 0/\cellAt xs 1 0<=1024)
def nkR:List NK:=[.c i6,.s 3 i6]
def OT(r:List Int):Int:=r.getD 0 0
def mQ(r:List Int):List (List Int):=fM (ij nkR r 1)
end
end Go.Proofs.YtohebioanhliiaaGreatDoor.av

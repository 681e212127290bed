/- All functions come to an end, but for those shown by hand; Div64. -/
import Derived.Test.YtohebioanhliiaaGreatDoorFB3
set_option linter.unusedVariables false
set_option linter.unusedSimpArgs false
set_option maxRecDepth 100000
namespace Go.Proofs.YtohebioanhliiaaGreatDoor.aN
section
open Go.Sx
variable{ae:aF}{n:Int}
theorem xL{a b:IE}:((BE.le a b).af ae=true)↔a.af ae<=b.af ae:=decide_eq_true_iff
theorem xM{a b:IE}:((BE.lt a b).af ae=true)↔a.af ae<b.af ae:=decide_eq_true_iff
theorem xN{a b:IE}:((BE.eq a b).af ae=true)↔a.af ae=b.af ae:=decide_eq_true_iff
theorem lP{a:BE}:((BE.not a).af ae=true)↔¬ (a.af ae=true):=by simp[BE.af]
theorem lQ{a b:BE}:((BE.and a b).af ae=true)↔a.af ae=true/\b.af ae=true:=by simp[BE.af]
theorem xO{a b:BE}:((BE.or a b).af ae=true)↔a.af ae=true\/b.af ae=true:=by simp[BE.af]
theorem JG{x y w h:IE}:gM (pix x y w h):=by
 intro ae hp;simp only[pix,bC,gu,or_false,forall_eq_or_imp,forall_eq,xL,xM,xN,lP,lQ,xO,IE.af]at hp;simp only[pix,fb,xL,xM,xN,lP,lQ,xO,IE.af];obtain⟨h1,h2,h3,h4,h5,h6⟩:=hp;generalize x.af ae=X at *;generalize y.af ae=Y at *;generalize w.af ae=W at *;generalize h.af ae=H at *;have a1:=qJ h3 (show 0<=W by omega);have a2:=zQ (show Y<=100 by omega) h5 (show 0<=W by omega) (by omega);have a3:=qk (show Y+1<=H by omega) (show 0<=W by omega);have a4:(Y+1)*W=Y*W+W:=by grind
 have a5:H*W=W*H:=mY ..;omega
theorem sL{hs:List BE}{g:BE}(h:∀ae,(∀p∈hs,p.af ae=true)->g.af ae=true):gM (hs,g):=h
theorem WS(h: -9223372036854775808<=n/\n<=9223372036854775807):IntKind.i64.wrap n=n:=Fe (by simpa[IntKind.min,IntKind.max,IntKind.signed,IntKind.bits]using h)
theorem tdm(a d:Int):a.tdiv d*d+a.tmod d=a:=by have:=Int.tdiv_mul_add_tmod a d;omega
theorem amc:∀l∈ua 202,gM l:=by
 intro l hl;simp only[ua,bC,gu,or_false]at hl;subst hl;refine sL fun ae hp=>?_;simp only[bC,gu,or_false,forall_eq,xL,xM,xN,lP,lQ,xO,IE.af]at hp;simp only[fb,Jn,xL,xM,xN,lP,lQ,xO,IE.af];have:=tdm ((ae 4).int-(ae 3).int) 2;have h1:=Int.tmod_nonneg 2 (show 0<=(ae 4).int-(ae 3).int by omega);have h2:((ae 4).int-(ae 3).int).tmod 2<2:=Int.tmod_lt_of_pos _ (by omega);omega
theorem amd:∀l∈ua 221,gM l:=by
 intro l hl;simp only[ua,bC,gu,or_false]at hl;rcases hl with rfl|rfl;refine sL fun ae hp=>?_;simp only[bC,gu,or_false,forall_eq_or_imp,forall_eq,KP,imp,xL,xM,xN,lP,lQ,xO,IE.af]at hp ⊢;omega;refine sL fun ae hp=>?_;simp only[bC,gu,or_false,forall_eq_or_imp,forall_eq,xL,xM,xN,lP,lQ,xO,IE.af]at hp ⊢;omega
theorem ame:∀l∈ua 123,gM l:=by
 intro l hl;simp only[ua,bC,gu,or_false]at hl;subst hl;refine sL fun ae hp=>?_;simp only[bC,gu,or_false,forall_eq_or_imp,forall_eq,xL,xM,xN,lP,lQ,xO,IE.af]at hp;simp only[fb,xL,xM,xN,lP,lQ,xO,IE.af];exact⟨Int.tmod_lt_of_pos _ hp.1,Int.tmod_nonneg _ (by omega)⟩
theorem amf{x y:Int}(h0:1<=y)(h1:y<=9223372036854775807):(Go.IntKind.u64.wrap x).tmod (Go.IntKind.u64.wrap y)<Go.IntKind.u64.wrap y:=by
 have:Go.IntKind.u64.wrap y=y:=vE (k:=.u64) ⟨by show(0:Int)<=y;omega,by show y<=18446744073709551615;omega⟩;rw[this];exact Int.tmod_lt_of_pos _ (by omega)
theorem amg:∀l∈ua 198,gM l:=by
 intro l hl;simp only[ua,bC,gu,or_false]at hl;rcases hl with rfl|rfl
 all_goals
   refine sL fun ae hp=>?_;simp only[bC,gu,or_false,forall_eq_or_imp,forall_eq,xL,xM,xN,lP,lQ,xO,IE.af]at hp ⊢;exact amf hp.1 hp.2
theorem l84:∀l∈ua 84,gM l:=by
 intro l hl;simp only[ua,bC,gu,or_false]at hl;rcases hl with rfl|rfl;refine sL fun ae hp=>?_;simp only[bC,gu,or_false,forall_eq_or_imp,forall_eq,xL,xM,xN,lP,lQ,xO,IE.af]at hp ⊢;rw[hp.1,hp.2];refine sL fun ae hp=>?_;simp only[bC,gu,or_false,forall_eq_or_imp,forall_eq,xL,xM,xN,lP,lQ,xO,IE.af]at hp ⊢;obtain⟨h1,h2,h3,h4,h5⟩:=hp;have a3:=qk (show(ae 1570).int+1<=(ae 1).int by omega) h5;have a4:((ae 1570).int+1)*(ae 0).int=(ae 1570).int*(ae 0).int+(ae 0).int:=by grind
 have a5:(ae 1).int*(ae 0).int=(ae 0).int*(ae 1).int:=mY ..;omega
theorem l73:∀l∈ua 73,gM l:=by
 intro l hl;simp only[ua,bC,gu,or_false]at hl;subst hl;refine sL fun ae hp=>?_;simp only[bC,gu,or_false,forall_eq_or_imp,forall_eq,xL,xM,xN,lP,lQ,xO,IE.af]at hp ⊢;rw[WS (by omega),show((ae 6).int+1).toNat=(ae 6).int.toNat+1 by omega,Int.pow_succ];grind
theorem amh:∀l∈ua 236,gM l:=by
 intro l hl;simp only[ua,bC,gu,or_false]at hl;subst hl;exact JG
theorem l19:∀l∈ua 19,gM l:=by
 intro l hl;simp only[ua,bC,gu,or_false]at hl;subst hl;exact JG
theorem l24:∀l∈ua 24,gM l:=by
 intro l hl;simp only[ua,bC,gu,or_false]at hl;rcases hl with rfl|rfl;exact JG;refine sL fun ae hp=>?_;simp only[bC,gu,or_false,forall_eq_or_imp,forall_eq,xL,xM,xN,lP,lQ,xO,IE.af]at hp;simp only[fb,xL,xM,xN,lP,lQ,xO,IE.af];obtain⟨h1,h2,h3⟩:=hp;generalize cellAt (ae 95).list 0 0=A at *;generalize cellAt (ae 95).list 1 0=B at *;have a1:=oK h2 (show 0<=A by omega);have a2:=qk h1 (show 0<=B by omega);omega
theorem ami:∀l∈ua 141,gM l:=by
 intro l hl;simp only[ua,bC,gu,or_false]at hl;subst hl;refine sL fun ae hp=>?_;simp only[bC,gu,or_false,forall_eq,xL,xM,xN,lP,lQ,xO,IE.af]at hp;simp only[fb,mq,sR,nM,xL,xM,xN,lP,lQ,xO,IE.af];omega
theorem amj:∀l∈ua 112,gM l:=by
 intro l hl;simp only[ua,bC,gu,or_false]at hl;subst hl;refine sL fun ae hp=>?_;simp only[bC,gu,or_false,forall_eq_or_imp,forall_eq,xL,xM,xN,lP,lQ,xO,IE.af]at hp;simp only[fb,xL,xM,xN,lP,lQ,xO,IE.af];generalize xx.af ae=L at *;omega
theorem YG{d:Int}(hd:1<=d)(h1: -1073741824<=n)(h2:n<=1073741824): -1073741824<=n.tdiv d/\n.tdiv d<=1073741824/\n.tdiv d*d+n.tmod d=n/\-d<n.tmod d/\n.tmod d<d:=by
 have e:=tdm n d;have b:(n.tdiv d).natAbs<=n.natAbs:=by rw[Int.natAbs_tdiv];exact Nat.div_le_self _ _
 have c:(n.tmod d).natAbs<d.natAbs:=by rw[Int.natAbs_tmod];exact Nat.mod_lt _ (by omega)
 omega
theorem amk:∀l∈ua 204,gM l:=by
 intro l hl;simp only[ua,bC,gu,or_false]at hl;rcases hl with rfl|rfl;refine sL fun ae hp=>?_;simp only[bC,gu,or_false,forall_eq_or_imp,forall_eq,xL,xM,xN,lP,lQ,xO,IE.af]at hp;simp only[imp,fb,mq,Qm,xL,xM,xN,lP,lQ,xO,IE.af];by_cases h: -1073741824<=(ae 0).int/\(ae 0).int<=1073741824;right;have k:=YG hp.2 h.1 h.2;have e0:=WS (n:=(ae 0).int.tdiv (ae 1).int) (by omega);rw[e0,WS (by omega)];have e1:(ae 1).int*((ae 0).int.tdiv (ae 1).int-1)=(ae 0).int.tdiv (ae 1).int*(ae 1).int-(ae 1).int:=by grind
 rw[e1];omega;left;omega;refine sL fun ae hp=>?_;simp only[bC,gu,or_false,forall_eq_or_imp,forall_eq,xL,xM,xN,lP,lQ,xO,IE.af]at hp;simp only[imp,fb,mq,xL,xM,xN,lP,lQ,xO,IE.af];by_cases h: -1073741824<=(ae 0).int/\(ae 0).int<=1073741824;right;have k:=YG hp.2 h.1 h.2;rw[WS (by omega)];have e1:(ae 1).int*(ae 0).int.tdiv (ae 1).int=(ae 0).int.tdiv (ae 1).int*(ae 1).int:=mY ..;rw[e1];omega;left;omega
theorem aml:∀l∈ua 210,gM l:=by
 intro l hl;simp only[ua,bC,gu,or_false]at hl;subst hl;refine sL fun ae hp=>?_;simp only[xL,xM,xN,lP,lQ,xO,IE.af];omega
theorem amm:∀l∈ua 207,gM l:=by
 intro l hl;simp only[ua,bC,gu,or_false]at hl;rcases hl with rfl|rfl;refine sL fun ae hp=>?_;simp only[bC,gu,or_false,forall_eq,dxy,xL,xM,xN,lP,lQ,xO,IE.af]at hp ⊢;omega;refine sL fun ae hp=>?_;simp only[bC,gu,or_false,forall_eq_or_imp,forall_eq,dxy,xL,xM,xN,lP,lQ,xO,IE.af]at hp ⊢;omega
theorem amn:∀l∈ua 134,gM l:=by
 intro l hl;simp only[ua,bC,gu,or_false]at hl;subst hl;refine sL fun ae hp=>?_;simp only[bC,gu,or_false,forall_eq_or_imp,forall_eq,xL,xM,xN,lP,lQ,xO,IE.af]at hp;simp only[fb,xL,xM,xN,lP,lQ,xO,IE.af];obtain⟨h1,h2,h3⟩:=hp;generalize(ae 0).int=A at *;generalize(ae 1).int=B at *;have a1:=oK h2 (show 0<=A by omega);have a2:=qk h1 (show 0<=B by omega);omega
theorem l57:∀l∈ua 57,gM l:=by
 intro l hl;simp only[ua,bC,gu,or_false]at hl;subst hl;refine sL fun ae hp=>?_;simp only[bC,gu,or_false,forall_eq_or_imp,forall_eq,adv,imp,xL,xM,xN,lP,lQ,xO,IE.af]at hp ⊢;obtain⟨h1,h2,h3,h4⟩:=hp;by_cases h:(ae 6).int=0;rw[h]at h3 h4;exact⟨h3,h4⟩;rcases h1 with h1|h1;omega;exact h1
theorem aB(k:Nat):∀l∈(an k).fM,gM l:=by
 show ∀l∈ua k,gM l;by_cases amo:k=202;subst amo;exact amc;by_cases amp:k=221;subst amp;exact amd;by_cases WG:k=123;subst WG;exact ame;by_cases amq:k=198;subst amq;exact amg;by_cases h84:k=84;subst h84;exact l84;by_cases h73:k=73;subst h73;exact l73;by_cases amr:k=236;subst amr;exact amh;by_cases Yy:k=19;subst Yy;exact l19;by_cases N8:k=24;subst N8;exact l24;by_cases WJ:k=141;subst WJ;exact ami;by_cases WE:k=112;subst WE;exact amj;by_cases ams:k=204;subst ams;exact amk;by_cases amt:k=210;subst amt;exact aml;by_cases WI:k=134;subst WI;exact amn;by_cases h57:k=57;subst h57;exact l57;by_cases amu:k=207;subst amu;exact amm;intro l hl;unfold ua at hl;split at hl
 all_goals first|contradiction|(exact absurd hl (by simp))
end
section
open Go.Sx Go
abbrev kx(P:Program)(X:bY)(i k:Nat):Prop:=nj (TT P) X kc (ord.take i)->ng (TT P) X k (kc k).il (kc k).iK
theorem aee{X:bY}(h7:nj (TT PP) X kc (ord.take 7))(m47:kx PP X 19 47)(m44:kx PP X 20 44)(JB:kx PP X 22 30)(aa9:kx PP X 48 241):nj (TT PP) X kc (ord.take 125):=by
 have h8:=h7.next (k:=9) rfl (aC aB h7 c9)
 have h9:=h8.next (k:=56) rfl (aC aB h8 c56)
 have Yx:=h9.next (k:=37) rfl (aC aB h9 c37)
 have h11:=Yx.next (k:=23) rfl (aC aB Yx c23)
 have h12:=h11.next (k:=41) rfl (aC aB h11 c41)
 have h13:=h12.next (k:=65) rfl (aC aB h12 c65)
 have h14:=h13.next (k:=42) rfl (aC aB h13 c42)
 have h15:=h14.next (k:=28) rfl (aC aB h14 c28)
 have h16:=h15.next (k:=100) rfl (aC aB h15 aj3)
 have h17:=h16.next (k:=66) rfl (aC aB h16 c66)
 have h18:=h17.next (k:=43) rfl (aC aB h17 c43)
 have Yy:=h18.next (k:=29) rfl (aC aB h18 c29)
 have Oa:=Yy.next (k:=47) rfl (m47 Yy)
 have h21:=Oa.next (k:=44) rfl (m44 Oa)
 have h22:=h21.next (k:=46) rfl (aC aB h21 c46)
 have QT:=h22.next (k:=30) rfl (JB h22)
 have N8:=QT.next (k:=101) rfl (aC aB QT aj4)
 have h25:=N8.next (k:=67) rfl (aC aB N8 c67)
 have Q9:=h25.next (k:=174) rfl (aC aB h25 aj5)
 have h27:=Q9.next (k:=195) rfl (aC aB Q9 aj6)
 have h28:=h27.next (k:=149) rfl (aC aB h27 aj7)
 have h29:=h28.next (k:=102) rfl (aC aB h28 aj8)
 have h30:=h29.next (k:=151) rfl (aC aB h29 aj9)
 have h31:=h30.next (k:=150) rfl (aC aB h30 aj')
 have h32:=h31.next (k:=104150) rfl (aC aB h31 WB)
 have h33:=h32.next (k:=103) rfl (aC aB h32 aka)
 have h34:=h33.next (k:=107) rfl (aC aB h33 akb)
 have h35:=h34.next (k:=106) rfl (aC aB h34 akc)
 have h36:=h35.next (k:=104106) rfl (aC aB h35 WC)
 have h37:=h36.next (k:=105) rfl (aC aB h36 akd)
 have h38:=h37.next (k:=69) rfl (aC aB h37 c69)
 have h39:=h38.next (k:=109) rfl (aC aB h38 ake)
 have h40:=h39.next (k:=155) rfl (aC aB h39 akf)
 have h41:=h40.next (k:=139) rfl (aC aB h40 akg)
 have h42:=h41.next (k:=196) rfl (aC aB h41 c196)
 have h43:=h42.next (k:=240) rfl (aC aB h42 akh)
 have h44:=h43.next (k:=197) rfl (aC aB h43 aki)
 have h45:=h44.next (k:=156) rfl (aC aB h44 akj)
 have La:=h45.next (k:=110) rfl (aC aB h45 akk)
 have CQ:=La.next (k:=157) rfl (aC aB La akl)
 have h48:=CQ.next (k:=267) rfl (aC aB CQ akm)
 have h49:=h48.next (k:=241) rfl (aa9 h48)
 have h50:=h49.next (k:=242) rfl (aC aB h49 akn)
 have h51:=h50.next (k:=198) rfl (aC aB h50 c198)
 have h52:=h51.next (k:=199) rfl (aC aB h51 ako)
 have h53:=h52.next (k:=158) rfl (aC aB h52 akp)
 have h54:=h53.next (k:=111) rfl (aC aB h53 akq)
 have h55:=h54.next (k:=71) rfl (aC aB h54 c71)
 have h56:=h55.next (k:=159) rfl (aC aB h55 akr)
 have h57:=h56.next (k:=200) rfl (aC aB h56 aks)
 have h58:=h57.next (k:=201) rfl (aC aB h57 akt)
 have h59:=h58.next (k:=202) rfl (aC aB h58 aku)
 have h60:=h59.next (k:=160) rfl (aC aB h59 akv)
 have Yi:=h60.next (k:=161) rfl (aC aB h60 akw)
 have h62:=Yi.next (k:=246) rfl (aC aB Yi akx)
 have J6:=h62.next (k:=245) rfl (aC aB h62 aky)
 have h64:=J6.next (k:=205245) rfl (aC aB J6 WD)
 have h65:=h64.next (k:=163) rfl (aC aB h64 akz)
 have h66:=h65.next (k:=204) rfl (aC aB h65 akA)
 have h67:=h66.next (k:=244) rfl (aC aB h66 akB)
 have h68:=h67.next (k:=203) rfl (aC aB h67 akC)
 have h69:=h68.next (k:=112) rfl (aC aB h68 akD)
 have h70:=h69.next (k:=164) rfl (aC aB h69 akE)
 have h71:=h70.next (k:=165) rfl (aC aB h70 akF)
 have h72:=h71.next (k:=210) rfl (aC aB h71 akG)
 have h73:=h72.next (k:=211) rfl (aC aB h72 akH)
 have h74:=h73.next (k:=247) rfl (aC aB h73 akI)
 have h75:=h74.next (k:=250) rfl (aC aB h74 akJ)
 have h76:=h75.next (k:=251) rfl (aC aB h75 akK)
 have h77:=h76.next (k:=284) rfl (aC aB h76 akL)
 have h78:=h77.next (k:=268) rfl (aC aB h77 akM)
 have h79:=h78.next (k:=207) rfl (aC aB h78 akN)
 have h80:=h79.next (k:=208) rfl (aC aB h79 akO)
 have h81:=h80.next (k:=166) rfl (aC aB h80 akP)
 have h82:=h81.next (k:=168) rfl (aC aB h81 akQ)
 have h83:=h82.next (k:=170) rfl (aC aB h82 akR)
 have h84:=h83.next (k:=213) rfl (aC aB h83 akS)
 have h85:=h84.next (k:=171) rfl (aC aB h84 akT)
 have h86:=h85.next (k:=172) rfl (aC aB h85 akU)
 have h87:=h86.next (k:=113) rfl (aC aB h86 akV)
 have h88:=h87.next (k:=72) rfl (aC aB h87 c72)
 have h89:=h88.next (k:=114) rfl (aC aB h88 akW)
 have h90:=h89.next (k:=115) rfl (aC aB h89 akX)
 have h91:=h90.next (k:=117) rfl (aC aB h90 akY)
 have h92:=h91.next (k:=173) rfl (aC aB h91 akZ)
 have h93:=h92.next (k:=73) rfl (aC aB h92 c73)
 have h94:=h93.next (k:=118) rfl (aC aB h93 ak0)
 have h95:=h94.next (k:=119) rfl (aC aB h94 c119)
 have h96:=h95.next (k:=214) rfl (aC aB h95 ak1)
 have h97:=h96.next (k:=215) rfl (aC aB h96 ak2)
 have h98:=h97.next (k:=216) rfl (aC aB h97 ak3)
 have h99:=h98.next (k:=175) rfl (aC aB h98 ak4)
 have aef:=h99.next (k:=121) rfl (aC aB h99 ak5)
 have aeg:=aef.next (k:=120) rfl (aC aB aef ak6)
 have aeh:=aeg.next (k:=220) rfl (aC aB aeg ak7)
 have aei:=aeh.next (k:=176) rfl (aC aB aeh ak8)
 have aej:=aei.next (k:=269) rfl (aC aB aei ak9)
 have aek:=aej.next (k:=252) rfl (aC aB aej ak')
 have ael:=aek.next (k:=270) rfl (aC aB aek ala)
 have aem:=ael.next (k:=271) rfl (aC aB ael alb)
 have aen:=aem.next (k:=253) rfl (aC aB aem alc)
 have aeo:=aen.next (k:=221) rfl (aC aB aen ald)
 have aep:=aeo.next (k:=222) rfl (aC aB aeo ale)
 have aeq:=aep.next (k:=272) rfl (aC aB aep alf)
 have WE:=aeq.next (k:=273) rfl (aC aB aeq alg)
 have aer:=WE.next (k:=254) rfl (aC aB WE alh)
 have aes:=aer.next (k:=223) rfl (aC aB aer ali)
 have aet:=aes.next (k:=224) rfl (aC aB aes alj)
 have aeu:=aet.next (k:=225) rfl (aC aB aet alk)
 have aev:=aeu.next (k:=177) rfl (aC aB aeu alm)
 have aew:=aev.next (k:=122) rfl (aC aB aev aln)
 have aex:=aew.next (k:=123) rfl (aC aB aew alo)
 have aey:=aex.next (k:=124) rfl (aC aB aex alp)
 have aez:=aey.next (k:=74) rfl (aC aB aey c74)
 have Wq:=aez.next (k:=152) rfl (aC aB aez alq)
 have WG:=Wq.next (k:=153) rfl (aC aB Wq alr)
 have aeA:=WG.next (k:=154) rfl (aC aB WG als)
 have WH:=aeA.next (k:=108) rfl (aC aB aeA alu)
 exact WH
theorem adM{X:bY}(h7:nj (TT PP) X kc (ord.take 7))(m47:kx PP X 19 47)(m44:kx PP X 20 44)(JB:kx PP X 22 30)(aa9:kx PP X 48 241)(m18:kx PP X 125 18)(m57:kx PP X 130 57)(m12:kx PP X 160 12)(m64:kx PP X 171 64)(m40:kx PP X 172 40)(m27:kx PP X 173 27)(m17:kx PP X 174 17):nj (TT PP) X kc (ord.take 177):=by
 have WH:=aee h7 m47 m44 JB aa9;have aeB:=WH.next (k:=18) rfl (m18 WH)
 have V7:=aeB.next (k:=186) rfl (aC aB aeB alv)
 have aeC:=V7.next (k:=132) rfl (aC aB V7 alw)
 have aeD:=aeC.next (k:=133) rfl (aC aB aeC alx)
 have aeE:=aeD.next (k:=80) rfl (aC aB aeD c80)
 have aeF:=aeE.next (k:=57) rfl (m57 aeE)
 have aeG:=aeF.next (k:=59) rfl (aC aB aeF c59)
 have aeH:=aeG.next (k:=135) rfl (aC aB aeG aly)
 have WI:=aeH.next (k:=136) rfl (aC aB aeH alz)
 have aeI:=WI.next (k:=137) rfl (aC aB WI alA)
 have aeJ:=aeI.next (k:=84) rfl (aC aB aeI c84)
 have aeK:=aeJ.next (k:=86) rfl (aC aB aeJ c86)
 have aeL:=aeK.next (k:=88) rfl (aC aB aeK c88)
 have aeM:=aeL.next (k:=187) rfl (aC aB aeL alB)
 have aeN:=aeM.next (k:=143) rfl (aC aB aeM alC)
 have WJ:=aeN.next (k:=141) rfl (aC aB aeN alD)
 have aeO:=WJ.next (k:=90) rfl (aC aB WJ c90)
 have aeP:=aeO.next (k:=91) rfl (aC aB aeO c91)
 have aeQ:=aeP.next (k:=144) rfl (aC aB aeP alE)
 have aeR:=aeQ.next (k:=188) rfl (aC aB aeQ alF)
 have aeS:=aeR.next (k:=145) rfl (aC aB aeR alG)
 have aeT:=aeS.next (k:=92) rfl (aC aB aeS c92)
 have aeU:=aeT.next (k:=93) rfl (aC aB aeT c93)
 have aeV:=aeU.next (k:=94) rfl (aC aB aeU c94)
 have aeW:=aeV.next (k:=134) rfl (aC aB aeV alH)
 have aeX:=aeW.next (k:=193) rfl (aC aB aeW c193)
 have aeY:=aeX.next (k:=232) rfl (aC aB aeX alI)
 have aeZ:=aeY.next (k:=233) rfl (aC aB aeY alJ)
 have ae0:=aeZ.next (k:=235) rfl (aC aB aeZ alK)
 have ae1:=ae0.next (k:=264) rfl (aC aB ae0 alL)
 have ae2:=ae1.next (k:=236) rfl (aC aB ae1 alM)
 have ae3:=ae2.next (k:=265) rfl (aC aB ae2 alN)
 have ae4:=ae3.next (k:=237) rfl (aC aB ae3 alO)
 have ae5:=ae4.next (k:=262) rfl (aC aB ae4 alP)
 have ae6:=ae5.next (k:=24) rfl (aC aB ae5 adg)
 have ae7:=ae6.next (k:=12) rfl (m12 ae6)
 have ae8:=ae7.next (k:=55) rfl (aC aB ae7 c55)
 have ae9:=ae8.next (k:=11) rfl (aC aB ae8 c11)
 have ae':=ae9.next (k:=21) rfl (aC aB ae9 c21)
 have afa:=ae'.next (k:=13) rfl (aC aB ae' c13)
 have afb:=afa.next (k:=14) rfl (aC aB afa c14)
 have afc:=afb.next (k:=25) rfl (aC aB afb c25)
 have afd:=afc.next (k:=15) rfl (aC aB afc c15)
 have WK:=afd.next (k:=26) rfl (aC aB afd c26)
 have afe:=WK.next (k:=16) rfl (aC aB WK c16)
 have aff:=afe.next (k:=99) rfl (aC aB afe c99)
 have afg:=aff.next (k:=64) rfl (m64 aff)
 have afh:=afg.next (k:=40) rfl (m40 afg)
 have afi:=afh.next (k:=27) rfl (m27 afh)
 have afj:=afi.next (k:=17) rfl (m17 afi)
 have afk:=afj.next (k:=34) rfl (aC aB afj c34)
 have aaV:=afk.next (k:=20) rfl (aC aB afk c20)
 exact aaV
end
section
open Go.Sx
variable{l:List Int}{x:Int}
def iv(a:Nat):Nat->List DE
 |0=>[]
 |n+1=>.i (.v a)::iv (a+1) n
def r6(x:IE):BE:=.and (.le (.c (-9223372036854775808)) x) (.le x (.c 9223372036854775807))
def ns(l:List BE)(t:aA):aA:=l.foldr (fun p t=>.ev (.aH p) t) t
section
variable {E:Nat->List DV->List DV->Prop}{R:List DV->Prop}{Ps:List (Int->Prop)}{ae:aF}{F:Nat->List DV->Prop}{t t':aA}
variable{bM:List DE}{x:IE}
theorem nz(h: -9223372036854775808<=x.af ae/\x.af ae<=9223372036854775807):(r6 x).af ae=true:=by
 simp only[r6,BE.af,IE.af,ao];exact⟨ja h.1,ja h.2⟩
theorem yF(h: -9223372036854775808<=x.af ae/\x.af ae<=9223372036854775807)(ht:t.ir E R Ps ae F):(aA.ev (.aH (r6 x)) t).ir E R Ps ae F:=iV (nz h) ht
theorem JF:∀ {l:List BE},(∀p∈l,p.af ae=true)->t.ir E R Ps ae F->(ns l t).ir E R Ps ae F
 | [],_,ht=>ht
 |p::l,h,ht=>iV (h p (aZ ..)) (JF (fun q hq=>h q (bI _ hq)) ht)
theorem NA{a b:IE}(h:a.af ae<b.af ae)(ht:t.ir E R Ps ae F):(aA.ev (.aH (.lt a b)) t).ir E R Ps ae F:=iV (ja h) ht
theorem qu{a b:IE}(h:a.af ae<=b.af ae)(ht:t.ir E R Ps ae F):(aA.ev (.aH (.le a b)) t).ir E R Ps ae F:=iV (ja h) ht
theorem HO{id uX:Nat}{G G':List DV->Prop}(da:Nat.beq id uX=false)(h:G (bM.map (DE.af ae))):(aA.again id bM).ir E R Ps ae (kO (kO F id G) uX G'):=by
 have da:id≠uX:=fun e=>by subst e;simp at da
 simpa[aA.ir,kO,da]using h
theorem gQ{a b:IE}(h1:a.af ae<b.af ae->t.ir E R Ps ae F)(h2:b.af ae<=a.af ae->t'.ir E R Ps ae F):(aA.ite (.lt a b) t t').ir E R Ps ae F:=
 lU (fun h=>h1 (jY h)) (fun h=>h2 (Int.not_lt.1 (Dc h)))
theorem eM{a b:IE}(h1:a.af ae=b.af ae->t.ir E R Ps ae F)(h2:a.af ae≠b.af ae->t'.ir E R Ps ae F):(aA.ite (.eq a b) t t').ir E R Ps ae F:=
 lU (fun h=>h1 (jY h)) (fun h=>h2 (Dc h))
theorem oZ{c:BE}(h1:c.af ae=false->t.ir E R Ps ae F)(h2:c.af ae=true->t'.ir E R Ps ae F):(aA.ite (.not c) t t').ir E R Ps ae F:=
 lU (fun h=>h1 (by simpa[BE.af]using h)) (fun h=>h2 (by simpa[BE.af]using h))
theorem eH{rs:List DV}(e:bM.map (DE.af ae)=rs)(h:R rs):(aA.ret bM).ir E R Ps ae F:=by
 subst e;exact h
end
theorem dl{xs:List (List Int)}:(DV.l xs).list=xs:=rfl
theorem di{n:Int}:(DV.i n).int=n:=rfl
theorem db{b:Bool}:(DV.b b).bool=b:=rfl
def fh(l:List Int):List (List Int):=l.map fun x=>[x]
theorem dW:(fh l).length=l.length:=qd ..
theorem By{i:Int}(h0:0<=i)(h1:i<l.length):cellAt (fh l) i 0=l.getD i.toNat 0:=by
 unfold cellAt fh;have:i.toNat<l.length:=by omega
 simp[List.getD,this]
theorem xC{i:Int}:setAt (fh l) i 0 x=fh (l.set i.toNat x):=by
 unfold setAt fh;refine List.ext_getElem? fun k=>?_;simp only[List.getElem?_modify,iS,List.getElem?_set];by_cases e:i.toNat=k;subst e;rcases oH i.toNat l.length with h|h;simp[h,mW];simp[h,Nat.not_lt.2 h];simp[e]
theorem BT{n:Nat}:List.replicate n [x]=fh (List.replicate n x):=by simp[fh]
theorem Bz{i:Nat}(h:i<l.length):l.getD i 0∈l:=by
 simp[List.getD,h]
end
end Go.Proofs.YtohebioanhliiaaGreatDoor.aN
namespace Go.Sx.Fv
variable{c h y:Int}
def b:Int:=4294967296
structure Inv(a c p r q h:Int):Prop where
 rest:h=a-q*p
 up:(a*b+c)/(p*b+r)<=q
 h0:0<=h
theorem Ho{a p r q:Int}(hp:2147483648<=p)(Nf:p<b)(eQ:0<=r)(hr:r<b)(v8:0<=c)(hc:c<b)(KQ:0<=a)(hi:Inv a c p r q h)(ht:q*r<=b*h+c):q=(a*b+c)/(p*b+r):=by
 have hv:0<p*b+r:=by unfold b at *;omega
 have h1:q*(p*b+r)<=a*b+c:=by
   have e:q*(p*b+r)=q*p*b+q*r:=by grind
   have e2:b*h=a*b-q*p*b:=by rw[hi.rest];grind
   omega
 have h2:=Int.le_ediv_of_mul_le hv h1;have:=hi.up;omega
theorem Qn{a p r:Int}(hp:2147483648<=p)(eQ:0<=r)(v8:0<=c)(hc:c<b)(KQ:0<=a):Inv a c p r (a/p) (a-a/p*p):=by
 have hv:0<p*b+r:=by unfold b at *;omega
 refine⟨rfl,?_,?_⟩;have h1:=ym a (show 0<p by omega);have h2:a-a/p*p<p:=by have:=Int.emod_add_mul_ediv a p;have e:p*(a/p)=a/p*p:=mY ..;omega
 have h3:(a*b+c)/(p*b+r)<a/p+1:=by
   refine Ez hv ?_;have q0:=uW KQ (show 0<=p by omega);have e1:(a/p+1)*(p*b+r)=(a/p*p+p)*b+(a/p+1)*r:=by grind
   have e2:=qJ (show 0<=a/p+1 by omega) eQ;have e3:a+1<=a/p*p+p:=by omega
   have e4:=qk e3 (show 0<=b by unfold b;omega);have e5:(a+1)*b=a*b+b:=by grind
   omega
 omega;have:=Int.ediv_mul_le a (show p≠0 by omega);omega
theorem VS{a p r q:Int}(hp:2147483648<=p)(eQ:0<=r)(v8:0<=c)(KQ:0<=a)(cM:a*b+c<(p*b+r)*b)(hi:Inv a c p r q h)(ht:b<=q\/b*h+c<q*r):Inv a c p r (q-1) (h+p):=by
 have hv:0<p*b+r:=by unfold b at *;omega
 have hq:(a*b+c)/(p*b+r)<q:=by
   rcases ht with ht|ht;have:(a*b+c)/(p*b+r)<b:=Ez hv (by have:b*(p*b+r)=(p*b+r)*b:=mY ..;omega);omega;refine Ez hv ?_;have e:q*(p*b+r)=q*p*b+q*r:=by grind
   have e2:b*h=a*b-q*p*b:=by rw[hi.rest];grind
   omega
 refine⟨?_,by omega,?_⟩;rw[hi.rest];grind;have:=hi.h0;omega
theorem VU{a p r q:Int}(hp:2147483648<=p)(Nf:p<b)(eQ:0<=r)(hr:r<b)(v8:0<=c)(hc:c<b)(KQ:0<=a)(cM:a<p*b+r)(hi:Inv a c p r q h)(hh:b<=h)(Ym:0<=q):q=(a*b+c)/(p*b+r):=by
 refine Ho hp Nf eQ hr v8 hc KQ hi ?_;have hq:q<=b:=by
   rcases Int.lt_or_le b q with h1|h1;have e1:=qk (show b+1<=q by omega) (show 0<=p by omega);have e2:(b+1)*p=p*b+p:=by grind
   have:=hi.rest;unfold b at *;omega;exact h1
 have e1:=qk hq eQ;have e2:=oK hh (show 0<=b by unfold b;omega);have e3:=oK (show r<=b by omega) (show 0<=b by unfold b;omega);omega
theorem HY:∀f x:Nat,x<2 ^ f->x<2 ^ Lib.bitLenAux f x/\(x≠0->2 ^ Lib.bitLenAux f x<=2*x)
 |0,x,h=>⟨by simpa[Lib.bitLenAux]using h,fun h'=>by simp at h;omega⟩
 | f+1,x,h=>by
   rw[Lib.bitLenAux];split;rename_i h0;subst h0;exact⟨by decide,fun h=>absurd rfl h⟩;rename_i h0;have h2:x/2<2 ^ f:=by rw[Nat.pow_succ]at h;omega
   obtain⟨i1,i2⟩:=HY f (x/2) h2;rw[Nat.add_comm,Nat.pow_succ];refine⟨by omega,fun _=>?_⟩;rcases Nat.eq_zero_or_pos (x/2)with e|e;have:Lib.bitLenAux f (x/2)=0:=by
     rw[e];cases f<;>simp[Lib.bitLenAux]
   rw[this];omega;have:=i2 (by omega);omega
theorem VV(h0:1<=y)(h1:y<18446744073709551616):∃s:Nat,(64-(Lib.bitLen y.toNat:Int))=s/\s<=63/\9223372036854775808<=y*2 ^ s/\y*2 ^ s<18446744073709551616:=by
 obtain⟨i1,i2⟩:=HY 64 y.toNat (by omega);have e2:=i2 (by omega);have hle:Lib.bitLenAux 64 y.toNat<=64:=by
   rcases oH 64 (Lib.bitLenAux 64 y.toNat)with h|h;have:=Nat.pow_le_pow_right (show 0<2 by omega) (show 65<=Lib.bitLenAux 64 y.toNat by omega);omega;exact h
 have nF:1<=Lib.bitLenAux 64 y.toNat:=by
   rcases Nat.eq_zero_or_pos (Lib.bitLenAux 64 y.toNat)with h|h;rw[h]at i1;omega;exact h
 refine⟨64-Lib.bitLenAux 64 y.toNat,by unfold Lib.bitLen;omega,by omega,?_,?_⟩
 all_goals
   have ey:y=(y.toNat:Int):=by omega
   have ep:2 ^ Lib.bitLenAux 64 y.toNat*2 ^ (64-Lib.bitLenAux 64 y.toNat)=2 ^ 64:=by rw[<- Nat.pow_add];congr 1;omega
   generalize Lib.bitLenAux 64 y.toNat=k at *;generalize y.toNat=x at *;subst ey;have hp:0<2 ^ (64-k):=Nat.pow_pos (by omega);have c1:=Nat.mul_lt_mul_of_pos_right i1 hp;have c2:=x9 (2 ^ (64-k)) e2;rw[ep]at c1 c2;have c3:2*x*2 ^ (64-k)=2*(x*2 ^ (64-k)):=Nat.mul_assoc ..;have c4:((x*2 ^ (64-k):Nat):Int)=(x:Int)*2 ^ (64-k):=by push_cast;rfl
   rw[<- c4];omega
theorem adw{hi lo:Int}{s:Nat}(hs:s<=64)(h0:0<=lo)(h1:lo<18446744073709551616):(hi*2 ^ s+lo/2 ^ (64-s))*18446744073709551616+(lo*2 ^ s)%18446744073709551616=(hi*18446744073709551616+lo)*2 ^ s/\0<=lo/2 ^ (64-s)/\lo/2 ^ (64-s)<2 ^ s:=by
 have ep:(2:Int) ^ (64-s)*2 ^ s=18446744073709551616:=by rw[<- Int.pow_add];rw[show 64-s+s=64 by omega];rfl
 have p1:(0:Int)<2 ^ (64-s):=Int.pow_pos (by omega);have p2:(0:Int)<2 ^ s:=Int.pow_pos (by omega);have d:=Int.emod_add_mul_ediv lo (2 ^ (64-s));have m0:=zG lo (show(2:Int) ^ (64-s)≠0 by omega);have m1:=ym lo p1;have q0:=uW h0 (show(0:Int)<=2 ^ (64-s)by omega);have q1:lo/2 ^ (64-s)<2 ^ s:=Ez p1 (by rw[mY,ep];exact h1);generalize lo/2 ^ (64-s)=h at *;generalize lo%2 ^ (64-s)=l at *;generalize(2:Int) ^ (64-s)=B at *;generalize(2:Int) ^ s=P at *;have e1:lo*P=h*18446744073709551616+l*P:=by
   rw[<- d,<- ep];grind
 have l0:=qJ m0 (show 0<=P by omega);have l1:l*P<18446744073709551616:=by
   rw[<- ep];exact Int.mul_lt_mul_of_pos_right m1 p2
 have e2:(lo*P)%18446744073709551616=l*P:=by
   rw[e1];omega
 refine⟨?_,q0,q1⟩;rw[e2];have e3:(hi*P+h)*18446744073709551616+l*P=hi*P*18446744073709551616+(h*18446744073709551616+l*P):=by grind
 rw[e3,<- e1];grind
theorem join{N P Y A d q1 q0:Int}(hP:0<P)(hy:0<y)(hY:Y=y*P)(hN:A*(b*b)+(c*b+d)=N*P)(Io:q1=(A*b+c)/Y)(Ym:q0=((A*b+c-q1*Y)*b+d)/Y) :
   q1*b+q0=N/y/\((A*b+c-q1*Y)*b+d-q0*Y)/P=N%y/\(A*b+c-q1*Y)*b+d-q0*Y=N%y*P:=by
 have hYp:0<Y:=by rw[hY];exact Int.mul_pos hy hP
 have r0:=zG ((A*b+c-q1*Y)*b+d) (show Y≠0 by omega);have r1:=ym ((A*b+c-q1*Y)*b+d) hYp;have e:=Int.emod_add_mul_ediv ((A*b+c-q1*Y)*b+d) Y;rw[<- Ym]at e;have hr:(A*b+c-q1*Y)*b+d-q0*Y=((A*b+c-q1*Y)*b+d)%Y:=by
   have:Y*q0=q0*Y:=mY ..;omega
 have hk:(A*b+c-q1*Y)*b+d-q0*Y=(N-(q1*b+q0)*y)*P:=by
   have:(N-(q1*b+q0)*y)*P=N*P-(q1*b+q0)*(y*P):=by grind
   rw[this,<- hN,<- hY];grind
 generalize(A*b+c-q1*Y)*b+d-q0*Y=R at *;generalize((A*b+c-q1*Y)*b+d)%Y=R' at *;subst hr;have k0:0<=N-(q1*b+q0)*y:=by
   rcases Int.lt_or_le (N-(q1*b+q0)*y) 0 with h|h;have:=Int.mul_lt_mul_of_pos_right h hP;omega;exact h
 have k1:N-(q1*b+q0)*y<y:=by
   rcases Int.lt_or_le (N-(q1*b+q0)*y) y with h|h;exact h;have:=qk h (show 0<=P by omega);omega
 have hm:N%y=N-(q1*b+q0)*y:=by
   have:=Int.emod_emod_of_dvd N (Int.dvd_refl y);have e3:N=(N-(q1*b+q0)*y)+y*(q1*b+q0):=by grind
   rw[e3,Int.add_mul_emod_self_left];rw[Int.emod_eq_of_lt k0 k1];grind
 refine⟨?_,?_,?_⟩;have:=Int.emod_add_mul_ediv N y;have e4:y*(N/y)=y*(q1*b+q0):=by
   have:y*(q1*b+q0)=(q1*b+q0)*y:=mY ..;omega
 exact(Int.eq_of_mul_eq_mul_left (by omega) e4).symm;rw[hk,Int.mul_ediv_cancel _ (by omega),hm];rw[hk,hm]
end Go.Sx.Fv
namespace Go.Proofs.YtohebioanhliiaaGreatDoor.aN
section
open Go.Sx Go Go.Sx.Fv
abbrev bE:IE:=.c 4294967296
def sE:IE:=.wrap .u64 (.v 3)
def yE:IE:=.wrap .u64 (.shl (.v 2) sE)
def pE:IE:=.ediv yE 4294967296
def rE:IE:=.emod yE 4294967296
def aE:IE:=.bits .or .u64 (.wrap .u64 (.shl (.v 0) sE)) (.shr (.v 1) (.wrap .u64 (.sub (.c 64) sE)))
def lE:IE:=.wrap .u64 (.shl (.v 1) sE)
def cE:IE:=.ediv lE 4294967296
def dE:IE:=.emod lE 4294967296
def uE(q:IE):IE:=.wrap .u64 (.sub (.wrap .u64 (.add (.wrap .u64 (.mul aE bE)) cE)) (.wrap .u64 (.mul q yE)))
def aaf(q q0:IE):IE:=.shr (.wrap .u64 (.sub (.wrap .u64 (.add (.wrap .u64 (.mul (uE q) bE)) dE)) (.wrap .u64 (.mul q0 yE)))) sE
def aag(q q0:IE):aA:=.ev (.aH (.le (.c 0) sE)) (.ev (.aH (.le sE (.c 64))) (.ret [.i (.wrap .u64 (.add (.wrap .u64 (.mul q bE)) q0)),.i (aaf q q0)]))
def inT(q:IE):aA:=.ev (.aH (.sM pE)) (
.loop 241024 [.i (.wrap .u64 (.sub (uE q) (.wrap .u64 (.mul (.wrap .u64 (.tdiv (uE q) pE)) pE)))),.i (.wrap .u64 (.tdiv (uE q) pE))] [.c (.i .u64),.c (.i .u64)] 6 (
.ite (.or (.le bE (.v 7)) (.lt (.wrap .u64 (.add (.wrap .u64 (.mul bE (.v 6))) dE)) (.wrap .u64 (.mul (.v 7) rE)))) (
.ite (.le bE (.wrap .u64 (.add (.v 6) pE))) (aag q (.wrap .u64 (.sub (.v 7) (.c 1)))) (
.again 241024 [.i (.wrap .u64 (.add (.v 6) pE)),.i (.wrap .u64 (.sub (.v 7) (.c 1)))])) (
 aag q (.v 7))))
def t241:aA:=
.ite (.eq (.v 2) (.c 0)) (
.stuck "") (
.ite (.le (.v 2) (.v 0)) (
.stuck "") (
.ite (.eq (.v 0) (.c 0)) (
.ev (.aH (.sM (.v 2))) (
.ret [.i (.wrap .u64 (.tdiv (.v 1) (.v 2))),.i (.tmod (.v 1) (.v 2))])) (
.ev (.call 267 (.c true) [.i (.v 2)] [.one (.c (.i .i64))] 3) (
.ev (.aH (.le (.c 0) sE)) (
.ev (.aH (.le sE (.c 64))) (
.ev (.aH (.le (.c 0) (.wrap .u64 (.sub (.c 64) sE)))) (
.ev (.aH (.le (.wrap .u64 (.sub (.c 64) sE)) (.c 64))) (
.ev (.aH (.sM pE)) (
.loop 241017 [.i (.wrap .u64 (.tdiv aE pE)),.i (.wrap .u64 (.sub aE (.wrap .u64 (.mul (.wrap .u64 (.tdiv aE pE)) pE))))] [.c (.i .u64),.c (.i .u64)] 4 (
.ite (.or (.le bE (.v 4)) (.lt (.wrap .u64 (.add (.wrap .u64 (.mul bE (.v 5))) cE)) (.wrap .u64 (.mul (.v 4) rE)))) (
.ite (.le bE (.wrap .u64 (.add (.v 5) pE))) (inT (.wrap .u64 (.sub (.v 4) (.c 1)))) (
.again 241017 [.i (.wrap .u64 (.sub (.v 4) (.c 1))),.i (.wrap .u64 (.add (.v 5) pE))])) (
 inT (.v 4))))))))))))
theorem aiN:TT PP 241=some ⟨241,t241,(rowOf 241).sub⟩:=by kernel_rfl
def t267:aA:=.ev (.call 283 (.c true) [.i (.v 0)] [.one (.c (.i .i64))] 1) (.ev (.aH (r6 (.sub (.c 64) (.v 1)))) (.ret [.i (.sub (.c 64) (.v 1))]))
theorem aiO:TT PP 267=some ⟨267,t267,(rowOf 267).sub⟩:=by kernel_rfl
theorem wu(n:Int):IntKind.u64.wrap n=n%18446744073709551616:=IntKind.wrap_u64 n
theorem wid{n:Int}(h0:0<=n)(h1:n<18446744073709551616):IntKind.u64.wrap n=n:=by rw[wu];exact Int.emod_eq_of_lt h0 h1
structure Nm(hi lo y:Int)(k:Nat):Prop where
 sA:0<=hi
 cM:hi<y
 lo0:0<=lo
 lo1:lo<18446744073709551616
 hk:k<=63
 n0:9223372036854775808<=y*2 ^ k
 n1:y*2 ^ k<18446744073709551616
def Yv(y:Int)(k:Nat):Int:=y*2 ^ k
def Av(hi lo:Int)(k:Nat):Int:=hi*2 ^ k+lo/2 ^ (64-k)
def Lv(lo:Int)(k:Nat):Int:=(lo*2 ^ k)%18446744073709551616
def pv(y:Int)(k:Nat):Int:=Yv y k/4294967296
def rv(y:Int)(k:Nat):Int:=Yv y k%4294967296
def cv(lo:Int)(k:Nat):Int:=Lv lo k/4294967296
def dv(lo:Int)(k:Nat):Int:=Lv lo k%4294967296
structure Vf(e:aF)(hi lo y:Int)(k:Nat):Prop where
 h0:e 0 = .i hi
 h1:e 1 = .i lo
 h2:e 2 = .i y
 h3:e 3 = .i k
section
variable {e:aF}{hi lo y:Int}{k:Nat}
variable{c h:Int}{E:Nat->List DV->List DV->Prop}{F:Nat->List DV->Prop}{Ps:List (Int->Prop)}
theorem Vf.au(h:Vf e hi lo y k){j:Nat}(hj:4<=j)(ds:List DV):Vf (e.au j ds) hi lo y k:=
 ⟨by rw[aF.aT (by omega)];exact h.h0,by rw[aF.aT (by omega)];exact h.h1,by rw[aF.aT (by omega)];exact h.h2,by rw[aF.aT (by omega)];exact h.h3⟩
theorem aah(k:Nat):(1:Int)<=2 ^ k:=Int.pow_pos (by omega)
theorem Nm.A(n:Nm hi lo y k):0<=Av hi lo k/\Av hi lo k<Yv y k/\Av hi lo k*18446744073709551616+Lv lo k=(hi*18446744073709551616+lo)*2 ^ k/\0<=lo/2 ^ (64-k)/\lo/2 ^ (64-k)<2 ^ k/\0<=hi*2 ^ k:=by
 obtain⟨m1,m2,m3⟩:=adw (hi:=hi) (s:=k) (by have:=n.hk;omega) n.lo0 n.lo1;have p1:=aah k;have e1:=qk (show hi+1<=y from n.cM) (show(0:Int)<=2 ^ k by omega);have e2:(hi+1)*2 ^ k=hi*2 ^ k+2 ^ k:=by grind
 have e3:=qJ n.sA (show(0:Int)<=2 ^ k by omega);refine⟨?_,?_,m1,m2,m3,e3⟩;show 0<=hi*2 ^ k+lo/2 ^ (64-k);omega;show hi*2 ^ k+lo/2 ^ (64-k)<y*2 ^ k;omega
theorem Nm.L(n:Nm hi lo y k):(0<=cv lo k/\cv lo k<4294967296)/\(0<=dv lo k/\dv lo k<4294967296)/\Lv lo k=cv lo k*4294967296+dv lo k:=by
 have:0<=Lv lo k/\Lv lo k<18446744073709551616:=by unfold Lv;omega
 unfold cv dv;omega
theorem Nm.P(n:Nm hi lo y k):(2147483648<=pv y k/\pv y k<4294967296)/\(0<=rv y k/\rv y k<4294967296)/\Yv y k=pv y k*4294967296+rv y k/\9223372036854775808<=Yv y k/\Yv y k<18446744073709551616:=by
 have h0:9223372036854775808<=Yv y k:=n.n0;have h1:Yv y k<18446744073709551616:=n.n1;unfold pv rv;omega
theorem dS(v:Vf e hi lo y k)(n:Nm hi lo y k):sE.af e=(k:Int):=by
 show IntKind.u64.wrap (e 3).int=k;rw[v.h3];have:=n.hk;exact wid (by show(0:Int)<=k;omega) (by show(k:Int)<18446744073709551616;omega)
theorem dY(v:Vf e hi lo y k)(n:Nm hi lo y k):yE.af e=Yv y k:=by
 show IntKind.u64.wrap ((e 2).int*2 ^ (sE.af e).toNat)=y*2 ^ k;rw[v.h2,dS v n,pz];have:=n.n0;have:=n.n1;exact wid (by show 0<=y*2 ^ k;omega) (by show y*2 ^ k<18446744073709551616;omega)
theorem dP(v:Vf e hi lo y k)(n:Nm hi lo y k):pE.af e=pv y k:=by
 show yE.af e/4294967296=Yv y k/4294967296;rw[dY v n]
theorem dR(v:Vf e hi lo y k)(n:Nm hi lo y k):rE.af e=rv y k:=by
 show yE.af e%4294967296=Yv y k%4294967296;rw[dY v n]
theorem dL(v:Vf e hi lo y k)(n:Nm hi lo y k):lE.af e=Lv lo k:=by
 show IntKind.u64.wrap ((e 1).int*2 ^ (sE.af e).toNat)=(lo*2 ^ k)%18446744073709551616;rw[v.h1,dS v n,pz,wu];rfl
theorem dC(v:Vf e hi lo y k)(n:Nm hi lo y k):cE.af e=cv lo k:=by
 show lE.af e/4294967296=Lv lo k/4294967296;rw[dL v n]
theorem dD(v:Vf e hi lo y k)(n:Nm hi lo y k):dE.af e=dv lo k:=by
 show lE.af e%4294967296=Lv lo k%4294967296;rw[dL v n]
theorem dA(v:Vf e hi lo y k)(n:Nm hi lo y k):aE.af e=Av hi lo k:=by
 show Go.bits .or .u64 (IntKind.u64.wrap ((e 0).int*2 ^ (sE.af e).toNat)) ((e 1).int/2 ^ (IntKind.u64.wrap (64-sE.af e)).toNat)=Av hi lo k;obtain⟨a0,a1,_,a3,a4,a5⟩:=n.A;obtain⟨_,_,_,_,y1⟩:=n.P;have hk:=n.hk;rw[v.h0,v.h1,dS v n,pz,show IntKind.u64.wrap (64-(k:Int))=((64-k:Nat):Int)by rw[wid (by omega) (by omega)];omega,pz];unfold Av at a0 a1 ⊢;show Go.bits .or .u64 (IntKind.u64.wrap (hi*2 ^ k)) (lo/2 ^ (64-k))=hi*2 ^ k+lo/2 ^ (64-k);rw[wid a5 (by omega)];show Go.bits .or .u64 (hi*2 ^ k) (lo/2 ^ (64-k))=hi*2 ^ k+lo/2 ^ (64-k);obtain⟨x,hx⟩:∃x:Nat,hi=x:=⟨hi.toNat,by have:=n.sA;omega⟩;obtain⟨z,hz⟩:∃z:Nat,lo/2 ^ (64-k)=z:=⟨(lo/2 ^ (64-k)).toNat,by omega⟩;subst hx;rw[hz]at a0 a1 a3 a4 ⊢;have c1:((x*2 ^ k:Nat):Int)=(x:Int)*2 ^ k:=by push_cast;rfl
 have c2:((2 ^ k:Nat):Int)=(2:Int) ^ k:=by push_cast;rfl
 rw[<- c1]at a1 ⊢;rw[<- c2]at a4;rw[bits_or_u64_nat _ _ (by omega) (by omega)];have:=Nat.two_pow_add_eq_or_of_lt (show z<2 ^ k by omega) x;rw[Nat.mul_comm]at this;rw[<- this];omega
theorem Yd{q r:Int}(h0:0<=h)(hb:h<4294967296)(c0:0<=c)(cb:c<4294967296)(q0:0<=q)(r0:0<=r)(rb:r<4294967296)(hc:(decide ((4294967296:Int)<=q)||decide (IntKind.u64.wrap (IntKind.u64.wrap (4294967296*h)+c)<IntKind.u64.wrap (q*r)))=true):b<=q\/b*h+c<q*r:=by
 unfold b;rw[wu,wu,wu,hZ,aO,aO]at hc;rcases Int.lt_or_le q 4294967296 with hq|hq;have e1:=oK (show r<=4294967295 by omega) q0;have e2:=qJ q0 r0;generalize q*r=m at *;omega;exact Or.inl hq
theorem Ye{q r:Int}(h0:0<=h)(hb:h<4294967296)(c0:0<=c)(cb:c<4294967296)(q0:0<=q)(r0:0<=r)(rb:r<4294967296)(hc:(decide ((4294967296:Int)<=q)||decide (IntKind.u64.wrap (IntKind.u64.wrap (4294967296*h)+c)<IntKind.u64.wrap (q*r)))=false):q<b/\q*r<=b*h+c:=by
 unfold b;rw[wu,wu,wu,vF,sO,sO]at hc;have e1:=oK (show r<=4294967295 by omega) q0;have e2:=qJ q0 r0;generalize q*r=m at *;omega
def Lp(a c p r:Int)(q h:Int):Prop:=Inv a c p r q h/\0<=q/\q<=8589934592/\h<4294967296
theorem Lp.start{a p r:Int}(hp:2147483648<=p)(Nf:p<4294967296)(eQ:0<=r)(v8:0<=c)(hc:c<4294967296)(KQ:0<=a)(ha:a<18446744073709551616) :
   IntKind.u64.wrap (a.tdiv p)=a/p/\IntKind.u64.wrap (a-IntKind.u64.wrap (IntKind.u64.wrap (a.tdiv p)*p))=a-a/p*p/\Lp a c p r (a/p) (a-a/p*p):=by
 have i:=Qn hp eQ v8 (show c<b from hc) KQ;have d:=Int.emod_add_mul_ediv a p;have m1:=ym a (show 0<p by omega);have q0:=uW KQ (show 0<=p by omega);have q1:a/p<8589934592:=Ez (by omega) (by omega);have e1:a.tdiv p=a/p:=Ey KQ;have h0:=i.h0;have e3:p*(a/p)=a/p*p:=mY ..;have m0:=qJ q0 (show 0<=p by omega);rw[e1,wid q0 (by omega),wid m0 (by omega),wid h0 (by omega)];exact⟨rfl,rfl,i,q0,by omega,by omega⟩
theorem Lp.step{a p r q:Int}(hp:2147483648<=p)(Nf:p<4294967296)(eQ:0<=r)(hr:r<4294967296)(v8:0<=c)(hc:c<4294967296)(KQ:0<=a)(cM:a<p*4294967296+r)(hi:Lp a c p r q h)(ht:b<=q\/b*h+c<q*r) :
   IntKind.u64.wrap (q-1)=q-1/\IntKind.u64.wrap (h+p)=h+p/\0<=q-1/\(4294967296<=h+p->q-1=(a*b+c)/(p*b+r))/\(h+p<4294967296->Lp a c p r (q-1) (h+p)):=by
 obtain⟨i,q0,q1,h1⟩:=hi;have h0:=i.h0;have hl:a*b+c<(p*b+r)*b:=by
   have:=qk (show a+1<=p*b+r from cM) (show 0<=b by unfold b;omega);have e:(a+1)*b=a*b+b:=by grind
   have:c<b:=hc;omega
 have i':=VS hp eQ v8 KQ hl i ht;have q2:1<=q:=by
   rcases ht with ht|ht;unfold b at ht;omega;rcases Int.lt_or_le q 1 with h|h;have:q=0:=by omega
   subst this;unfold b at ht;omega;exact h
 refine⟨wid (by omega) (by omega),wid (by omega) (by omega),by omega,fun hh=>?_,fun hh=>⟨i',by omega,by omega,hh⟩⟩;exact VU hp Nf eQ hr v8 hc KQ cM i' hh (by omega)
theorem Lp.done{a p r q:Int}(hp:2147483648<=p)(Nf:p<4294967296)(eQ:0<=r)(hr:r<4294967296)(v8:0<=c)(hc:c<4294967296)(KQ:0<=a)(hi:Lp a c p r q h)(ht:q*r<=b*h+c):q=(a*b+c)/(p*b+r):=
 Ho hp Nf eQ hr v8 hc KQ hi.1 ht
def DK(hi lo y:Int)(k:Nat):Int:=(Av hi lo k*b+cv lo k)/(pv y k*b+rv y k)
def uv(hi lo y:Int)(k:Nat):Int:=Av hi lo k*b+cv lo k-DK hi lo y k*(pv y k*b+rv y k)
def KS(hi lo y:Int)(k:Nat):Int:=(uv hi lo y k*b+dv lo k)/(pv y k*b+rv y k)
theorem Nm.Y(n:Nm hi lo y k):pv y k*b+rv y k=Yv y k:=by
 have:=n.P.2.2.1;unfold b;omega
theorem Nm.u(n:Nm hi lo y k):0<=uv hi lo y k/\uv hi lo y k<Yv y k/\0<=DK hi lo y k/\DK hi lo y k<4294967296:=by
 obtain⟨a0,a1,_⟩:=n.A;obtain⟨⟨c0,c1⟩,_⟩:=n.L;obtain⟨_,_,_,y0,y1⟩:=n.P;unfold uv DK;rw[n.Y];have r0:=zG (Av hi lo k*b+cv lo k) (show Yv y k≠0 by omega);have r1:=ym (Av hi lo k*b+cv lo k) (show 0<Yv y k by omega);have e:=Int.emod_add_mul_ediv (Av hi lo k*b+cv lo k) (Yv y k);have e2:Yv y k*((Av hi lo k*b+cv lo k)/Yv y k)=(Av hi lo k*b+cv lo k)/Yv y k*Yv y k:=mY ..;refine⟨by omega,by omega,uW (by unfold b;omega) (by omega),Ez (by omega) ?_⟩;have:=qk (show Av hi lo k+1<=Yv y k by omega) (show 0<=b by unfold b;omega);have e3:(Av hi lo k+1)*b=Av hi lo k*b+b:=by grind
 have e4:4294967296*Yv y k=Yv y k*b:=by unfold b;omega
 unfold b at *;omega
theorem Nm.q0(n:Nm hi lo y k):0<=KS hi lo y k/\KS hi lo y k<4294967296:=by
 obtain⟨u0,u1,_⟩:=n.u;obtain⟨_,⟨d0,d1⟩,_⟩:=n.L;obtain⟨_,_,_,y0,y1⟩:=n.P;unfold KS;rw[n.Y];refine⟨uW (by unfold b;omega) (by omega),Ez (by omega) ?_⟩;have:=qk (show uv hi lo y k+1<=Yv y k by omega) (show 0<=b by unfold b;omega);have e3:(uv hi lo y k+1)*b=uv hi lo y k*b+b:=by grind
 have e4:4294967296*Yv y k=Yv y k*b:=by unfold b;omega
 unfold b at *;omega
theorem dU(v:Vf e hi lo y k)(n:Nm hi lo y k){q:IE}(hq:q.af e=DK hi lo y k):(uE q).af e=uv hi lo y k:=by
 show IntKind.u64.wrap (IntKind.u64.wrap (IntKind.u64.wrap (aE.af e*4294967296)+cE.af e)-IntKind.u64.wrap (q.af e*yE.af e))=uv hi lo y k;rw[dA v n,dC v n,dY v n,hq];obtain⟨u0,u1,_,_⟩:=n.u;obtain⟨_,_,_,y0,y1⟩:=n.P;have e1:uv hi lo y k=Av hi lo k*4294967296+cv lo k-DK hi lo y k*Yv y k:=by unfold uv;rw[n.Y];rfl
 rw[e1]at u0 u1 ⊢;rw[wu,wu,wu,wu];generalize DK hi lo y k*Yv y k=z at *;omega
theorem Nm.fin(n:Nm hi lo y k):DK hi lo y k*b+KS hi lo y k=(hi*18446744073709551616+lo)/y/\(uv hi lo y k*b+dv lo k-KS hi lo y k*Yv y k)/2 ^ k=(hi*18446744073709551616+lo)%y/\0<=uv hi lo y k*b+dv lo k-KS hi lo y k*Yv y k/\uv hi lo y k*b+dv lo k-KS hi lo y k*Yv y k<Yv y k:=by
 obtain⟨a0,a1,aj,_⟩:=n.A;obtain⟨_,_,lj⟩:=n.L;obtain⟨_,_,_,y0,y1⟩:=n.P;have cM:=n.cM;have sA:=n.sA;have hj:=join (N:=hi*18446744073709551616+lo) (y:=y) (P:=2 ^ k) (Y:=Yv y k) (A:=Av hi lo k) (c:=cv lo k) (d:=dv lo k) (q1:=DK hi lo y k) (q0:=KS hi lo y k) (by have:=aah k;omega) (by omega) rfl
   (by rw[<- aj,lj];unfold b;omega) (by unfold DK;rw[n.Y]) (by unfold KS uv;rw[n.Y])
 have eu:Av hi lo k*b+cv lo k-DK hi lo y k*Yv y k=uv hi lo y k:=by unfold uv;rw[n.Y]
 rw[eu]at hj;refine⟨hj.1,hj.2.1,?_⟩;rw[hj.2.2];have m0:=zG (hi*18446744073709551616+lo) (show y≠0 by omega);have m1:=ym (hi*18446744073709551616+lo) (show 0<y by omega);have p1:=aah k;exact⟨qJ m0 (by omega),Int.mul_lt_mul_of_pos_right m1 (by omega)⟩
theorem aiP(v:Vf e hi lo y k)(n:Nm hi lo y k){q q0:IE}(hq:q.af e=DK hi lo y k)(h0:q0.af e=KS hi lo y k):(aaf q q0).af e=(hi*18446744073709551616+lo)%y:=by
 show IntKind.u64.wrap (IntKind.u64.wrap (IntKind.u64.wrap ((uE q).af e*4294967296)+dE.af e)-IntKind.u64.wrap (q0.af e*yE.af e))/2 ^ (sE.af e).toNat=_;rw[dU v n hq,dD v n,dY v n,h0,dS v n,pz];obtain⟨_,f2,f3,f4⟩:=n.fin;obtain⟨_,_,_,y0,y1⟩:=n.P;rw[<- f2];congr 1;rw[wu,wu,wu,wu];unfold b at *;generalize KS hi lo y k*Yv y k=z at *;omega
abbrev Res(hi lo y:Int)(rs:List DV):Prop:=rs=[.i ((hi*18446744073709551616+lo)/y),.i ((hi*18446744073709551616+lo)%y)]
theorem Qo(v:Vf e hi lo y k)(n:Nm hi lo y k){q q0:IE}(hq:q.af e=DK hi lo y k)(h0:q0.af e=KS hi lo y k):(aag q q0).ir E (Res hi lo y) Ps e F:=by
 have hk:=n.hk;refine qu (by rw[dS v n];show(0:Int)<=k;omega) (qu (by rw[dS v n];show(k:Int)<=64;omega) ?_);refine eH (rs:=[.i ((hi*18446744073709551616+lo)/y),.i ((hi*18446744073709551616+lo)%y)]) ?_ rfl;show [DV.i (IntKind.u64.wrap (IntKind.u64.wrap (q.af e*4294967296)+q0.af e)),DV.i ((aaf q q0).af e)]=_;rw[aiP v n hq h0,hq,h0,<- n.fin.1];obtain⟨_,_,u0,u1⟩:=n.u;obtain⟨z0,z1⟩:=n.q0;have:IntKind.u64.wrap (IntKind.u64.wrap (DK hi lo y k*4294967296)+KS hi lo y k)=DK hi lo y k*b+KS hi lo y k:=by
   unfold b;have e1:IntKind.u64.wrap (DK hi lo y k*4294967296)=DK hi lo y k*4294967296:=wid (by omega) (by omega);rw[e1,wid (by omega) (by omega)]
 rw[this]
theorem Yf(v:Vf e hi lo y k)(n:Nm hi lo y k){q:IE}(hq:q.af e=DK hi lo y k)(hq6:∀ds,q.af (e.au 6 ds)=DK hi lo y k):(inT q).ir E (Res hi lo y) Ps e F:=by
 obtain⟨⟨p0,p1⟩,⟨r0,r1⟩,ye,y0,y1⟩:=n.P;obtain⟨_,⟨d0,d1⟩,_⟩:=n.L;obtain⟨u0,u1,_⟩:=n.u;obtain⟨s1,s2,s3⟩:=Lp.start (a:=uv hi lo y k) (c:=dv lo k) (p:=pv y k) (r:=rv y k) p0 p1 r0 d0 d1 u0 (by omega);refine iV (by show decide (pE.af e≠0)=true;rw[dP v n];exact ja (by omega)) ?_;refine mh (fun ds=>∃h x:Int,ds=[.i h,.i x]/\Lp (uv hi lo y k) (dv lo k) (pv y k) (rv y k) x h) (fun| [_,.i x]=>x.toNat|_=>0) ?_ ?_;refine⟨_,_,?_,s3⟩;show [DV.i (IntKind.u64.wrap ((uE q).af e-IntKind.u64.wrap (IntKind.u64.wrap (((uE q).af e).tdiv (pE.af e))*pE.af e))),DV.i (IntKind.u64.wrap (((uE q).af e).tdiv (pE.af e)))]=_;rw[dU v n hq,dP v n,s2,s1]
 . rintro _ ⟨h,x,rfl,hl⟩;have v':=v.au (show 4<=6 by omega) [.i h,.i x];have NY:=hq6 [.i h,.i x];obtain⟨e',EY⟩:∃e',e'=e.au 6 [DV.i h,DV.i x]:=⟨_,rfl⟩;have g6:(e' 6).int=h:=by rw[EY];rfl
   have g7:(e' 7).int=x:=by rw[EY];rfl
   rw[<- EY]at v' NY ⊢;have YZ:=hl.1.h0;obtain⟨_,x0,x1,h1⟩:=id hl;have hc:∀z,(BE.or (.le bE (.v 7)) (.lt (.wrap .u64 (.add (.wrap .u64 (.mul bE (.v 6))) dE)) (.wrap .u64 (.mul (.v 7) rE)))).af e'=z->(decide ((4294967296:Int)<=x)||decide (IntKind.u64.wrap (IntKind.u64.wrap (4294967296*h)+dv lo k)<IntKind.u64.wrap (x*rv y k)))=z:=by
     intro z hz;rw[<- hz];show _=(decide ((4294967296:Int)<=(e' 7).int)||decide (IntKind.u64.wrap (IntKind.u64.wrap (4294967296*(e' 6).int)+dE.af e')<IntKind.u64.wrap ((e' 7).int*rE.af e')));rw[g6,g7,dD v' n,dR v' n]
   refine lU (fun hb=>?_) (fun hb=>?_);have ht:=Yd YZ h1 d0 d1 x0 r0 r1 (hc _ hb);obtain⟨w1,w2,w3,w4,w5⟩:=Lp.step p0 p1 r0 r1 d0 d1 u0 (by omega) hl ht;have gw:(IE.wrap .u64 (.add (.v 6) pE)).af e'=h+pv y k:=by
     show IntKind.u64.wrap ((e' 6).int+pE.af e')=_;rw[g6,dP v' n,w2]
   have gx:(IE.wrap .u64 (.sub (.v 7) (.c 1))).af e'=x-1:=by
     show IntKind.u64.wrap ((e' 7).int-1)=_;rw[g7,w1]
   refine lU (fun hb=>?_) (fun hb=>?_);have hb:(4294967296:Int)<=(IE.wrap .u64 (.add (.v 6) pE)).af e':=jY hb;rw[gw]at hb;exact Qo v' n NY (by rw[gx];exact w4 hb);have hb:¬ (4294967296:Int)<=(IE.wrap .u64 (.add (.v 6) pE)).af e':=Dc hb;rw[gw]at hb;refine lA ⟨⟨h+pv y k,x-1,?_,w5 (by omega)⟩,?_⟩;show [DV.i ((IE.wrap .u64 (.add (.v 6) pE)).af e'),DV.i ((IE.wrap .u64 (.sub (.v 7) (.c 1))).af e')]=_;rw[gw,gx];show((IE.wrap .u64 (.sub (.v 7) (.c 1))).af e').toNat<x.toNat;rw[gx];omega
   . obtain⟨_,hf⟩:=Ye YZ h1 d0 d1 x0 r0 r1 (hc _ hb);exact Qo v' n NY (by show(e' 7).int=_;rw[g7];exact Lp.done p0 p1 r0 r1 d0 d1 u0 hl hf)
theorem aai(v:Vf e hi lo y k)(n:Nm hi lo y k):(aA.loop 241017 [.i (.wrap .u64 (.tdiv aE pE)),.i (.wrap .u64 (.sub aE (.wrap .u64 (.mul (.wrap .u64 (.tdiv aE pE)) pE))))] [.c (.i .u64),.c (.i .u64)] 4 (
.ite (.or (.le bE (.v 4)) (.lt (.wrap .u64 (.add (.wrap .u64 (.mul bE (.v 5))) cE)) (.wrap .u64 (.mul (.v 4) rE)))) (
.ite (.le bE (.wrap .u64 (.add (.v 5) pE))) (inT (.wrap .u64 (.sub (.v 4) (.c 1)))) (
.again 241017 [.i (.wrap .u64 (.sub (.v 4) (.c 1))),.i (.wrap .u64 (.add (.v 5) pE))])) (
 inT (.v 4)))).ir E (Res hi lo y) Ps e F:=by
 obtain⟨⟨p0,p1⟩,⟨r0,r1⟩,ye,y0,y1⟩:=n.P;obtain⟨⟨c0,c1⟩,_,_⟩:=n.L;obtain⟨a0,a1,_⟩:=n.A;obtain⟨s1,s2,s3⟩:=Lp.start (a:=Av hi lo k) (c:=cv lo k) (p:=pv y k) (r:=rv y k) p0 p1 r0 c0 c1 a0 (by omega);refine mh (fun ds=>∃x h:Int,ds=[.i x,.i h]/\Lp (Av hi lo k) (cv lo k) (pv y k) (rv y k) x h) (fun| [.i x,_]=>x.toNat|_=>0) ?_ ?_;refine⟨_,_,?_,s3⟩;show [DV.i (IntKind.u64.wrap ((aE.af e).tdiv (pE.af e))),DV.i (IntKind.u64.wrap (aE.af e-IntKind.u64.wrap (IntKind.u64.wrap ((aE.af e).tdiv (pE.af e))*pE.af e)))]=_;rw[dA v n,dP v n,s2,s1]
 . rintro _ ⟨x,h,rfl,hl⟩;have v':=v.au (show 4<=4 by omega) [.i x,.i h];obtain⟨e',EY⟩:∃e',e'=e.au 4 [DV.i x,DV.i h]:=⟨_,rfl⟩;have g4:e' 4 = .i x:=by rw[EY];rfl
   have g5:e' 5 = .i h:=by rw[EY];rfl
   rw[<- EY]at v' ⊢;have YZ:=hl.1.h0;obtain⟨_,x0,x1,h1⟩:=id hl;have hc:∀z,(BE.or (.le bE (.v 4)) (.lt (.wrap .u64 (.add (.wrap .u64 (.mul bE (.v 5))) cE)) (.wrap .u64 (.mul (.v 4) rE)))).af e'=z->(decide ((4294967296:Int)<=x)||decide (IntKind.u64.wrap (IntKind.u64.wrap (4294967296*h)+cv lo k)<IntKind.u64.wrap (x*rv y k)))=z:=by
     intro z hz;rw[<- hz];show _=(decide ((4294967296:Int)<=(e' 4).int)||decide (IntKind.u64.wrap (IntKind.u64.wrap (4294967296*(e' 5).int)+cE.af e')<IntKind.u64.wrap ((e' 4).int*rE.af e')));rw[g4,g5,dC v' n,dR v' n];rfl
   refine lU (fun hb=>?_) (fun hb=>?_);have ht:=Yd YZ h1 c0 c1 x0 r0 r1 (hc _ hb);obtain⟨w1,w2,w3,w4,w5⟩:=Lp.step p0 p1 r0 r1 c0 c1 a0 (by omega) hl ht;have gw:(IE.wrap .u64 (.add (.v 5) pE)).af e'=h+pv y k:=by
     show IntKind.u64.wrap ((e' 5).int+pE.af e')=_;rw[g5,dP v' n];exact w2
   have gx:∀e'':aF,e'' 4 = .i x->(IE.wrap .u64 (.sub (.v 4) (.c 1))).af e''=x-1:=by
     intro e'' h4;show IntKind.u64.wrap ((e'' 4).int-1)=_;rw[h4];exact w1
   refine lU (fun hb=>?_) (fun hb=>?_);have hb:(4294967296:Int)<=(IE.wrap .u64 (.add (.v 5) pE)).af e':=jY hb;rw[gw]at hb;exact Yf v' n (by rw[gx e' g4];exact w4 hb) fun ds=>by rw[gx _ (by rw[aF.aT (by omega)];exact g4)];exact w4 hb
   have hb:¬ (4294967296:Int)<=(IE.wrap .u64 (.add (.v 5) pE)).af e':=Dc hb;rw[gw]at hb;refine lA ⟨⟨x-1,h+pv y k,?_,w5 (by omega)⟩,?_⟩;show [DV.i ((IE.wrap .u64 (.sub (.v 4) (.c 1))).af e'),DV.i ((IE.wrap .u64 (.add (.v 5) pE)).af e')]=_;rw[gw,gx e' g4];show((IE.wrap .u64 (.sub (.v 4) (.c 1))).af e').toNat<x.toNat;rw[gx e' g4];omega
   . obtain⟨_,hf⟩:=Ye YZ h1 c0 c1 x0 r0 r1 (hc _ hb);have hd:x=DK hi lo y k:=Lp.done p0 p1 r0 r1 c0 c1 a0 hl hf;exact Yf v' n (by show(e' 4).int=_;rw[g4];exact hd) fun ds=>by
       show(e'.au 6 ds 4).int=_;rw[aF.aT (by omega),g4];exact hd
end
variable {X:bY}
def aaj(ds:List DV):Prop:=∃n:Int,ds=[.i n]/\1<=n/\n<18446744073709551616
def aak(ds rs:List DV):Prop:=∀n:Int,ds=[.i n]->∃k:Nat,rs=[.i k]/\k<=63/\9223372036854775808<=n*2 ^ k/\n*2 ^ k<18446744073709551616
theorem aiQ(hX:X 283=yD):ng (TT PP) X 267 aaj aak:=mg aiO fun ds hp=>by
 obtain⟨n,rfl,n0,n1⟩:=hp;obtain⟨k,k1,k2,k3,k4⟩:=VV n0 n1;unfold t267;refine jO (pre:=fun ds=>ds=[.i n]) (rel:=fun _ rs=>rs=[.i (Lib.bitLen n.toNat)]) (fun ds h=>⟨[.i (Lib.bitLen n.toNat)],?_,rfl⟩) rfl ?_;subst h;refine jG Yg ?_;show X 283 [.i n]=_;rw[hX];simp only[yD,sc (show 0<=n/\n<=18446744073709551615 by omega),if_true];rintro _ _ rfl;refine yF (show -9223372036854775808<=64-(Lib.bitLen n.toNat:Int)/\64-(Lib.bitLen n.toNat:Int)<=9223372036854775807 by omega) ?_;refine eH (rs:=[.i (64-(Lib.bitLen n.toNat:Int))]) rfl fun m hm=>?_;cases hm;exact⟨k,by rw[k1],k2,k3,k4⟩
def aal(ds:List DV):Prop:=∃hi lo y:Int,ds=[.i hi,.i lo,.i y]/\0<=hi/\hi<y/\y<18446744073709551616/\0<=lo/\lo<18446744073709551616
def Qp(ds rs:List DV):Prop:=∀hi lo y:Int,ds=[.i hi,.i lo,.i y]->Res hi lo y rs
theorem adx(hX:X 283=yD):ng (TT PP) X 241 aal Qp:=mg aiN fun ds hp=>by
 obtain⟨hi,lo,y,rfl,h0,cM,y1,l0,l1⟩:=hp;have e:Qp [.i hi,.i lo,.i y]=Res hi lo y:=by
   funext rs;exact propext ⟨fun h=>h _ _ _ rfl,fun h _ _ _ e=>by cases e;exact h⟩
 rw[e];unfold t241;refine eM (fun h=>absurd (show y=0 from h) (by omega)) (fun _=>?_);refine lU (fun h=>absurd (show y<=hi from jY h) (by omega)) (fun _=>?_);refine eM (fun h=>?_) (fun h=>?_);have h:hi=0:=h;subst h;refine iV (show decide (y≠0)=true from ja (by omega)) (eH (rs:=[.i ((0*18446744073709551616+lo)/y),.i ((0*18446744073709551616+lo)%y)]) ?_ rfl);show [DV.i (IntKind.u64.wrap (lo.tdiv y)),DV.i (lo.tmod y)]=_;rw[Ey l0,Int.tmod_eq_emod_of_nonneg l0,Int.zero_mul,Int.zero_add,wid (uW l0 (by omega)) (by have:=Int.ediv_le_self y l0;omega)];refine jO (aiQ hX) ⟨y,rfl,by omega,y1⟩ fun rs _ hr=>?_;obtain⟨k,rfl,k1,k2,k3⟩:=hr y rfl;have n:Nm hi lo y k:=⟨h0,cM,l0,l1,k1,k2,k3⟩;have v:Vf ((a8.au 0 [.i hi,.i lo,.i y]).au 3 [.i (k:Int)]) hi lo y k:=⟨rfl,rfl,rfl,rfl⟩;have ds:=dS v n;have dk:(IE.wrap .u64 (.sub (.c 64) sE)).af ((a8.au 0 [.i hi,.i lo,.i y]).au 3 [.i (k:Int)])=64-(k:Int):=by
   show IntKind.u64.wrap (64-sE.af _)=_;rw[ds];exact wid (by omega) (by omega)
 refine qu (by rw[ds];show(0:Int)<=k;omega) (qu (by rw[ds];show(k:Int)<=64;omega) (qu (by rw[dk];show(0:Int)<=64-k;omega) (qu (by rw[dk];show 64-(k:Int)<=64;omega) ?_)));refine iV (by show decide (pE.af _≠0)=true;rw[dP v n];exact ja (by have:=n.P.1;omega)) ?_;exact aai v n
end
section
open Go.Sx
variable{E:Nat->List DV->List DV->Prop}{ds:List DV}
def t40:aA:=
.ev (.call 64 (.c true) [.i (.v 0)] [.one (.s 146 [i6,i6]),oB] 3) (
.ite (.not (.v 4)) (
.ret [.i (.c 5)]) (
.ite (.not (.eq (.len 3) (.len 1))) (
.ret [.i (.c 1)]) (
.loop 40007 [.i (.c 0),.i (.c 0)] [.c i6,.c i6] 5 (
.ite (.lt (.v 6) (.len 3)) (
.ev (.aH (.le (.c 0) (.v 6))) (
.ev (.aH (.lt (.v 6) (.len 1))) (
.ite (.or (.lt (.get 1 (.v 6) 0) (.get 3 (.v 6) 0)) (.lt (.get 3 (.v 6) 1) (.get 1 (.v 6) 0))) (
.ret [.i (.c 4)]) (
.ev (.aH (r6 (.add (.v 6) (.c 1)))) (
.again 40007 [.i (.v 5),.i (.add (.v 6) (.c 1))]))))) (
.ret [.i (.c 0)])))))
theorem T40:TT PP 40=some ⟨40,t40,(rowOf 40).sub⟩:=by kernel_rfl
def t27:aA:=
.ite (.lt (.v 1) (.len 0)) (
.ret [.b (.c false)]) (
.loop 27004 [.b (.c false),.i (.c 0)] [.c (.b),.c i6] 3 (
.ite (.lt (.v 4) (.len 0)) (
.ev (.aH (.le (.c 0) (.v 4))) (
.ev (.b8 6 (.sub 0 (.v 4) [.c i6,.s 3 i6] 1)) (
.ite (.lt (.c 40) (.len 6)) (
.ret [.b (.c false)]) (
.ev (.aH (.le (.c 0) (.v 4))) (
.ev (.aH (.lt (.v 4) (.len 0))) (
.ev (.b8 2056 (.sub 0 (.v 4) [.c i6,.s 3 i6] 1)) (
.ev (.b8 5128 (.sub 0 (.v 4) [.c i6,.s 3 i6] 1)) (
.ev (.b8 9736 (.sub 0 (.v 4) [.c i6,.s 3 i6] 1)) (
.ev (.b8 13320 (.sub 0 (.v 4) [.c i6,.s 3 i6] 1)) (
.ev (.call 40 (.eq (.get 0 (.v 4) 0) (.c 1)) [.i (.get 0 (.v 4) 0),.l 5128] [oI] 5639) (
.ev (.aH (.or (.not (.and (.eq (.get 0 (.v 4) 0) (.c 1)) (.eq (.v 5639) (.c 0)))) (.lt (.c 0) (.len 9736)))) (
.ev (.aH (.or (.not (.and (.eq (.get 0 (.v 4) 0) (.c 1)) (.eq (.v 5639) (.c 0)))) (.lt (.c 1) (.len 13320)))) (
.ev (.aH (.or (.not (.and (.eq (.get 0 (.v 4) 0) (.c 1)) (.eq (.v 5639) (.c 0)))) (r6 (.mul (.get 9736 (.c 0) 0) (.get 13320 (.c 1) 0))))) (
.ev (.aH (.or (.not (.and (.eq (.get 0 (.v 4) 0) (.c 1)) (.eq (.v 5639) (.c 0)))) (.lt (.v 4) (.len 0)))) (
.ev (.aH (.or (.not (.and (.eq (.get 0 (.v 4) 0) (.c 1)) (.eq (.v 5639) (.c 0)))) (.le (.c 0) (.v 4)))) (
.ite (.and (.and (.eq (.get 0 (.v 4) 0) (.c 1)) (.eq (.v 5639) (.c 0))) (.lt (.v 2) (.mul (.get 9736 (.c 0) 0) (.get 13320 (.c 1) 0)))) (
.ret [.b (.c false)]) (
.ev (.aH (r6 (.add (.v 4) (.c 1)))) (
.again 27004 [.b (.v 3),.i (.add (.v 4) (.c 1))])))))))))))))))))) (
.ret [.b (.c true)])))
theorem T27:TT PP 27=some ⟨27,t27,(rowOf 27).sub⟩:=by kernel_rfl
variable {X:bY}
theorem alS:ev (TT PP) X 40 64 [.i 1]=some [.l [[1,1024],[1,1024]],.b true]:=by kernel_rfl
def YB(ds:List DV):Prop:=ds=[.i 1]
def YC(ds rs:List DV):Prop:=rs=[.l [[1,1024],[1,1024]],.b true]
theorem g64:ng (TT PP) X 64 YB YC:=fun ds hp=>by
 obtain rfl:ds=[.i 1]:=hp;exact⟨_,⟨40,alS⟩,rfl⟩
def Sz(xs:List (List Int)):Prop:=xs.length=2/\(1<=cellAt xs 0 0/\cellAt xs 0 0<=1024)/\(1<=cellAt xs 1 0/\cellAt xs 1 0<=1024)
def HR(ds:List DV):Prop:=∃xs:List (List Int),ds=[.i 1,.l xs]/\xs.length<=40
def HS(ds rs:List DV):Prop:=∃e:Int,rs=[.i e]/\(0<=e/\e<=12)/\∀xs,ds=[.i 1,.l xs]->(e=0↔Sz xs)
theorem o40(h64:∀ds,YB ds->∃rs,E 64 ds rs/\YC ds rs)(hp:HR ds):t40.ir E (HS ds) [] (a8.au 0 ds) (fun _ _=>False):=by
 obtain⟨xs,rfl,hx⟩:=hp;unfold t40;refine jO h64 rfl ?_;rintro _ _ rfl;refine oZ (fun h=>?_) (fun _=>?_)
 . have:true=false:=h;cases this
 refine oZ (fun h=>?_) (fun h=>?_)
 . have h:¬ ((2:Int)=xs.length):=Dc h;refine eH (rs:=[.i 1]) rfl ⟨1,rfl,by omega,fun ys e=>?_⟩;cases e;exact⟨fun h=>by omega,fun hs=>absurd (by rw[hs.1];rfl) h⟩
 . have h:(2:Int)=xs.length:=jY h;refine mh (fun ds=>∃q i:Int,ds=[.i q,.i i]/\0<=i/\i<=2/\(1<=i->1<=cellAt xs 0 0/\cellAt xs 0 0<=1024)/\(2<=i->1<=cellAt xs 1 0/\cellAt xs 1 0<=1024)) (fun| [_,.i i]=>(2-i).toNat|_=>0)
     ⟨0,0,rfl,by omega,by omega,fun h=>by omega,fun h=>by omega⟩ ?_
   rintro _ ⟨q,i,rfl,sA,P4,h0,h1⟩;refine gQ (fun cM=>?_) (fun my=>?_)
   . have cM:i<2:=cM;refine qu (show(0:Int)<=i from sA) (NA (show i<(xs.length:Int)by omega) ?_);have hc:cellAt [[1,1024],[1,1024]] i 0=1/\cellAt [[1,1024],[1,1024]] i 1=1024:=by
       obtain rfl|rfl:i=0\/i=1:=by omega
       . exact⟨rfl,rfl⟩
       . exact⟨rfl,rfl⟩
     refine lU (fun hb=>?_) (fun hb=>?_)
     . have hb:(decide (cellAt xs i 0<cellAt [[1,1024],[1,1024]] i 0)||decide (cellAt [[1,1024],[1,1024]] i 1<cellAt xs i 0))=true:=hb;rw[hc.1,hc.2,hZ,aO,aO]at hb;refine eH (rs:=[.i 4]) rfl ⟨4,rfl,by omega,fun ys e=>?_⟩;cases e;refine⟨fun h=>by omega,fun hs=>?_⟩;obtain⟨_,s0,s1⟩:=hs;obtain rfl|rfl:i=0\/i=1:=by omega
       . omega
       . omega
     . have hb:(decide (cellAt xs i 0<cellAt [[1,1024],[1,1024]] i 0)||decide (cellAt [[1,1024],[1,1024]] i 1<cellAt xs i 0))=false:=hb;rw[hc.1,hc.2,vF,sO,sO]at hb;refine yF (show(-9223372036854775808:Int)<=i+1/\i+1<=9223372036854775807 by omega) (lA ⟨⟨q,i+1,rfl,by omega,by omega,fun h=>?_,fun h=>?_⟩,?_⟩)
       . rcases Int.lt_or_le 0 i with h5|h5
         . exact h0 (by omega)
         . obtain rfl:i=0:=by omega
           omega
       . obtain rfl:i=1:=by omega
         omega
       . show(2-(i+1)).toNat<(2-i).toNat;omega
   . have my:(2:Int)<=i:=my;refine eH (rs:=[.i 0]) rfl ⟨0,rfl,by omega,fun ys e=>?_⟩;cases e;exact⟨fun _=>⟨by omega,h0 (by omega),h1 (by omega)⟩,fun _=>rfl⟩
theorem g40:ng (TT PP) X 40 HR HS:=mg T40 fun ds hp=>o40 g64 hp
def nkR:List NK:=[.c i6,.s 3 i6]
def sK(r:List Int):Int:=r.getD 0 0
def cn(r:List Int):List (List Int):=fh (eU nkR r 1)
def abf(m q:Int)(l:List (List Int)):Prop:=(l.length:Int)<=m/\∀r∈l,(cn r).length<=40/\(sK r=1->Sz (cn r)->cellAt (cn r) 0 0*cellAt (cn r) 1 0<=q)
def Rm(ds:List DV):Prop:=∃(l:List (List Int)) (m q:Int),ds=[.l l,.i m,.i q]/\l.length<=9223372036854775807
def HQ(ds rs:List DV):Prop:=∃b:Bool,rs=[.b b]/\∀l m q,ds=[.l l,.i m,.i q]->b=true->abf m q l
theorem o27(h40:∀ds,HR ds->∃rs,E 40 ds rs/\HS ds rs)(hp:Rm ds):t27.ir E (HQ ds) [] (a8.au 0 ds) (fun _ _=>False):=by
 obtain⟨l,m,q,rfl,hll⟩:=hp;have no:HQ [.l l,.i m,.i q] [.b false]:=⟨false,rfl,fun _ _ _ _ h=>by cases h⟩;unfold t27;refine gQ (fun h=>eH (rs:=[.b false]) rfl no) (fun hm=>?_);have hm:(l.length:Int)<=m:=hm;refine mh (fun ds=>∃(b:Bool) (i:Nat),ds=[.b b,.i i]/\i<=l.length/\∀k,k<i->(cn (l.getD k [])).length<=40/\(sK (l.getD k [])=1->Sz (cn (l.getD k []))->cellAt (cn (l.getD k [])) 0 0*cellAt (cn (l.getD k [])) 1 0<=q)) (fun| [_,.i i]=>((l.length:Int)-i).toNat|_=>0)
   ⟨false,0,rfl,by omega,fun k hk=>by omega⟩ ?_
 rintro _ ⟨b,i,rfl,hi,cJ⟩;refine gQ (fun cM=>?_) (fun my=>?_)
 . have cM:(i:Int)<l.length:=cM;refine qu (show(0:Int)<=i by omega) ?_;have fg:∀e:aF,e 0 = .l l->e 4 = .i i->ew.af e (.sub 0 (.v 4) [.c i6,.s 3 i6] 1)=cn (l.getD i []):=fun e h0 h4=>by
     simp only[ew.af,IE.af,h0,h4,di,dl,pz];rfl
   obtain⟨e1,mS⟩:∃e1:aF,e1=(a8.au 0 [.l l,.i m,.i q]).au 3 [.b b,.i i]:=⟨_,rfl⟩;have g0:e1 0 = .l l:=by rw[mS];rfl
   have g2:e1 2 = .i q:=by rw[mS];rfl
   have g3:e1 3 = .b b:=by rw[mS];rfl
   have g4:e1 4 = .i i:=by rw[mS];rfl
   rw[<- mS];refine jl (fg _ g0 g4) (gQ (fun h=>eH (rs:=[.b false]) rfl no) (fun afm=>?_));have afm:((cn (l.getD i [])).length:Int)<=40:=afm;have ag:∀(e:aF) (k:Nat) (d:DV),5<k->e 0 = .l l->e 2 = .i q->e 3 = .b b->e 4 = .i i->(e.set k d) 0 = .l l/\(e.set k d) 2 = .i q/\(e.set k d) 3 = .b b/\(e.set k d) 4 = .i i:=fun e k d hk a0 a2 a3 a4=>by
     simp only[aF.set];rw[if_neg (by omega),if_neg (by omega),if_neg (by omega),if_neg (by omega)];exact⟨a0,a2,a3,a4⟩
   obtain⟨a0,a2,a3,a4⟩:=ag e1 6 (.l (cn (l.getD i []))) (by omega) g0 g2 g3 g4;obtain⟨e2,sD⟩:∃e2:aF,e2=e1.set 6 (.l (cn (l.getD i []))):=⟨_,rfl⟩;rw[<- sD]at a0 a2 a3 a4 ⊢;refine qu (show(0:Int)<=(e2 4).int by rw[a4];show(0:Int)<=i;omega) (NA (show(e2 4).int<((e2 0).list.length:Int)by rw[a4,a0];exact cM) ?_);refine jl (fg _ a0 a4) ?_;obtain⟨b0,b2,b3,b4⟩:=ag e2 2056 (.l (cn (l.getD i []))) (by omega) a0 a2 a3 a4;refine jl (fg _ b0 b4) ?_;obtain⟨c0,c2,c3,c4⟩:=ag _ 5128 (.l (cn (l.getD i []))) (by omega) b0 b2 b3 b4;refine jl (fg _ c0 c4) ?_;obtain⟨d0,d2,d3,d4⟩:=ag _ 9736 (.l (cn (l.getD i []))) (by omega) c0 c2 c3 c4;refine jl (fg _ d0 d4) ?_;obtain⟨f0,f2,f3,f4⟩:=ag _ 13320 (.l (cn (l.getD i []))) (by omega) d0 d2 d3 d4;obtain⟨e3,u9⟩:∃e3:aF,e3=((((e2.set 2056 (.l (cn (l.getD i [])))).set 5128 (.l (cn (l.getD i [])))).set 9736 (.l (cn (l.getD i [])))).set 13320 (.l (cn (l.getD i [])))):=⟨_,rfl⟩;have k1:e3 5128 = .l (cn (l.getD i [])):=by rw[u9];rfl
   have k2:e3 9736 = .l (cn (l.getD i [])):=by rw[u9];rfl
   have k3:e3 13320 = .l (cn (l.getD i [])):=by rw[u9];rfl
   rw[<- u9]at f0 f2 f3 f4 ⊢;have nN:(IE.get 0 (.v 4) 0).af e3=sK (l.getD i []):=by
     simp only[IE.af,f0,f4,di,dl];unfold cellAt;rw[pz];rfl
   have fin:∀(x:Int),(sK (l.getD i [])=1->(x=0↔Sz (cn (l.getD i []))))->∀e4:aF,(∀k,k<5639->e4 k=e3 k)->(∀k,5639<k->e4 k=e3 k)->e4 5639 = .i x->
       (aA.ev (.aH (.or (.not (.and (.eq (.get 0 (.v 4) 0) (.c 1)) (.eq (.v 5639) (.c 0)))) (.lt (.c 0) (.len 9736)))) (
.ev (.aH (.or (.not (.and (.eq (.get 0 (.v 4) 0) (.c 1)) (.eq (.v 5639) (.c 0)))) (.lt (.c 1) (.len 13320)))) (
.ev (.aH (.or (.not (.and (.eq (.get 0 (.v 4) 0) (.c 1)) (.eq (.v 5639) (.c 0)))) (r6 (.mul (.get 9736 (.c 0) 0) (.get 13320 (.c 1) 0))))) (
.ev (.aH (.or (.not (.and (.eq (.get 0 (.v 4) 0) (.c 1)) (.eq (.v 5639) (.c 0)))) (.lt (.v 4) (.len 0)))) (
.ev (.aH (.or (.not (.and (.eq (.get 0 (.v 4) 0) (.c 1)) (.eq (.v 5639) (.c 0)))) (.le (.c 0) (.v 4)))) (
.ite (.and (.and (.eq (.get 0 (.v 4) 0) (.c 1)) (.eq (.v 5639) (.c 0))) (.lt (.v 2) (.mul (.get 9736 (.c 0) 0) (.get 13320 (.c 1) 0)))) (
.ret [.b (.c false)]) (
.ev (.aH (r6 (.add (.v 4) (.c 1)))) (
.again 27004 [.b (.v 3),.i (.add (.v 4) (.c 1))])))))))).ir E (HQ [.l l,.i m,.i q]) [] e4 (kO (fun _ _=>False) 27004 (fun vs=>(∃(b:Bool) (i:Nat),vs=[.b b,.i i]/\i<=l.length/\∀k,k<i->(cn (l.getD k [])).length<=40/\(sK (l.getD k [])=1->Sz (cn (l.getD k []))->cellAt (cn (l.getD k [])) 0 0*cellAt (cn (l.getD k [])) 1 0<=q))/\(match vs with| [_,.i i]=>((l.length:Int)-i).toNat|_=>0)<((l.length:Int)-i).toNat)):=by
     intro x hx e4 lo hi4 YD;have m0:e4 0 = .l l:=by rw[lo 0 (by omega),f0]
     have m2:e4 2 = .i q:=by rw[lo 2 (by omega),f2]
     have m3:e4 3 = .b b:=by rw[lo 3 (by omega),f3]
     have m4:e4 4 = .i i:=by rw[lo 4 (by omega),f4]
     have n2:e4 9736 = .l (cn (l.getD i [])):=by rw[hi4 9736 (by omega),k2]
     have n3:e4 13320 = .l (cn (l.getD i [])):=by rw[hi4 13320 (by omega),k3]
     have afn:(IE.get 0 (.v 4) 0).af e4=sK (l.getD i []):=by
       simp only[IE.af,m0,m4,di,dl];unfold cellAt;rw[pz];rfl
     have afo:(BE.and (.eq (.get 0 (.v 4) 0) (.c 1)) (.eq (.v 5639) (.c 0))).af e4=true->sK (l.getD i [])=1/\Sz (cn (l.getD i [])):=fun h=>by
       have h:(decide ((IE.get 0 (.v 4) 0).af e4=1)&&decide ((e4 5639).int=0))=true:=h;rw[afn,YD,ao,aO,aO]at h;exact⟨h.1,(hx h.1).1 h.2⟩
     have aH:∀p:BE,(sK (l.getD i [])=1/\Sz (cn (l.getD i []))->p.af e4=true)->(BE.or (.not (.and (.eq (.get 0 (.v 4) 0) (.c 1)) (.eq (.v 5639) (.c 0)))) p).af e4=true:=fun p hp=>by
       cases hc:(BE.and (.eq (.get 0 (.v 4) 0) (.c 1)) (.eq (.v 5639) (.c 0))).af e4 with
       |false=>show(!((BE.and _ _).af e4)||p.af e4)=true;rw[hc];rfl
       |true=>show(!((BE.and _ _).af e4)||p.af e4)=true;rw[hp (afo hc)];simp
     refine iV (aH _ fun h=>ja ?_) (iV (aH _ fun h=>ja ?_) (iV (aH _ fun h=>nz ?_) (iV (aH _ fun h=>ja ?_) (iV (aH _ fun h=>ja ?_) (lU (fun h=>eH (rs:=[.b false]) rfl no) (fun h=>?_))))))
     . simp only[IE.af,n2,dl];have:=h.2.1;omega
     . simp only[IE.af,n3,dl];have:=h.2.1;omega
     . simp only[IE.af,n2,n3,dl];obtain⟨_,s0,s1⟩:=h.2;have:=zQ s0.2 s1.2 (by omega) (by omega);have:=qJ (show 0<=cellAt (cn (l.getD i [])) 0 0 by omega) (show 0<=cellAt (cn (l.getD i [])) 1 0 by omega);omega
     . simp only[IE.af,m0,m4,di,dl];exact cM
     . simp only[IE.af,m4,di];omega
     . refine yF (by simp only[IE.af,m4,di];omega) (lA ⟨⟨b,i+1,?_,by omega,fun k hk=>?_⟩,?_⟩)
       . simp only[List.map,DE.af,IE.af,BE.af,m3,m4,di,db];rfl
       . rcases oH k i with hki|hki
         . exact cJ k hki
         . obtain rfl:k=i:=by omega
           refine⟨by omega,fun h1 hs=>?_⟩;have hc:(BE.and (.eq (.get 0 (.v 4) 0) (.c 1)) (.eq (.v 5639) (.c 0))).af e4=true:=by
             show(decide ((IE.get 0 (.v 4) 0).af e4=1)&&decide ((e4 5639).int=0))=true;rw[afn,YD,ao,aO,aO];exact⟨h1,(hx h1).2 hs⟩
           have h:((BE.and (.eq (.get 0 (.v 4) 0) (.c 1)) (.eq (.v 5639) (.c 0))).af e4&&decide ((IE.v 2).af e4<(IE.mul (.get 9736 (.c 0) 0) (.get 13320 (.c 1) 0)).af e4))=false:=h;rw[hc,Bool.true_and,sO]at h;simp only[IE.af,m2,n2,n3,di,dl]at h;omega
       . simp only[List.map,DE.af,IE.af,BE.af,m3,m4,di,db];show((l.length:Int)-(i+1)).toNat<((l.length:Int)-i).toNat;omega
   refine Vj h40 (fun hg=>?_) (fun hg rs hE hr=>?_) (fun hg=>?_)
   . have hg:decide ((IE.get 0 (.v 4) 0).af e3=1)=true:=hg;rw[aO,nN]at hg;refine⟨cn (l.getD i []),?_,by omega⟩;simp only[List.map,DE.af,k1,dl,nN,hg]
   . have hg:decide ((IE.get 0 (.v 4) 0).af e3=1)=true:=hg;rw[aO,nN]at hg;obtain⟨x,rfl,_,hx⟩:=hr;have hx:=hx (cn (l.getD i [])) (by simp only[List.map,DE.af,k1,dl,nN,hg]);exact fin x (fun _=>hx) _ (fun k hk=>aF.aT hk) (fun k hk=>aF.iZ (by simp;omega)) rfl
   . have hg:decide ((IE.get 0 (.v 4) 0).af e3=1)=false:=hg;rw[sO,nN]at hg;exact fin 0 (fun h=>absurd h hg) _ (fun k hk=>aF.aT hk) (fun k hk=>aF.iZ (by show 5639+1<=k;omega)) rfl
 . have my:(l.length:Int)<=i:=my;refine eH (rs:=[.b true]) rfl ⟨true,rfl,fun l' m' q' e _=>?_⟩;cases e;refine⟨hm,fun r hr=>?_⟩;obtain⟨k,hk,rfl⟩:=List.getElem_of_mem hr;have:=cJ k (by omega);rwa[show l.getD k []=l[k]by simp[List.getD,hk]]at this
theorem g27:ng (TT PP) X 27 Rm HQ:=mg T27 fun ds hp=>o27 g40 hp
end
end Go.Proofs.YtohebioanhliiaaGreatDoor.aN

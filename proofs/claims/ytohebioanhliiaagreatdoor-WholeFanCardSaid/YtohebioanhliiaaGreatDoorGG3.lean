/- walk.Within: two regions that draw. -/
import Derived.Test.YtohebioanhliiaaGreatDoorGG2
set_option maxRecDepth 100000
set_option linter.unusedVariables false
set_option linter.unusedSimpArgs false
namespace Go.Proofs.YtohebioanhliiaaGreatDoor.av
section
open Go.Sx Go.RowKit Go.Shelf Go X8
attribute [local go_sem] Oper.semAt_some
theorem KS(a:Int):wrap64 (wrap64 a)=wrap64 a:=by unfold wrap64;omega
theorem O4(n:Int):IntKind.i64.wrap n=wrap64 n:=by rw[IntKind.wrap_i64];unfold wrap64;omega
noncomputable def iO(r:List Int)(bg:Int):Int:=wrap64 (qq r 6+wrap64 (bg*fE r))
def lP(bg en:Int):Int:=wrap64 (wrap64 (en-bg)+1)
noncomputable def mB(r:List Int)(x0 y0 x1 y1 ahead bg en:Int):List (List Int):=dO (qb r 4) x0 y0 x1 y1 (wrap64 (ahead+bg)) (iE r (iO r bg) (lP bg en).toNat)
set_option maxHeartbeats 8000000 in
theorem Yb(hr:gF){W w0:World}{br lC bo g cap:Nat}{r:List Int}{x0 y0 x1 y1:Int}{v:Value}{rows:List (List Int)}(h:LoopIn W w0 br lC bo g cap r x0 y0 x1 y1 v rows)(gR:lz r){ahead bg en:Int}
   (Pw: -8388608<=iO r bg/\iO r bg<=8388608) (hm:0<=lP bg en/\lP bg en<=1000) (hlen:rows.length<=1000) (vX:gG x0) (K8:gG y0) (H3:gG x1) (X':gG y1) {t0 t1 t2 t3 t4 t6 t10 t11 t12 t13 t14 t17 t18 t19 t20 t21 t22 t23 t24 t25 t26 t27 t28 t29 t30 t31 t32 t33 t34 t35 t36 t37 t38 t39 t40 t41 t42 t43 t44 t45 t46 t47 t48 t49 t50 t51 t52 t53 t54 t55 t56 t57 t58 t59 t60 t61 t62 t63 t64 t65 t66 t67 t68 t69 t70 t71 t72 t73 t74 t75 t76 t77 t78 t79 t80 t81 t82 t83 t84 t85 t86 t87 t88 t89 t90 t91 t92 t93 t94 t95 t96 t97 t98 t99 t100 t101 t102 t103 t104 t105 t106 t107 t108 t109 t110 t111 t112 t113 t114 t115 t116 t117 t118 t119 t120 t121 t122 t123 t124 t125 t126 t127 t128 t129 t130 t131 t132 t133 t134 t135 t136 t137 t138 t139 t140 t141 t142 t143 t144 t145 t146 t147 t148 t149 t150 t151 t152 t153 t154 t155 t156 t157 t158 t159:Value} :
   pT.wpIn Fence.wide 5 Tryz.prog (A0 w0 (rows++mB r x0 y0 x1 y1 ahead bg en))
     {tmps:=#[t0,t1,t2,t3,t4,.pointer (some ⟨br,0,none⟩),t6,.pointer (some ⟨lC,0,none⟩),.pointer (some ⟨bo,0,none⟩),.int .i64 ahead,t10,t11,t12,t13,t14,.int .i64 bg,.int .i64 en,t17,t18,t19,t20,t21,t22,t23,t24,t25,t26,t27,t28,t29,t30,t31,t32,t33,t34,t35,t36,t37,t38,t39,t40,t41,t42,t43,t44,t45,t46,t47,t48,t49,t50,t51,t52,t53,t54,t55,t56,t57,t58,t59,t60,t61,t62,t63,t64,t65,t66,t67,t68,t69,t70,t71,t72,t73,t74,t75,t76,t77,t78,t79,t80,t81,t82,t83,t84,t85,t86,t87,t88,t89,t90,t91,t92,t93,t94,t95,t96,t97,t98,t99,t100,t101,t102,t103,t104,t105,t106,t107,t108,t109,t110,t111,t112,t113,t114,t115,t116,t117,t118,t119,t120,t121,t122,t123,t124,t125,t126,t127,t128,t129,t130,t131,t132,t133,t134,t135,t136,t137,t138,t139,t140,t141,t142,t143,t144,t145,t146,t147,t148,t149,t150,t151,t152,t153,t154,t155,t156,t157,t158,t159],defers:=[] } W:=by
 have hbg:Boxed (W.alloc (.cells #[.int .i64 (wrap64 (ahead+bg))] 3)) W.heap.size 3 (.int .i64 (wrap64 (ahead+bg))):=Boxed.new _ _ _;have h1:LoopIn (W.alloc (.cells #[.int .i64 (wrap64 (ahead+bg))] 3)) w0 br lC bo g cap r x0 y0 x1 y1 v rows:=h.on ((Below.refl _ _).alloc (fz _) _);have afY:W.heap.size≠g/\bo≠g:=by
   obtain⟨cs,z,hg⟩:=h.vS.2.2;exact⟨by have:=h.vS.1;omega,eO h.C0 hg (by decide)⟩
 have L:=fun {W1:World} (yL:Below (W.alloc (.cells #[.int .i64 (wrap64 (ahead+bg))] 3)).heap.size (W.alloc (.cells #[.int .i64 (wrap64 (ahead+bg))] 3)) W1) {K:Act->World->Prop} hK=>@X9 hr _ W1 w0 br lC bo _ g cap r x0 y0 x1 y1 v rows h1 gR _ _ _ hbg (KS _) h.below.size afY Pw hm hlen vX K8 H3 X' yL K hK;clear afY;simp only[GN,KQ,CJ,pT,behind,lA,Tryz.f169,Option.getD,Nat.beq,jG,if_false,if_true]at L;simp only[pT,behind,lA,Tryz.f169,Option.getD,Nat.beq,jG,if_false,if_true]
 gi_wp2
 generalize hW1:W.alloc (.cells #[.int .i64 (wrap64 (ahead+bg))] 3)=W1 at *;have Vp:Tryz.prog.follows .mixedOrders=true:=by kernel_rfl
 have h1d:=h1.on (Below.refl _ _).drew;have wd1:=h1d.wd;have X7:=h1d.vS;have hw1:=h1.GM.cell;have hf1:=h1.vS.int 6 rfl
 gi_cut [136]from 122 (fun f wc=>∃w2,Below W1.heap.size W1 w2/\f = .func (.func 249) #[] #[.pointer (some ⟨w2.heap.size,0,none⟩),.pointer (some ⟨w2.heap.size+1,0,none⟩),.pointer (some ⟨w2.heap.size+1+1,0,none⟩)]/\wc=((w2.alloc (.cells #[.pointer (some ⟨g,0,none⟩)] 319)).alloc (.cells #[.int .i64 (iO r bg)] 3)).alloc (.cells #[.int .i64 (lP bg en)] 3))
 case first=>
   clear L;rename_i J K' hJ ZA;refine pU ?_
   first | gi_region_with_o (first
     |(refine⟨trivial,?_⟩;gi_at_call 211;refine(callsIn_wide.2 (vn hr wd1 X7 gR).2).mono ?_;rintro e w2 ⟨rfl,wh⟩;have hw2:=(h1d.on wh).GM.cell;have hf2:=(h1d.on wh).vS.int 6 rfl)
     |(refine⟨trivial,?_⟩;gi_at_call 212;refine(callsIn_wide.2 (OZ g _ _)).mono ?_;rintro e w3 ⟨rfl,rfl⟩))|fail
   all_goals (refine ZA _ _ (Met.intro (hJ _ _ ?_));(repeat apply Exists.intro);refine⟨?_,rfl⟩;exact⟨_,((Below.refl _ _).drew).trans wh,rfl,by rw[O4,O4,O4,O4];rfl⟩)
 case rest=>
   obtain⟨w2,wh,rfl,rfl⟩:=hcut;rename_i K1 a1 K0 a0;exact a0 _ _ (L wh a1)
end
section
open Go.Sx Go.RowKit Go.Shelf Go X8
attribute [local go_sem] Oper.semAt_some
def lB(n:Nat):Code->List Code
 |.seq a b=>lB n a++lB n b
 |.block _ a=>lB n a
 |.cond _ a b=>lB n a++lB n b
 |.region k ops d=>if Nat.beq k n then [.region k ops d]else []
 |_=>[]
noncomputable def ab7:Code:=(lB 8 (Tryz.f169.body.getD .skip)).headD .skip
set_option maxHeartbeats 8000000 in
theorem Yc{W:World}{lC g:Nat}{t:Bool}{u w:Int}(hw:W.cell? ⟨lC,0,none⟩=some (.pointer (some ⟨g,0,none⟩)))(h54:W.drew.cell? ⟨g,4,none⟩=some (.bool t))(Zr:W.cell? ⟨g,10,none⟩=some (.int .i64 u))(h11:W.cell? ⟨g,11,none⟩=some (.int .i64 w))
   {t0 t1 t2 t3 t4 t5 t6 t8 t9 t10 t11 t12 t13 t14 t15 t16 t17 t18 t19 t20 t21 t22 t23 t24 t25 t26 t27 t28 t29 t30 t31 t32 t33 t34 t35 t36 t37 t38 t39 t40 t41 t42 t43 t44 t45 t46 t47 t48 t49 t50 t51 t52 t53 t54 t55 t56 t57 t58 t59 t60 t61 t62 t63 t64 t65 t66 t67 t68 t69 t70 t71 t72 t73 t74 t75 t76 t77 t78 t79 t80 t81 t82 t83 t84 t85 t86 t87 t88 t89 t90 t91 t92 t93 t94 t95 t96 t97 t98 t99 t100 t101 t102 t103 t104 t105 t106 t107 t108 t109 t110 t111 t112 t113 t114 t115 t116 t117 t118 t119 t120 t121 t122 t123 t124 t125 t126 t127 t128 t129 t130 t131 t132 t133 t134 t135 t136 t137 t138 t139 t140 t141 t142 t143 t144 t145 t146 t147 t148 t149 t150 t151 t152 t153 t154 t155 t156 t157 t158 t159:Value} {K:Act->World->Prop} {Q:Exit->Act->World->Prop} (hK:∀u37 u38 u39 u40 u41 u42 u43 u44 u45 u46 u47 u48 u49:Value,K {tmps:=#[t0,t1,t2,t3,t4,t5,t6,.pointer (some ⟨lC,0,none⟩),t8,t9,.int .i64 (px t u w),.int .i64 (py t u w),t12,t13,t14,t15,t16,t17,t18,t19,t20,t21,t22,t23,t24,t25,t26,t27,t28,t29,t30,t31,t32,t33,t34,t35,t36,u37,u38,u39,u40,u41,u42,u43,u44,u45,u46,u47,u48,u49,t50,t51,t52,t53,t54,t55,t56,t57,t58,t59,t60,t61,t62,t63,t64,t65,t66,t67,t68,t69,t70,t71,t72,t73,t74,t75,t76,t77,t78,t79,t80,t81,t82,t83,t84,t85,t86,t87,t88,t89,t90,t91,t92,t93,t94,t95,t96,t97,t98,t99,t100,t101,t102,t103,t104,t105,t106,t107,t108,t109,t110,t111,t112,t113,t114,t115,t116,t117,t118,t119,t120,t121,t122,t123,t124,t125,t126,t127,t128,t129,t130,t131,t132,t133,t134,t135,t136,t137,t138,t139,t140,t141,t142,t143,t144,t145,t146,t147,t148,t149,t150,t151,t152,t153,t154,t155,t156,t157,t158,t159],defers:=[] } W.drew) :
   ab7.wpIn Fence.wide 5 Tryz.prog (Exit.then K Q) {tmps:=#[t0,t1,t2,t3,t4,t5,t6,.pointer (some ⟨lC,0,none⟩),t8,t9,t10,t11,t12,t13,t14,t15,t16,t17,t18,t19,t20,t21,t22,t23,t24,t25,t26,t27,t28,t29,t30,t31,t32,t33,t34,t35,t36,t37,t38,t39,t40,t41,t42,t43,t44,t45,t46,t47,t48,t49,t50,t51,t52,t53,t54,t55,t56,t57,t58,t59,t60,t61,t62,t63,t64,t65,t66,t67,t68,t69,t70,t71,t72,t73,t74,t75,t76,t77,t78,t79,t80,t81,t82,t83,t84,t85,t86,t87,t88,t89,t90,t91,t92,t93,t94,t95,t96,t97,t98,t99,t100,t101,t102,t103,t104,t105,t106,t107,t108,t109,t110,t111,t112,t113,t114,t115,t116,t117,t118,t119,t120,t121,t122,t123,t124,t125,t126,t127,t128,t129,t130,t131,t132,t133,t134,t135,t136,t137,t138,t139,t140,t141,t142,t143,t144,t145,t146,t147,t148,t149,t150,t151,t152,t153,t154,t155,t156,t157,t158,t159],defers:=[] } W:=by
 simp only[ab7,lB,Tryz.f169,Option.getD,Nat.beq,jG,if_false,if_true,qH,nc,List.headD];have Vp:Tryz.prog.follows .mixedOrders=true:=by kernel_rfl
 refine pU ?_
 first|gi_region_with_o (refine⟨trivial,?_⟩;gi_at_call 209;refine(callsIn_wide.2 (CH h54 _ _)).mono ?_;rintro e w1 ⟨rfl,rfl⟩)|fail
 all_goals exact hK _ _ _ _ _ _ _ _ _ _ _ _ _
noncomputable def Tc:Code:=(lB 19 (Tryz.f169.body.getD .skip)).headD .skip
theorem af0(n:Int):IntKind.i64.wrap n=wrap64 n:=by rw[IntKind.wrap_i64];unfold wrap64;omega
set_option maxHeartbeats 8000000 in
theorem Td{W:World}{lC g:Nat}{q lo hi:Int}(hw:W.cell? ⟨lC,0,none⟩=some (.pointer (some ⟨g,0,none⟩)))(h6:W.cell? ⟨g,6,none⟩=some (.int .i64 q))
   {t0 t1 t2 t3 t4 t5 t6 t8 t9 t10 t11 t12 t15 t16 t17 t18 t19 t20 t21 t22 t23 t24 t25 t26 t27 t28 t29 t30 t31 t32 t33 t34 t35 t36 t37 t38 t39 t40 t41 t42 t43 t44 t45 t46 t47 t48 t49 t50 t51 t52 t53 t54 t55 t56 t57 t58 t59 t60 t61 t62 t63 t64 t65 t66 t67 t68 t69 t70 t71 t72 t73 t74 t75 t76 t77 t78 t79 t80 t81 t82 t83 t84 t85 t86 t87 t88 t89 t90 t91 t92 t93 t94 t95 t96 t97 t98 t99 t100 t101 t102 t103 t104 t105 t106 t107 t108 t109 t110 t111 t112 t113 t114 t115 t116 t117 t118 t119 t120 t121 t122 t123 t124 t125 t126 t127 t128 t129 t130 t131 t132 t133 t134 t135 t136 t137 t138 t139 t140 t141 t142 t143 t144 t145 t146 t147 t148 t149 t150 t151 t152 t153 t154 t155 t156 t157 t158 t159:Value} {K:Act->World->Prop} {Q:Exit->Act->World->Prop} (hK:∀u96 u97 u98 u99 amA amB amC amD amE amF amG amH amI:Value,K {tmps:=#[t0,t1,t2,t3,t4,t5,t6,.pointer (some ⟨lC,0,none⟩),t8,t9,t10,t11,t12,.int .i64 lo,.int .i64 hi,.int .i64 (wrap64 (wrap64 (q-hi)+1)),.int .i64 (wrap64 (q-lo)),t17,t18,t19,t20,t21,t22,t23,t24,t25,t26,t27,t28,t29,t30,t31,t32,t33,t34,t35,t36,t37,t38,t39,t40,t41,t42,t43,t44,t45,t46,t47,t48,t49,t50,t51,t52,t53,t54,t55,t56,t57,t58,t59,t60,t61,t62,t63,t64,t65,t66,t67,t68,t69,t70,t71,t72,t73,t74,t75,t76,t77,t78,t79,t80,t81,t82,t83,t84,t85,t86,t87,t88,t89,t90,t91,t92,t93,t94,t95,u96,u97,u98,u99,amA,amB,amC,amD,amE,amF,amG,amH,amI,t109,t110,t111,t112,t113,t114,t115,t116,t117,t118,t119,t120,t121,t122,t123,t124,t125,t126,t127,t128,t129,t130,t131,t132,t133,t134,t135,t136,t137,t138,t139,t140,t141,t142,t143,t144,t145,t146,t147,t148,t149,t150,t151,t152,t153,t154,t155,t156,t157,t158,t159],defers:=[] } W.drew) :
   Tc.wpIn Fence.wide 5 Tryz.prog (Exit.then K Q) {tmps:=#[t0,t1,t2,t3,t4,t5,t6,.pointer (some ⟨lC,0,none⟩),t8,t9,t10,t11,t12,.int .i64 lo,.int .i64 hi,t15,t16,t17,t18,t19,t20,t21,t22,t23,t24,t25,t26,t27,t28,t29,t30,t31,t32,t33,t34,t35,t36,t37,t38,t39,t40,t41,t42,t43,t44,t45,t46,t47,t48,t49,t50,t51,t52,t53,t54,t55,t56,t57,t58,t59,t60,t61,t62,t63,t64,t65,t66,t67,t68,t69,t70,t71,t72,t73,t74,t75,t76,t77,t78,t79,t80,t81,t82,t83,t84,t85,t86,t87,t88,t89,t90,t91,t92,t93,t94,t95,t96,t97,t98,t99,t100,t101,t102,t103,t104,t105,t106,t107,t108,t109,t110,t111,t112,t113,t114,t115,t116,t117,t118,t119,t120,t121,t122,t123,t124,t125,t126,t127,t128,t129,t130,t131,t132,t133,t134,t135,t136,t137,t138,t139,t140,t141,t142,t143,t144,t145,t146,t147,t148,t149,t150,t151,t152,t153,t154,t155,t156,t157,t158,t159],defers:=[] } W:=by
 simp only[Tc,lB,Tryz.f169,Option.getD,Nat.beq,jG,if_false,if_true,qH,nc,List.headD];have Vp:Tryz.prog.follows .mixedOrders=true:=by kernel_rfl
 simp only[<- af0]at hK;refine pU ?_
 first|gi_region_with_o fail|fail
 all_goals exact hK _ _ _ _ _ _ _ _ _ _ _ _ _
end
end Go.Proofs.YtohebioanhliiaaGreatDoor.av

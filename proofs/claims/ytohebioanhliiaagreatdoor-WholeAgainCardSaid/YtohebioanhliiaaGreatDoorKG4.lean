/- walk.Within: whole. -/
import Derived.Test.YtohebioanhliiaaGreatDoorKG3
set_option maxRecDepth 100000
set_option linter.unusedVariables false
set_option linter.unusedSimpArgs false
set_option maxRecDepth 20000
namespace Go.Proofs.YtohebioanhliiaaGreatDoor.aD
open Go.Sx Go.RowKit Go.Shelf Go SX
attribute [local go_sem] Oper.semAt_some
noncomputable def fw(r:List Int)(x0 y0 x1 y1:Int):List (List Int):=
 if qb r 8 then(if lO x0 y0 x1 y1 (px (qb r 4) (qq r 10) (qq r 11)) (py (qb r 4) (qq r 10) (qq r 11))then [[0,px (qb r 4) (qq r 10) (qq r 11),py (qb r 4) (qq r 10) (qq r 11)]]else [])else []
noncomputable def nR(r:List Int):Int:=if qb r 9 then wrap64 (jQ r-1)else jQ r
def jA(r:List Int)(x0 y0:Int):Int:=if qb r 4 then y0 else x0
noncomputable def ti(r:List Int)(lo hi:Int):Int:=max (if eT r<0 then wrap64 (wrap64 (qq r 6-hi)+1)else wrap64 (lo-qq r 6)) 0
noncomputable def zl(r:List Int)(lo hi:Int):Int:=min (if eT r<0 then wrap64 (qq r 6-lo)else wrap64 (wrap64 (hi-1)-qq r 6)) (wrap64 (nR r-1))
noncomputable def Gt:Code:=behind 11 40 (Tryz.f169.body.getD .skip)
noncomputable def lP(r:List Int)(x0 y0 x1 y1 ahead:Int):List (List Int):=
 if ti r (jA r x0 y0) (jA r x1 y1)>zl r (jA r x0 y0) (jA r x1 y1)then []else kE r x0 y0 x1 y1 ahead (ti r (jA r x0 y0) (jA r x1 y1)) (zl r (jA r x0 y0) (jA r x1 y1))
theorem Bg{r:List Int}(gF:mG r)(Ap: -1<=eT r)(CY:eT r<=1)(Kl:0<=jQ r)(Uf:jQ r<=2500000){lo hi:Int}(tD: -64<=lo/\lo<=100)(Tf: -64<=hi/\hi<=100)(h:¬ zl r lo hi<ti r lo hi) :
   ((-8388608<=gB r (ti r lo hi)/\gB r (ti r lo hi)<=8388608)/\(0<=jR (ti r lo hi) (zl r lo hi)/\jR (ti r lo hi) (zl r lo hi)<=164))/\0<=ti r lo hi/\ti r lo hi<=2500000:=by
 have hq: -1200000<=qq r 6/\qq r 6<=1200000:=gF.YT.2.2.2.2.2.2.1;have hn: -1<=nR r/\nR r<=2500000:=by
   unfold nR;split
   . rw[eX (by omega) (by omega)];omega
   . omega
 have hw:wrap64 (nR r-1)=nR r-1:=eX (by omega) (by omega)
 have hd:zl r lo hi-ti r lo hi<=163/\0<=ti r lo hi/\zl r lo hi<=2500000:=by
   unfold zl ti;rw[hw];by_cases hs:eT r<0
   . rw[if_pos hs,if_pos hs,eX (a:=qq r 6-hi) (by omega) (by omega),eX (a:=qq r 6-hi+1) (by omega) (by omega),eX (a:=qq r 6-lo) (by omega) (by omega)]
     omega
   . rw[if_neg hs,if_neg hs,eX (a:=hi-1) (by omega) (by omega),eX (a:=lo-qq r 6) (by omega) (by omega),eX (a:=hi-1-qq r 6) (by omega) (by omega)]
     omega
 obtain⟨wU,hd2,hd3⟩:=hd;refine⟨?_,hd2,by omega⟩
 constructor
 . unfold gB;have hm: -2500000<=ti r lo hi*eT r/\ti r lo hi*eT r<=2500000:=by
     have:eT r = -1\/eT r=0\/eT r=1:=by omega
     rcases this with e|e|e<;>rw[e]<;>omega
   rw[eX (a:=ti r lo hi*eT r) (by omega) (by omega),eX (by omega) (by omega)]
   omega
 . unfold jR;rw[eX (a:=zl r lo hi-ti r lo hi) (by omega) (by omega),eX (by omega) (by omega)]
   omega
theorem rO{r:List Int}(gF:mG r)(Ap: -1<=eT r)(CY:eT r<=1)(Kl:0<=jQ r)(Uf:jQ r<=2500000){lo hi:Int}(tD: -64<=lo/\lo<=100)(Tf: -64<=hi/\hi<=100)(h:¬ zl r lo hi<ti r lo hi) :
   (-8388608<=gB r (ti r lo hi)/\gB r (ti r lo hi)<=8388608)/\(0<=jR (ti r lo hi) (zl r lo hi)/\jR (ti r lo hi) (zl r lo hi)<=1000):=by
 obtain⟨⟨h1,h2,h3⟩,_⟩:=Bg gF Ap CY Kl Uf tD Tf h;exact⟨h1,h2,by omega⟩
set_option maxHeartbeats 8000000 in
theorem Xj(hr:jz){W w0:World}{br jG bo g cap:Nat}{r:List Int}{x0 y0 x1 y1:Int}{v:Value}{rows:List (List Int)}(h:LoopIn W w0 br jG bo g cap r x0 y0 x1 y1 v rows)(gF:mG r){ahead:Int}(hlen:rows.length<=1000)
   (h4: -64<=x0/\x0<=100) (h5: -64<=y0/\y0<=100) (h6: -64<=x1/\x1<=100) (h7: -64<=y1/\y1<=100) {R:List (List Int)} (hR:R=rows++lP r x0 y0 x1 y1 ahead) {t0 t1 t2 t3 t4 t6 t10 t11 t12 t13 t14 t15 t16 t17 t18 t19 t20 t21 t22 t23 t24 t25 t26 t27 t28 t29 t30 t31 t32 t33 t34 t35 t36 t37 t38 t39 t40 t41 t42 t43 t44 t45 t46 t47 t48 t49 t50 t51 t52 t53 t54 t55 t56 t57 t58 t59 t60 t61 t62 t63 t64 t65 t66 t67 t68 t69 t70 t71 t72 t73 t74 t75 t76 t77 t78 t79 t80 t81 t82 t83 t84 t85 t86 t87 t88 t89 t90 t91 t92 t93 t94 t95 t96 t97 t98 t99 t100 t101 t102 t103 t104 t105 t106 t107 t108 t109 t110 t111 t112 t113 t114 t115 t116 t117 t118 t119 t120 t121 t122 t123 t124 t125 t126 t127 t128 t129 t130 t131 t132 t133 t134 t135 t136 t137 t138 t139 t140 t141 t142 t143 t144 t145 t146 t147 t148 t149 t150 t151 t152 t153 t154 t155 t156 t157 t158 t159:Value} :
   Gt.wpIn Fence.wide 5 Tryz.prog (xb w0 R)
     {tmps:=#[t0,t1,t2,t3,t4,.pointer (some ⟨br,0,none⟩),t6,.pointer (some ⟨jG,0,none⟩),.pointer (some ⟨bo,0,none⟩),.int .i64 ahead,t10,t11,t12,t13,t14,t15,t16,t17,t18,t19,t20,t21,t22,t23,t24,t25,t26,t27,t28,t29,t30,t31,t32,t33,t34,t35,t36,t37,t38,t39,t40,t41,t42,t43,t44,t45,t46,t47,t48,t49,t50,t51,t52,t53,t54,t55,t56,t57,t58,t59,t60,t61,t62,t63,t64,t65,t66,t67,t68,t69,t70,t71,t72,t73,t74,t75,t76,t77,t78,t79,t80,t81,t82,t83,t84,t85,t86,t87,t88,t89,t90,t91,t92,t93,t94,t95,t96,t97,t98,t99,t100,t101,t102,t103,t104,t105,t106,t107,t108,t109,t110,t111,t112,t113,t114,t115,t116,t117,t118,t119,t120,t121,t122,t123,t124,t125,t126,t127,t128,t129,t130,t131,t132,t133,t134,t135,t136,t137,t138,t139,t140,t141,t142,t143,t144,t145,t146,t147,t148,t149,t150,t151,t152,t153,t154,t155,t156,t157,t158,t159],defers:=[] } W:=by
 simp only[Gt,behind,jD,Tryz.f169,Option.getD,Nat.beq,Bool.false_eq_true,if_false,if_true];have Qc:Tryz.prog.follows .mixedOrders=true:=by kernel_rfl
 have hw0:=h.CQ.cell;have Gq:=h.wd
 gi_upto_if 65 with(refine⟨trivial,?_⟩;gi_at_call 210;refine(callsIn_wide.2 (Be hr Gq h.sF gF).2).mono ?_;rintro e w1 ⟨rfl,uR⟩;have h1:=h.on uR;have Yu:=h1.CQ.cell;have T5:=h1.sF.bool 9 rfl)
 gi_cut [12]from 66 (fun s wc=>s = .int .i64 (nR r)/\wc=w1)
 case first=>
   rename_i J K' hJ Ug;have hnR:nR r=if qb r 9 then wrap64 (jQ r-1)else jQ r:=rfl
   cases h9:qb r 9 with
   | false=>
     rw[h9]at T5 hnR;simp only[h9]at hJ
     gi_wp2
     refine Met.intro (hJ _ _ ?_)
     (repeat apply Exists.intro)
     refine⟨?_,rfl⟩;exact⟨by rw[hnR];rfl,rfl⟩
   | true=>
     rw[h9]at T5 hnR;simp only[h9]at hJ
     gi_wp2
     refine Met.intro (hJ _ _ ?_)
     (repeat apply Exists.intro)
     refine⟨?_,rfl⟩;exact⟨by rw[hnR];rfl,rfl⟩
 case rest=>
   obtain⟨rfl,rfl⟩:=hcut;clear T5;have c0:wc.cell? ⟨br,0,none⟩=some (.int .i64 x0):=by simp[World.cell?,h1.dH]
   have c1:wc.cell? ⟨br,1,none⟩=some (.int .i64 y0):=by simp[World.cell?,h1.dH]
   have c2:wc.cell? ⟨br,2,none⟩=some (.int .i64 x1):=by simp[World.cell?,h1.dH]
   have c3:wc.cell? ⟨br,3,none⟩=some (.int .i64 y1):=by simp[World.cell?,h1.dH]
   have YN:=h1.sF.bool 4 rfl
   gi_wp2
   gi_region
   gi_upto_if 75 with fail
   gi_cut [13,14]from 76 (fun s t w2=>s = .int .i64 (jA r x0 y0)/\t = .int .i64 (jA r x1 y1)/\LoopIn w2 w0 br jG bo g cap r x0 y0 x1 y1 v rows)
   case first=>
     rename_i J K' hJ Ug;have tD:∀a b,jA r a b=if qb r 4 then b else a:=fun _ _=>rfl
     cases hq:qb r 4 with
     | false=>
       rw[hq]at YN;simp only[hq]at hJ
       gi_wp2
       refine Met.intro (hJ _ _ ?_)
       (repeat apply Exists.intro)
       refine⟨?_,rfl⟩;exact⟨by rw[tD,hq];rfl,by rw[tD,hq];rfl,h1.on (Below.refl _ _).drew⟩
     | true=>
       rw[hq]at YN;simp only[hq]at hJ;have Ts:wc.drew.cell? ⟨br,1,none⟩=some (.int .i64 y0):=c1;have ZB:wc.drew.cell? ⟨br,3,none⟩=some (.int .i64 y1):=c3
       gi_wp2
       gi_region
       gi_wp2
       refine Met.intro (hJ _ _ ?_)
       (repeat apply Exists.intro)
       refine⟨?_,rfl⟩;exact⟨by rw[tD,hq];rfl,by rw[tD,hq];rfl,h1.on ((Below.refl _ _).drew.drew)⟩
   case rest=>
     obtain⟨rfl,rfl,h2⟩:=hcut;clear c0 c1 c2 c3 YN Yu hw0;have YK:=h2.CQ.cell;have hf2:=h2.sF.int 6 rfl;have h2d:=h2.on (Below.refl _ _).drew;have wd2:=h2d.wd;have NP:=h2d.sF;obtain⟨W2,rfl⟩:∃W2,W2=wc:=⟨_,rfl⟩;generalize ac7:jA r x0 y0=lo at *;generalize ac8:jA r x1 y1=hi at *;have akN:W2.drew.cell? ⟨jG,0,none⟩=some (.pointer (some ⟨g,0,none⟩)):=YK
     gi_upto_region 17 with fail
     gi_cut [15,16]from 80 (fun s t w2=>s = .int .i64 (wrap64 (lo-qq r 6))/\t = .int .i64 (wrap64 (wrap64 (hi-1)-qq r 6))/\w2=W2.drew)
     case first=>
       rename_i J K' hJ Ug;refine np ?_
       first|gi_region_with_o fail|fail
       all_goals (refine Ug _ _ (Met.intro (hJ _ _ ?_));(repeat apply Exists.intro);refine⟨?_,rfl⟩;exact⟨by simp only[Ka],by simp only[Ka],rfl⟩)
     case rest=>
     obtain⟨rfl,rfl,rfl⟩:=hcut
     gi_upto_if 95 with(refine⟨trivial,?_⟩;gi_at_call 211;refine(callsIn_wide.2 (rU hr wd2 NP gF).2).mono ?_;rintro e w3 ⟨rfl,hb3⟩;have h3:=h2d.on hb3;have hw3:=h3.CQ.cell;have hf3:=h3.sF.int 6 rfl)
     gi_cut [15,16]from 96 (fun s t w2=>s = .int .i64 (if eT r<0 then wrap64 (wrap64 (qq r 6-hi)+1)else wrap64 (lo-qq r 6))/\t = .int .i64 (if eT r<0 then wrap64 (qq r 6-lo)else wrap64 (wrap64 (hi-1)-qq r 6))/\LoopIn w2 w0 br jG bo g cap r x0 y0 x1 y1 v rows)
     case first=>
       rename_i J K' hJ Ug;by_cases hs:eT r<0
       . rw[if_pos hs,if_pos hs]at hJ
         gi_upto_region 19 with fail
         have L:=@NU w3 jG g (qq r 6) lo hi hw3 hf3;simp only[NT,jE,Tryz.f169,Option.getD,Nat.beq,Bool.false_eq_true,if_false,if_true,List.append_nil,List.nil_append,List.headD]at L;refine L ?_;clear L;intro v96 v97 R7 v99 R8 R9 Wn aa7 aa6 v105 akO v107 akP
         gi_wp2
         refine Met.intro (hJ _ _ ?_)
         (repeat apply Exists.intro)
         refine⟨?_,rfl⟩;exact⟨rfl,rfl,h3.on (Below.refl _ _).drew⟩
       . rw[if_neg hs,if_neg hs]at hJ
         gi_wp2
         refine Met.intro (hJ _ _ ?_)
         (repeat apply Exists.intro)
         refine⟨?_,rfl⟩;exact⟨rfl,rfl,h3⟩
     case rest=>
       obtain⟨rfl,rfl,Ui⟩:=hcut;have hv4:=Ui.zn.cell
       gi_upto_if 117 with fail
       have eb:max (if eT r<0 then wrap64 (wrap64 (qq r 6-hi)+1)else wrap64 (lo-qq r 6)) 0=ti r lo hi:=rfl
       have ee:min (if eT r<0 then wrap64 (qq r 6-lo)else wrap64 (wrap64 (hi-1)-qq r 6)) (wrap64 (nR r-1))=zl r lo hi:=rfl
       rw[eb,ee];have Xk: -64<=lo/\lo<=100:=by rw[<- ac7];unfold jA;split<;>omega
       have Xl: -64<=hi/\hi<=100:=by rw[<- ac8];unfold jA;split<;>omega
       have hRm:lP r x0 y0 x1 y1 ahead=if ti r lo hi>zl r lo hi then []else kE r x0 y0 x1 y1 ahead (ti r lo hi) (zl r lo hi):=by unfold lP;rw[ac7,ac8]
       obtain⟨Ap,CY⟩:=(rU hr Ui.wd Ui.sF gF).1;obtain⟨Kl,Uf⟩:=(Be hr Ui.wd Ui.sF gF).1;by_cases S3:zl r lo hi<ti r lo hi
       . rw[if_pos S3]at hRm;rw[hRm,List.append_nil]at hR;subst hR;refine wpIn_cond_true (show Value.bool (decide (zl r lo hi<ti r lo hi))=_ by rw[decide_eq_true S3]) ?_
         gi_wp2
         all_goals exact⟨_,results_tmp rfl _ _ _,v,rfl,Ui.below,Ui.own⟩
       . rw[if_neg S3]at hRm;obtain⟨Ky,tw⟩:=rO gF Ap CY Kl Uf Xk Xl S3;rename_i K1 a1;rw[hRm]at hR;subst hR;refine wpIn_cond_false (show Value.bool (decide (zl r lo hi<ti r lo hi))=_ by rw[decide_eq_false S3]) (wpIn_skip ?_)
         have T:=@S1 hr wc w0 br jG bo g cap r x0 y0 x1 y1 v rows Ui gF ahead (ti r lo hi) (zl r lo hi) Ky tw hlen ⟨by omega,by omega⟩ ⟨by omega,by omega⟩ ⟨by omega,by omega⟩ ⟨by omega,by omega⟩
         simp only[nj,behind,jD,Tryz.f169,Option.getD,Nat.beq,Bool.false_eq_true,if_false,if_true]at T;exact a1 _ _ T
end Go.Proofs.YtohebioanhliiaaGreatDoor.aD
namespace Go.Proofs.YtohebioanhliiaaGreatDoor.aD
open Go.Sx Go.RowKit Go.Shelf Go SX
attribute [local go_sem] Oper.semAt_some
noncomputable def iq(a0 a1 b0 b1 x0 y0 x1 y1:Int):List (List Int):=
 if a0=b0/\a1=b1\/kV x0 y0 x1 y1=false then []
 else fw (ui a0 a1 b0 b1) x0 y0 x1 y1++lP (ui a0 a1 b0 b1) x0 y0 x1 y1 (if qb (ui a0 a1 b0 b1) 8 then 1 else 0)
theorem LoopIn.app{w0 w2 w3:World}{br jG bo g cap:Nat}{r:List Int}{x0 y0 x1 y1 a b c:Int}{v2 v3:Value}{Bf:List (List Int)}{tmp:Obj}
   (gH:LoopIn w2 w0 br jG bo g cap r x0 y0 x1 y1 v2 Bf) (ov:(w2.alloc tmp).grownBy w3 v2.ownBlock) (bG:w3.ownsRow w0.heap.size 276 3 v3 (Bf.length+1) (aA [i6,i6,i6] Bf++[.int .i64 a,.int .i64 b,.int .i64 c])) :
   LoopIn (w3.setCell ⟨bo,0,none⟩ v3) w0 br jG bo g cap r x0 y0 x1 y1 v3 (Bf++[[a,b,c]]):=by
 have sQ:=gH.below.size;obtain⟨Qt,Tz,Qy,s9,sR⟩:=gH.zn.appended (by decide) gH.own sQ gH.Qq bG ov
 obtain⟨csg,zg,mL⟩:=gH.sF.2.2;have kwy:Boxed (w3.setCell ⟨bo,0,none⟩ v3) jG 319 _:=((gH.CQ.alloc tmp).kept ov (gH.CQ.not_row (by decide) gH.own)).other (kH gH.CQ gH.zn (by decide)) _
 have CW:∀k,k<w2.heap.size->some k≠v2.ownBlock->k≠bo->(w3.setCell ⟨bo,0,none⟩ v3).heap[k]?=w2.heap[k]? :=fun k hk h1 h2=>
   (Below.heap_setCell _ _ _ k h2).trans ((ov.block k (by simp;omega) h1).trans (Below.heap_alloc _ _ _ hk))
 have pI:=CW br (Array.getElem?_eq_some_iff.1 gH.dH).1 (kp gH.dH (by decide) gH.own) (Ne.symm (dV gH.zn gH.dH (by decide)))
 have hgg:=CW g gH.sF.1 (kp mL (by decide) gH.own) (Ne.symm (dV gH.zn mL (by decide)))
 refine⟨gH.Gq,gH.below.trans sR,gH.Qq,Tz,?_,kwy,gH.sF.fG s9.size hgg,pI.trans gH.dH⟩;rw[EC,eH];exact Qy
structure y8(w W:World)(a0 a1 b0 b1 x0 y0 x1 y1:Int):Prop where
 Gq:Wd w
 below:Below w.heap.size w W
 ha:W.heap[w.heap.size]?=some (.cells #[.int .i64 a0,.int .i64 a1] 23 (0,0))
 hb:W.heap[w.heap.size+1]?=some (.cells #[.int .i64 b0,.int .i64 b1] 23 (0,0))
 dH:W.heap[w.heap.size+1+1]?=some (.cells #[.int .i64 x0,.int .i64 y0,.int .i64 x1,.int .i64 y1] 54 (0,0))
theorem y8.wd{w W:World}{a0 a1 b0 b1 x0 y0 x1 y1:Int}(h:y8 w W a0 a1 b0 b1 x0 y0 x1 y1):Wd W:=y2 _ _ h.Gq h.below
theorem y8.on{w W W':World}{a0 a1 b0 b1 x0 y0 x1 y1:Int}(h:y8 w W a0 a1 b0 b1 x0 y0 x1 y1)(hb:Below W.heap.size W W'):y8 w W' a0 a1 b0 b1 x0 y0 x1 y1:=
 ⟨h.Gq,h.below.trans (hb.mono h.below.size),(hb.block _ (Array.getElem?_eq_some_iff.1 h.ha).1).trans h.ha,(hb.block _ (Array.getElem?_eq_some_iff.1 h.hb).1).trans h.hb,(hb.block _ (Array.getElem?_eq_some_iff.1 h.dH).1).trans h.dH⟩
theorem y8.start{w:World}(hw:Wd w)(a0 a1 b0 b1 x0 y0 x1 y1:Int):y8 w (((w.alloc (.cells #[.int .i64 a0,.int .i64 a1] 23)).alloc (.cells #[.int .i64 b0,.int .i64 b1] 23)).alloc (.cells #[.int .i64 x0,.int .i64 y0,.int .i64 x1,.int .i64 y1] 54)) a0 a1 b0 b1 x0 y0 x1 y1:=by
 refine⟨hw,(((Below.refl _ _).alloc (Nat.le_refl _) _).alloc (by simp) _).alloc (by simp;omega) _,?_,?_,?_⟩
 . exact(Below.heap_alloc _ _ _ (by simp;omega)).trans ((Below.heap_alloc _ _ _ (by simp)).trans (World.alloc_heap_new _ _))
 . have:=World.alloc_heap_new (w.alloc (.cells #[.int .i64 a0,.int .i64 a1] 23)) (.cells #[.int .i64 b0,.int .i64 b1] 23);rw[World.size_alloc]at this;exact(Below.heap_alloc _ _ _ (by simp)).trans this
 . have:=World.alloc_heap_new ((w.alloc (.cells #[.int .i64 a0,.int .i64 a1] 23)).alloc (.cells #[.int .i64 b0,.int .i64 b1] 23)) (.cells #[.int .i64 x0,.int .i64 y0,.int .i64 x1,.int .i64 y1] 54);rwa[World.size_alloc,World.size_alloc]at this
theorem LoopIn.start{w W:World}{a0 a1 b0 b1 x0 y0 x1 y1:Int}(h:y8 w W a0 a1 b0 b1 x0 y0 x1 y1){g cap:Nat}{r:List Int}(hw:kG W g cap r):LoopIn ((W.alloc (.cells #[.pointer (some ⟨g,0,none⟩)] 319)).alloc (.cells #[.slice none 0 0] 272)) w (w.heap.size+1+1) W.heap.size (W.heap.size+1) g cap r x0 y0 x1 y1 (.slice none 0 0) []:=by
 have sQ:=h.below.size;have hb:Below W.heap.size W ((W.alloc (.cells #[.pointer (some ⟨g,0,none⟩)] 319)).alloc (.cells #[.slice none 0 0] 272)):=((Below.refl _ _).alloc (Nat.le_refl _) _).alloc (by simp) _
 refine⟨h.Gq,h.below.trans (hb.mono sQ),by omega,?_,World.ownsRow_nil _ _ _ _,(Boxed.new W 319 _).alloc _,hw.below hb,(hb.block _ (Array.getElem?_eq_some_iff.1 h.dH).1).trans h.dH⟩
 have:=Boxed.new (W.alloc (.cells #[.pointer (some ⟨g,0,none⟩)] 319)) 272 (.slice none 0 0);rwa[World.size_alloc]at this
set_option maxHeartbeats 8000000 in
theorem Kc(hr:jz){w:World}(hw:Wd w){a0 a1 b0 b1 x0 y0 x1 y1:Int}(h0: -268500000<=a0/\a0<=268500000)(h1: -268500000<=a1/\a1<=268500000)(h2: -268500000<=b0/\b0<=268500000)(h3: -268500000<=b1/\b1<=268500000)
   (h4: -64<=x0/\x0<=100) (h5: -64<=y0/\y0<=100) (h6: -64<=x1/\x1<=100) (h7: -64<=y1/\y1<=100) :
   Calls Tryz.prog 169 #[.agg #[.int .i64 a0,.int .i64 a1],.agg #[.int .i64 b0,.int .i64 b1],.agg #[.int .i64 x0,.int .i64 y0,.int .i64 x1,.int .i64 y1]] w fun e W'=>∃v',e = .returned v'/\Below w.heap.size w W'/\W'.ownsRow w.heap.size 276 3 v' (iq a0 a1 b0 b1 x0 y0 x1 y1).length (aA [i6,i6,i6] (iq a0 a1 b0 b1 x0 y0 x1 y1)):=by
 obtain⟨R,hR⟩:∃R,iq a0 a1 b0 b1 x0 y0 x1 y1=R:=⟨_,rfl⟩;rw[hR];refine(callsIn_wide (n:=5)).1 ?_;refine callsIn_of_wp_marks Tryz.func169 rfl trivial ?_;simp only[Tryz.ntmps169,List.size_toArray,List.length_cons,List.length_nil,Nat.reduceAdd,Nat.reduceSub,Array.replicate_succ,Array.replicate_zero,List.push_toArray,List.append_toArray,List.nil_append,List.cons_append];have pZ:gG x0:=⟨by omega,by omega⟩
 have GH:gG y0:=⟨by omega,by omega⟩
 have Mr:gG x1:=⟨by omega,by omega⟩
 have SZ:gG y1:=⟨by omega,by omega⟩
 gi_upto_region 1 with fail
 gi_cut [29]from 22 (fun f wc=>f = .bool (decide (a0=b0/\a1=b1) || !(kV x0 y0 x1 y1))/\y8 w wc a0 a1 b0 b1 x0 y0 x1 y1)
 case first=>
   rename_i J K' hJ Ug;have m3:y8 w (((w.alloc (.cells #[.int .i64 a0,.int .i64 a1] 23)).alloc (.cells #[.int .i64 b0,.int .i64 b1] 23)).alloc (.cells #[.int .i64 x0,.int .i64 y0,.int .i64 x1,.int .i64 y1] 54)) a0 a1 b0 b1 x0 y0 x1 y1:=y8.start hw _ _ _ _ _ _ _ _;have wd3:=m3.wd;by_cases ea:a0=b0
   . subst ea;by_cases eb:a1=b1
     . subst eb
       gi_wp2
       refine⟨trivial,?_⟩
       gi_wp2
       refine Met.intro (hJ _ _ ?_);(repeat apply Exists.intro);refine⟨?_,rfl⟩;exact⟨by simp,m3⟩
     . gi_wp2_with (refine⟨trivial,?_⟩;gi_at_call 65;refine(callsIn_wide.2 (yY hr wd3 pZ GH Mr SZ)).mono ?_;rintro e w1 ⟨rfl,uR⟩)
       refine Met.intro (hJ _ _ ?_);(repeat apply Exists.intro);refine⟨?_,rfl⟩;exact⟨by simp[eb],m3.on uR⟩
   . gi_wp2_with (refine⟨trivial,?_⟩;gi_at_call 65;refine(callsIn_wide.2 (yY hr wd3 pZ GH Mr SZ)).mono ?_;rintro e w1 ⟨rfl,uR⟩)
     refine Met.intro (hJ _ _ ?_);(repeat apply Exists.intro);refine⟨?_,rfl⟩;exact⟨by simp[ea],m3.on uR⟩
 case rest=>
   obtain⟨rfl,m3⟩:=hcut;by_cases hq:a0=b0/\a1=b1\/kV x0 y0 x1 y1=false
   . have hqb:(decide (a0=b0/\a1=b1) || !(kV x0 y0 x1 y1))=true:=by
       rcases hq with h|h
       . rw[decide_eq_true h];rfl
       . rw[h];simp
     have rZ:R=[]:=by rw[<- hR];unfold iq;rw[if_pos hq]
     rw[hqb]
     gi_wp2
     exact⟨_,results_tmp rfl _ _ _,_,rfl,m3.below,by rw[rZ];exact World.ownsRow_nil _ _ _ _⟩
   . have hqb:(decide (a0=b0/\a1=b1) || !(kV x0 y0 x1 y1))=false:=by
       rw[Bool.or_eq_false_iff,decide_eq_false_iff_not,Bool.not_eq_false'];exact⟨fun h=>hq (Or.inl h),by cases h:kV x0 y0 x1 y1 with|true=>rfl|false=>exact absurd (Or.inr h) hq⟩
     rw[hqb];have wdc:=m3.wd;have c0:wc.cell? ⟨w.heap.size,0,none⟩=some (.int .i64 a0):=by simp[World.cell?,m3.ha]
     have c1:wc.cell? ⟨w.heap.size,1,none⟩=some (.int .i64 a1):=by simp[World.cell?,m3.ha]
     have c2:wc.cell? ⟨w.heap.size+1,0,none⟩=some (.int .i64 b0):=by simp[World.cell?,m3.hb]
     have c3:wc.cell? ⟨w.heap.size+1,1,none⟩=some (.int .i64 b1):=by simp[World.cell?,m3.hb]
     obtain⟨gF,mT⟩:=NM hr wdc h0 h1 h2 h3 (fun h=>hq (Or.inl h))
     have wB:Below w.heap.size w wc:=m3.below
     gi_upto_region 6 with(refine⟨trivial,?_⟩;gi_at_call 207;refine(callsIn_wide.2 mT).mono ?_;rintro e w4 ⟨g,cap,rfl,YU,hg4,ac5⟩;clear mT)
     have tD:LoopIn ((w4.alloc (.cells #[.pointer (some ⟨g,0,none⟩)] 319)).alloc (.cells #[.slice none 0 0] 272)) w (w.heap.size+1+1) w4.heap.size (w4.heap.size+1) g cap (ui a0 a1 b0 b1) x0 y0 x1 y1 (.slice none 0 0) []:=LoopIn.start (m3.on YU) ac5;clear c0 c1 c2 c3 YU ac5;generalize hW5:(w4.alloc (.cells #[.pointer (some ⟨g,0,none⟩)] 319)).alloc (.cells #[.slice none 0 0] 272)=W5 at *;generalize hr4:ui a0 a1 b0 b1=r at *;have hw5:=tD.CQ.cell;have YQ:=tD.sF.bool 8 rfl
     gi_upto_if 36 with fail
     gi_cut [9]from 37 (fun s wc=>s = .int .i64 (if qb r 8 then 1 else 0)/\∃v,LoopIn wc w (w.heap.size+1+1) w4.heap.size (w4.heap.size+1) g cap r x0 y0 x1 y1 v (fw r x0 y0 x1 y1))
     case first=>
       rename_i J K' hJ Ug;cases h8:qb r 8 with
       | false=>
         rw[h8]at YQ;simp only[h8]at hJ
         gi_wp2
         refine Met.intro (hJ _ _ ?_)
         (repeat apply Exists.intro)
         refine⟨?_,rfl⟩;exact⟨by simp,_,by rw[show fw r x0 y0 x1 y1=[]by unfold fw;rw[h8];rfl];exact tD⟩
       | true=>
         rw[h8]at YQ;simp only[h8]at hJ;have hd:=tD.on (Below.refl _ _).drew;have WV:W5.drew.cell? ⟨g,4,none⟩=some (.bool (qb r 4)):=tD.sF.bool 4 rfl;have M4:=tD.sF.int 10 rfl;have YM:=tD.sF.int 11 rfl;have Qc:Tryz.prog.follows .mixedOrders=true:=by kernel_rfl
         gi_upto_region 8 with fail
         have L8:=@S2 W5 w4.heap.size g (qb r 4) (qq r 10) (qq r 11) hw5 WV M4 YM;simp only[Xi,jE,Tryz.f169,Option.getD,Nat.beq,Bool.false_eq_true,if_false,if_true,List.append_nil,List.nil_append,List.headD]at L8;refine L8 ?_;clear L8;intro v37 v38 v39 v40 v41 v42 v43 v44 v45 v46 v47 v48 v49;have aki: -1200000<=qq r 10/\qq r 10<=1200000:=gF.YT.2.2.2.2.2.2.2.2.2.2.1;have akj: -1200000<=qq r 11/\qq r 11<=1200000:=gF.YT.2.2.2.2.2.2.2.2.2.2.2.1;obtain⟨Xf,Xg⟩:=H7 (t:=qb r 4) (u:=qq r 10) (v:=qq r 11) ⟨by omega,by omega⟩ ⟨by omega,by omega⟩
         have Uh:fw r x0 y0 x1 y1=if lO x0 y0 x1 y1 (px (qb r 4) (qq r 10) (qq r 11)) (py (qb r 4) (qq r 10) (qq r 11))=true then [[0,px (qb r 4) (qq r 10) (qq r 11),py (qb r 4) (qq r 10) (qq r 11)]]else []:=by unfold fw;rw[h8];rfl
         have wdd:=hd.wd;have c0:W5.drew.cell? ⟨w.heap.size+1+1,0,none⟩=some (.int .i64 x0):=by simp[World.cell?,hd.dH]
         have c1:W5.drew.cell? ⟨w.heap.size+1+1,1,none⟩=some (.int .i64 y0):=by simp[World.cell?,hd.dH]
         have c2:W5.drew.cell? ⟨w.heap.size+1+1,2,none⟩=some (.int .i64 x1):=by simp[World.cell?,hd.dH]
         have c3:W5.drew.cell? ⟨w.heap.size+1+1,3,none⟩=some (.int .i64 y1):=by simp[World.cell?,hd.dH]
         have WR:(4000:Nat)<=maxLen:=by decide
         obtain⟨i0,hi,Kl,Uf,hz2⟩:=info_parts H9;generalize px (qb r 4) (qq r 10) (qq r 11)=pX at *;generalize py (qb r 4) (qq r 10) (qq r 11)=pY at *
         gi_wp2_with (first
           |(refine⟨trivial,?_⟩;gi_at_call 168;refine(callsIn_wide.2 (EA hr wdd pZ GH Mr SZ Xf Xg).2).mono ?_;rintro e w6 ⟨rfl,hb6⟩;have NS:=hd.on hb6;clear c0 c1 c2 c3 hw5 YQ WV M4 YM;have akM:=NS.zn.cell)
           |(gi_at_builtin;refine wpListIn_append_own _ rfl _ _ 272 rfl w.heap.size 276 i0 (.agg #[.int .i64 0,.int .i64 0,.int .i64 0]) 3 24 Tryz.underlying272 hi Kl Uf hz2 rfl (by decide) _ _ _ rfl (NS.own.alloc _) ⟨w6.heap.size,0,none⟩ 1 1 [.int .i64 0,.int .i64 pX,.int .i64 pY] rfl rfl (wv _ _ _ _ _) (by simp[Value.oneCell']) (by simp;omega) (by simp) (by have:=NS.below.size;simp;omega) ?_;intro v3 w7 y7 vq _;obtain⟨g',nN,rfl⟩:=ownsRow_succ y7;obtain⟨Qt,Tz,Qy,s9,akh⟩:=NS.zn.appended (by decide) NS.own NS.below.size NS.Qq y7 vq;have rA:=Qt.cell;have hf1:=Qt.frozen))
         all_goals (refine Met.intro (hJ _ _ ?_);(repeat apply Exists.intro);refine⟨?_,rfl⟩)
         . refine⟨by simp,.slice (some ⟨g',0,none⟩) (([]:List (List Int)).length+1) nN,?_⟩
           rw[Uh,if_pos (by assumption)]
           exact LoopIn.app NS vq y7
         . refine⟨by simp,.slice none 0 0,?_⟩
           rw[Uh,show lO x0 y0 x1 y1 pX pY=false by assumption,if_neg (by decide)]
           exact NS
     case rest=>
       obtain⟨rfl,v6,NS⟩:=hcut;rename_i K1 a1;have hlen:(fw r x0 y0 x1 y1).length<=1000:=by
         unfold fw;split
         . split<;>simp
         . simp
       have hR':R=fw r x0 y0 x1 y1++lP r x0 y0 x1 y1 (if qb r 8 then 1 else 0):=by rw[<- hR];unfold iq;rw[if_neg hq,hr4]
       have T:=@Xj hr _ w (w.heap.size+1+1) w4.heap.size (w4.heap.size+1) g cap r x0 y0 x1 y1 v6 _ NS gF (if qb r 8 then 1 else 0) hlen h4 h5 h6 h7 R hR'
       simp only[Gt,behind,jD,Tryz.f169,Option.getD,Nat.beq,Bool.false_eq_true,if_false,if_true]at T;exact a1 _ _ T
end Go.Proofs.YtohebioanhliiaaGreatDoor.aD
namespace Go.Proofs.YtohebioanhliiaaGreatDoor.aD
open Go.Sx Go.RowKit Go
def YV(n:Int):Bool:=decide (-268500000<=n)&&decide (n<=268500000)
def YW(n:Int):Bool:=decide (-64<=n)&&decide (n<=100)
theorem NV{n:Int}:YV n=true↔-268500000<=n/\n<=268500000:=by simp[YV]
theorem NW{n:Int}:YW n=true↔-64<=n/\n<=100:=by simp[YW]
noncomputable def yD:List DV->Option (List DV)
 | [.i a0,.i a1,.i b0,.i b1,.i x0,.i y0,.i x1,.i y1]=>
   if((YV a0&&YV a1)&&(YV b0&&YV b1))&&((YW x0&&YW y0)&&(YW x1&&YW y1))then some [.l (iq a0 a1 b0 b1 x0 y0 x1 y1)]else none
 |_=>none
theorem S4:∀ds rs,yD ds=some rs->kinds (bD y9.res) rs=true:=by
 intro ds rs h;unfold yD at h;split at h
 . split at h<;>cases h;rfl
 . cases h
theorem Xm(hr:jz):Has Tryz.prog Wd 169 (CC y9 yD):=by
 unfold Has;refine .inl ⟨fun w args=>dx Tryz.func169 rfl rfl w args,fun w vs ds hw ha hp=>?_⟩
 obtain⟨rs,_,hx⟩:=hp;obtain⟨bP,rfl,hf⟩:=ha;unfold yD at hx;split at hx
 . rename_i a0 a1 b0 b1 x0 y0 x1 y1;split at hx
   . rename_i hc;cases hx;have AK:=hc;simp only[ao,NV,NW]at AK;obtain⟨⟨⟨h0,h1⟩,h2,h3⟩,⟨h4,h5⟩,h6,h7⟩:=AK
     match bP,hf with
     | [c0,c1,c2,c3,c4,c5,c6,c7],hf=>
       obtain⟨e0,e1,e2,e3,e4,e5,e6,e7,_⟩:=hf;simp only[ju]at e0 e1 e2 e3 e4 e5 e6 e7;subst e0;subst e1;subst e2;subst e3;subst e4;subst e5;subst e6;subst e7;refine(Kc hr hw h0 h1 h2 h3 h4 h5 h6 h7).mono ?_;rintro e w' ⟨v,rfl,hb,bG⟩;refine⟨[v],[.l (iq a0 a1 b0 b1 x0 y0 x1 y1)],rfl,hb,⟨⟨by decide,bG⟩,trivial⟩,?_,?_⟩
       . intro i j u u' Bw hi hj
         match i,j,hi,hj with
         |0,0,_,_=>exact absurd rfl Bw
         |0,j+1,_,hj=>simp at hj
         |i+1,_,hi,_=>simp at hi
       . show yD _=_;simp only[yD,hc,if_true]
   . cases hx
 . cases hx
theorem Ia{r:List Int}(gF:mG r):0<=jQ r/\jQ r<=2500000:=by
 have hp:(kh 210).fS [.l [r]]:=by rw[SL];exact⟨⟨mH gF,trivial⟩,fun p hp=>by cases hp⟩
 obtain⟨_,hq,_⟩:=ni (k:=210) (by decide) hp
 rw[SL]at hq;unfold jQ;generalize gv 210 [.l [r]]=rs at hq
 match rs,hq with
 | [.i n],hq=>exact hq.1
theorem Ib{r:List Int}(gF:mG r): -1<=eT r/\eT r<=1:=by
 have hp:(kh 211).fS [.l [r]]:=by rw[SM];exact⟨⟨mH gF,trivial⟩,fun p hp=>by cases hp⟩
 obtain⟨_,hq,_⟩:=ni (k:=211) (by decide) hp
 rw[SM]at hq;unfold eT;generalize gv 211 [.l [r]]=rs at hq
 match rs,hq with
 | [.i n],hq=>exact hq.1
theorem Kd{r:List Int}(gF:mG r){u:Int}(hu: -8388608<=u/\u<=8388608):gG (iO r u):=by
 have hp:(kh 251).fS [.l [r],.i u]:=by
   rw[SN];refine⟨⟨mH gF,hu,trivial⟩,fun p hp=>?_⟩
   obtain rfl:p=_:=List.mem_singleton.1 hp;exact CO gF.ne
 obtain⟨_,hq,_⟩:=ni (k:=251) (by decide) hp
 rw[SN]at hq;unfold iO;generalize gv 251 [.l [r],.i u]=rs at hq
 match rs,hq with
 | [.i n],hq=>
   have:=hq.1;exact⟨by have:=this.1;show -9223372036854775808<=n;omega,by have:=this.2;show n<=9223372036854775807;omega⟩
theorem Xn{x0 y0 x1 y1 x y:Int}(h0:gG x0)(h1:gG y0)(h2:gG x1)(h3:gG y1)(h4:gG x)(h5:gG y)(h:lO x0 y0 x1 y1 x y=true):(x0<=x/\x<x1)/\y0<=y/\y<y1:=by
 have hp:(kh 168).fS [.i x0,.i y0,.i x1,.i y1,.i x,.i y]:=by
   rw[SO];exact⟨⟨h0,h1,h2,h3,h4,h5,trivial⟩,fun p hp=>by cases hp⟩
 obtain⟨_,hq,uW⟩:=ni (k:=168) (by decide) hp
 rw[SO]at hq uW;unfold lO at h;generalize hg:gv 168 [.i x0,.i y0,.i x1,.i y1,.i x,.i y]=rs at hq;rw[hg]at h uW
 match rs,hq with
 | [.b n],hq=>
   have h:n=true:=h;subst h;have hq3:=uW _ (List.mem_singleton.2 rfl);have:(!true||((decide (x0<=x)&&decide (x<x1))&&(decide (y0<=y)&&decide (y<y1))))=true:=hq3;simpa using this
theorem Xo{a0 a1 b0 b1:Int}(h0: -268500000<=a0/\a0<=268500000)(h1: -268500000<=a1/\a1<=268500000)(h2: -268500000<=b0/\b0<=268500000)(h3: -268500000<=b1/\b1<=268500000)(cx:¬(a0=b0/\a1=b1)):mG (ui a0 a1 b0 b1):=by
 have hp:(kh 207).fS [.i a0,.i a1,.i b0,.i b1]:=by
   rw[SK];refine⟨⟨h0,h1,h2,h3,trivial⟩,fun p hp=>?_⟩
   obtain rfl:p=_:=List.mem_singleton.1 hp;have:(decide (a0=b0)&&decide (a1=b1))=false:=by
     rw[Bool.and_eq_false_iff,decide_eq_false_iff_not,decide_eq_false_iff_not];exact Classical.not_and_iff_not_or_not.1 cx
   show(!(decide (a0=b0)&&decide (a1=b1)))=true;rw[this];rfl
 obtain⟨_,hq,uW⟩:=ni (k:=207) (by decide) hp
 rw[SK]at hq uW;unfold ui;generalize hg:gv 207 [.i a0,.i a1,.i b0,.i b1]=rs at hq;rw[hg]at uW
 match rs,hq with
 | [d],hq=>
   obtain⟨r,rfl,bc⟩:=H6 hq.1;have KM:=uW _ (List.mem_singleton.2 rfl);refine⟨bc,fun e=>?_⟩
   have e':(decide (r.getD 2 0=r.getD 0 0))=true:=decide_eq_true e;have:(!(decide (r.getD 2 0=r.getD 0 0)))=true:=KM;rw[e']at this;cases this
def za(row:List Int):Prop:=cn [(0,4000000),(-64,100),(-64,100)] 0 row
section
variable {x0 y0 x1 y1:Int}(h4: -64<=x0/\x0<=100)(h5: -64<=y0/\y0<=100)(h6: -64<=x1/\x1<=100)(h7: -64<=y1/\y1<=100)
theorem NY{x0:Int}{y0:Int}{x1:Int}{y1:Int}(h4: -64<=x0/\x0<=100)(h5: -64<=y0/\y0<=100)(h6: -64<=x1/\x1<=100)(h7: -64<=y1/\y1<=100){k x y:Int}(hk:0<=k/\k<=4000000)(hx:gG x)(hy:gG y)(h:lO x0 y0 x1 y1 x y=true):za [k,x,y]:=by
 obtain⟨⟨e1,e2⟩,e3,e4⟩:=Xn ⟨by omega,by omega⟩ ⟨by omega,by omega⟩ ⟨by omega,by omega⟩ ⟨by omega,by omega⟩ hx hy h
 exact⟨hk,⟨by show -64<=x;omega,by show x<=100;omega⟩,⟨by show -64<=y;omega,by show y<=100;omega⟩,trivial⟩
theorem S5{x0:Int}{y0:Int}{x1:Int}{y1:Int}(h4: -64<=x0/\x0<=100)(h5: -64<=y0/\y0<=100)(h6: -64<=x1/\x1<=100)(h7: -64<=y1/\y1<=100){r:List Int}(gF:mG r):(fw r x0 y0 x1 y1).length<=1/\∀row∈fw r x0 y0 x1 y1,za row:=by
 have aki: -1200000<=qq r 10/\qq r 10<=1200000:=gF.YT.2.2.2.2.2.2.2.2.2.2.1;have akj: -1200000<=qq r 11/\qq r 11<=1200000:=gF.YT.2.2.2.2.2.2.2.2.2.2.2.1;obtain⟨Xf,Xg⟩:=H7 (t:=qb r 4) (u:=qq r 10) (v:=qq r 11) ⟨by omega,by omega⟩ ⟨by omega,by omega⟩
 unfold fw;by_cases h8:qb r 8=true
 . rw[if_pos h8];by_cases hh:lO x0 y0 x1 y1 (px (qb r 4) (qq r 10) (qq r 11)) (py (qb r 4) (qq r 10) (qq r 11))=true
   . rw[if_pos hh];exact⟨Nat.le_refl _,fun row hm=>by rw[List.mem_singleton.1 hm];exact NY h4 h5 h6 h7 ⟨by omega,by omega⟩ Xf Xg hh⟩
   . rw[if_neg hh];exact⟨Nat.zero_le _,fun row hm=>by cases hm⟩
 . rw[if_neg h8];exact⟨Nat.zero_le _,fun row hm=>by cases hm⟩
theorem S6{x0:Int}{y0:Int}{x1:Int}{y1:Int}(h4: -64<=x0/\x0<=100)(h5: -64<=y0/\y0<=100)(h6: -64<=x1/\x1<=100)(h7: -64<=y1/\y1<=100){r:List Int}(gF:mG r){ahead bg en:Int}(ha:0<=ahead/\ahead<=1)(hb:0<=bg/\bg<=2500000)(hu: -8388608<=gB r bg/\gB r bg<=8388608)(hm:0<=jR bg en/\jR bg en<=164) :
   (kE r x0 y0 x1 y1 ahead bg en).length<=164/\∀row∈kE r x0 y0 x1 y1 ahead bg en,za row:=by
 unfold kE;have hlen:(gm r (gB r bg) (jR bg en).toNat).length=(jR bg en).toNat:=by simp[gm]
 constructor
 . have:=ux (qb r 4) x0 y0 x1 y1 (wrap64 (ahead+bg)) (gm r (gB r bg) (jR bg en).toNat);omega
 . intro row bc;unfold dw at bc;obtain⟨i,hi,bc⟩:=List.mem_flatMap.1 bc;have hi:=List.mem_range.1 hi;unfold fx at bc;have ID:(gm r (gB r bg) (jR bg en).toNat)[i]?=some ((gm r (gB r bg) (jR bg en).toNat).getD i (0,0)):=by
     rw[cH,dJ hi];rfl
   obtain⟨F9,hp2⟩:=NO hu (Kd gF hu) ID;generalize(gm r (gB r bg) (jR bg en).toNat).getD i (0,0)=p at *;obtain⟨Xf,Xg⟩:=H7 (t:=qb r 4) F9 hp2;by_cases hh:lO x0 y0 x1 y1 (px (qb r 4) p.1 p.2) (py (qb r 4) p.1 p.2)=true
   . rw[if_pos hh]at bc;rw[List.mem_singleton.1 bc];have e1:wrap64 (ahead+bg)=ahead+bg:=eX (by omega) (by omega)
     have e2:wrap64 (ahead+bg+(i:Int))=ahead+bg+i:=eX (by omega) (by omega)
     rw[e1,e2];exact NY h4 h5 h6 h7 ⟨by omega,by omega⟩ Xf Xg hh
   . rw[if_neg hh]at bc;cases bc
theorem Ke{x0:Int}{y0:Int}{x1:Int}{y1:Int}(h4: -64<=x0/\x0<=100)(h5: -64<=y0/\y0<=100)(h6: -64<=x1/\x1<=100)(h7: -64<=y1/\y1<=100){a0 a1 b0 b1:Int}(h0: -268500000<=a0/\a0<=268500000)(h1: -268500000<=a1/\a1<=268500000)(h2: -268500000<=b0/\b0<=268500000)(h3: -268500000<=b1/\b1<=268500000) :
   (iq a0 a1 b0 b1 x0 y0 x1 y1).length<=200/\∀row∈iq a0 a1 b0 b1 x0 y0 x1 y1,za row:=by
 unfold iq;by_cases hq:a0=b0/\a1=b1\/kV x0 y0 x1 y1=false
 . rw[if_pos hq];exact⟨Nat.zero_le _,fun row hm=>by cases hm⟩
 rw[if_neg hq];have gF:=Xo h0 h1 h2 h3 fun h=>hq (Or.inl h)
 generalize ui a0 a1 b0 b1=r at *;obtain⟨a1,a2⟩:=S5 h4 h5 h6 h7 gF;have Xk: -64<=jA r x0 y0/\jA r x0 y0<=100:=by unfold jA;split<;>omega
 have Xl: -64<=jA r x1 y1/\jA r x1 y1<=100:=by unfold jA;split<;>omega
 have hm:(lP r x0 y0 x1 y1 (if qb r 8 then 1 else 0)).length<=164/\∀row∈lP r x0 y0 x1 y1 (if qb r 8 then 1 else 0),za row:=by
   unfold lP;by_cases S3:zl r (jA r x0 y0) (jA r x1 y1)<ti r (jA r x0 y0) (jA r x1 y1)
   . rw[if_pos S3];exact⟨Nat.zero_le _,fun row hm=>by cases hm⟩
   . rw[if_neg S3];obtain⟨⟨b1,b2⟩,b3⟩:=Bg gF (Ib gF).1 (Ib gF).2 (Ia gF).1 (Ia gF).2 Xk Xl S3;exact S6 h4 h5 h6 h7 gF (by split<;>omega) b3 b1 b2
 obtain⟨m1,m2⟩:=hm;refine⟨by rw[eH];omega,fun row bc=>?_⟩
 rcases List.mem_append.1 bc with h|h
 . exact a2 row h
 . exact m2 row h
end
theorem TQ:kD Tryz.prog jF 169=none:=by kernel_rfl
theorem Xp:kc 169=⟨[Pc,Pc,Pc,Pc,.i (-64) 100,.i (-64) 100,.i (-64) 100,.i (-64) 100],[],[.l 0 (some 200) [(0,4000000),(-64,100),(-64,100)]],[]⟩:=by kernel_rfl
theorem akt{X:bA}(hX:X 169=yD):lH (kD Tryz.prog jF) X 169 (kc 169).fS (kc 169).fX:=by
 rw[Xp];rintro ds ⟨ha,_⟩
 match ds,ha with
 | [.i a0,.i a1,.i b0,.i b1,.i x0,.i y0,.i x1,.i y1],ha=>
   obtain⟨h0,h1,h2,h3,h4,h5,h6,h7,_⟩:=ha;have h0: -268500000<=a0/\a0<=268500000:=h0;have h1: -268500000<=a1/\a1<=268500000:=h1;have h2: -268500000<=b0/\b0<=268500000:=h2;have h3: -268500000<=b1/\b1<=268500000:=h3;have h4: -64<=x0/\x0<=100:=h4;have h5: -64<=y0/\y0<=100:=h5;have h6: -64<=x1/\x1<=100:=h6;have h7: -64<=y1/\y1<=100:=h7;obtain⟨l1,l2⟩:=Ke h4 h5 h6 h7 h0 h1 h2 h3;refine⟨[.l (iq a0 a1 b0 b1 x0 y0 x1 y1)],il TQ ?_,⟨⟨by omega,fun y e=>by cases e;omega,l2⟩,trivial⟩,fun p hp=>by cases hp⟩
   rw[hX];simp only[yD];rw[if_pos];simp only[ao,NV,NW];exact⟨⟨⟨h0,h1⟩,h2,h3⟩,⟨h4,h5⟩,h6,h7⟩
noncomputable abbrev XF:bA:=XX yD
theorem abp(hr:jz):yh Tryz.prog Wd (TT Tryz.prog) XF Xd iD:=ac9 _ hr (Xm hr) S4
theorem h7F:mE (TT Tryz.prog) XF kc (ord.take 7):=by
 intro j hj;have hj:j=283\/j=140\/j=243\/j=266\/j=87\/j=146\/j=169:=by simpa[ord]using hj
 rcases hj with rfl|rfl|rfl|rfl|rfl|rfl|rfl
 . exact ahi rfl
 . exact ahf rfl
 . exact ahg rfl
 . exact ahh rfl
 . exact g87 rfl
 . exact ahk rfl
 . exact akt rfl
end Go.Proofs.YtohebioanhliiaaGreatDoor.aD

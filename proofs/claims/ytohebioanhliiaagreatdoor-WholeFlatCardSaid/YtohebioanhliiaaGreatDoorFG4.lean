/- walk.Within: whole. -/
import Derived.Test.YtohebioanhliiaaGreatDoorFG3
set_option maxRecDepth 100000
set_option linter.unusedVariables false
set_option linter.unusedSimpArgs false
set_option maxRecDepth 20000
namespace Go.Proofs.YtohebioanhliiaaGreatDoor.aN
section
open Go.Sx Go.RowKit Go.Shelf Go Xa
variable{hi lo:Int}
attribute [local go_sem] Oper.semAt_some
noncomputable def gN(r:List Int)(x0 y0 x1 y1:Int):List (List Int):=
 if qb r 8 then(if og x0 y0 x1 y1 (px (qb r 4) (qq r 10) (qq r 11)) (py (qb r 4) (qq r 10) (qq r 11))then [[0,px (qb r 4) (qq r 10) (qq r 11),py (qb r 4) (qq r 10) (qq r 11)]]else [])else []
noncomputable def nR(r:List Int):Int:=if qb r 9 then wrap64 (lW r-1)else lW r
def lF(r:List Int)(x0 y0:Int):Int:=if qb r 4 then y0 else x0
noncomputable def wo(r:List Int)(lo hi:Int):Int:=max (if fQ r<0 then wrap64 (wrap64 (qq r 6-hi)+1)else wrap64 (lo-qq r 6)) 0
noncomputable def Cf(r:List Int)(lo hi:Int):Int:=min (if fQ r<0 then wrap64 (qq r 6-lo)else wrap64 (wrap64 (hi-1)-qq r 6)) (wrap64 (nR r-1))
noncomputable def JP:Code:=behind 11 40 (Tryz.f169.body.getD .skip)
noncomputable def oh(r:List Int)(x0 y0 x1 y1 ahead:Int):List (List Int):=
 if wo r (lF r x0 y0) (lF r x1 y1)>Cf r (lF r x0 y0) (lF r x1 y1)then []else mO r x0 y0 x1 y1 ahead (wo r (lF r x0 y0) (lF r x1 y1)) (Cf r (lF r x0 y0) (lF r x1 y1))
theorem D2{r:List Int}(iP:lH r)(C7: -1<=fQ r)(F9:fQ r<=1)(NW:0<=lW r)(YH:lW r<=2500000)(wD: -64<=lo/\lo<=100)(UK: -64<=hi/\hi<=100)(h:¬ Cf r lo hi<wo r lo hi) :
   ((-8388608<=iW r (wo r lo hi)/\iW r (wo r lo hi)<=8388608)/\(0<=lX (wo r lo hi) (Cf r lo hi)/\lX (wo r lo hi) (Cf r lo hi)<=164))/\0<=wo r lo hi/\wo r lo hi<=2500000:=by
 have hq: -1200000<=qq r 6/\qq r 6<=1200000:=iP.in_.2.2.2.2.2.2.1;have hn: -1<=nR r/\nR r<=2500000:=by
   unfold nR;split;rw[fV (by omega) (by omega)];omega;omega
 have hw:wrap64 (nR r-1)=nR r-1:=fV (by omega) (by omega);have hd:Cf r lo hi-wo r lo hi<=163/\0<=wo r lo hi/\Cf r lo hi<=2500000:=by
   unfold Cf wo;rw[hw];by_cases hs:fQ r<0;rw[if_pos hs,if_pos hs,fV (a:=qq r 6-hi) (by omega) (by omega),fV (a:=qq r 6-hi+1) (by omega) (by omega),fV (a:=qq r 6-lo) (by omega) (by omega)];omega;rw[if_neg hs,if_neg hs,fV (a:=hi-1) (by omega) (by omega),fV (a:=lo-qq r 6) (by omega) (by omega),fV (a:=hi-1-qq r 6) (by omega) (by omega)];omega
 obtain⟨Aa,hd2,hd3⟩:=hd;refine⟨?_,hd2,by omega⟩;constructor;unfold iW;have hm: -2500000<=wo r lo hi*fQ r/\wo r lo hi*fQ r<=2500000:=by
   have:fQ r = -1\/fQ r=0\/fQ r=1:=by omega
   rcases this with e|e|e<;>rw[e]<;>omega
 rw[fV (a:=wo r lo hi*fQ r) (by omega) (by omega),fV (by omega) (by omega)];omega;unfold lX;rw[fV (a:=Cf r lo hi-wo r lo hi) (by omega) (by omega),fV (by omega) (by omega)];omega
theorem uI{r:List Int}(iP:lH r)(C7: -1<=fQ r)(F9:fQ r<=1)(NW:0<=lW r)(YH:lW r<=2500000)(wD: -64<=lo/\lo<=100)(UK: -64<=hi/\hi<=100)(h:¬ Cf r lo hi<wo r lo hi) :
   (-8388608<=iW r (wo r lo hi)/\iW r (wo r lo hi)<=8388608)/\(0<=lX (wo r lo hi) (Cf r lo hi)/\lX (wo r lo hi) (Cf r lo hi)<=1000):=by
 obtain⟨⟨h1,h2,h3⟩,_⟩:=D2 iP C7 F9 NW YH wD UK h;exact⟨h1,h2,by omega⟩
set_option maxHeartbeats 8000000 in
theorem abx(hr:gX){W w0:World}{br lL bo g cap:Nat}{r:List Int}{x0 y0 x1 y1:Int}{v:Value}{rows:List (List Int)}(h:LoopIn W w0 br lL bo g cap r x0 y0 x1 y1 v rows)(iP:lH r){ahead:Int}(hlen:rows.length<=1000)
   (h4: -64<=x0/\x0<=100) (h5: -64<=y0/\y0<=100) (h6: -64<=x1/\x1<=100) (h7: -64<=y1/\y1<=100) {R:List (List Int)} (hR:R=rows++oh r x0 y0 x1 y1 ahead) {t0 t1 t2 t3 t4 t6 t10 t11 t12 t13 t14 t15 t16 t17 t18 t19 t20 t21 t22 t23 t24 t25 t26 t27 t28 t29 t30 t31 t32 t33 t34 t35 t36 t37 t38 t39 t40 t41 t42 t43 t44 t45 t46 t47 t48 t49 t50 t51 t52 t53 t54 t55 t56 t57 t58 t59 t60 t61 t62 t63 t64 t65 t66 t67 t68 t69 t70 t71 t72 t73 t74 t75 t76 t77 t78 t79 t80 t81 t82 t83 t84 t85 t86 t87 t88 t89 t90 t91 t92 t93 t94 t95 t96 t97 t98 t99 t100 t101 t102 t103 t104 t105 t106 t107 t108 t109 t110 t111 t112 t113 t114 t115 t116 t117 t118 t119 t120 t121 t122 t123 t124 t125 t126 t127 t128 t129 t130 t131 t132 t133 t134 t135 t136 t137 t138 t139 t140 t141 t142 t143 t144 t145 t146 t147 t148 t149 t150 t151 t152 t153 t154 t155 t156 t157 t158 t159:Value} :
   JP.wpIn Fence.wide 5 Tryz.prog (Al w0 R)
     {tmps:=#[t0,t1,t2,t3,t4,.pointer (some ⟨br,0,none⟩),t6,.pointer (some ⟨lL,0,none⟩),.pointer (some ⟨bo,0,none⟩),.int .i64 ahead,t10,t11,t12,t13,t14,t15,t16,t17,t18,t19,t20,t21,t22,t23,t24,t25,t26,t27,t28,t29,t30,t31,t32,t33,t34,t35,t36,t37,t38,t39,t40,t41,t42,t43,t44,t45,t46,t47,t48,t49,t50,t51,t52,t53,t54,t55,t56,t57,t58,t59,t60,t61,t62,t63,t64,t65,t66,t67,t68,t69,t70,t71,t72,t73,t74,t75,t76,t77,t78,t79,t80,t81,t82,t83,t84,t85,t86,t87,t88,t89,t90,t91,t92,t93,t94,t95,t96,t97,t98,t99,t100,t101,t102,t103,t104,t105,t106,t107,t108,t109,t110,t111,t112,t113,t114,t115,t116,t117,t118,t119,t120,t121,t122,t123,t124,t125,t126,t127,t128,t129,t130,t131,t132,t133,t134,t135,t136,t137,t138,t139,t140,t141,t142,t143,t144,t145,t146,t147,t148,t149,t150,t151,t152,t153,t154,t155,t156,t157,t158,t159],defers:=[] } W:=by
 simp only[JP,behind,lI,Tryz.f169,Option.getD,Nat.beq,jU,if_false,if_true];have Ud:Tryz.prog.follows .mixedOrders=true:=by kernel_rfl
 have hw0:=h.FY.cell;have JM:=h.wd
 gi_upto_if 65 with(refine⟨trivial,?_⟩;gi_at_call 210;refine(callsIn_wide.2 (D0 hr JM h.vz iP).2).mono ?_;rintro e w1 ⟨rfl,yb⟩;have h1:=h.on yb;have hw1:=h1.FY.cell;have Yy:=h1.vz.bool 9 rfl)
 gi_cut [12]from 66 (fun s wc=>s = .int .i64 (nR r)/\wc=w1)
 case first=>
   rename_i J K' hJ YI;have hnR:nR r=if qb r 9 then wrap64 (lW r-1)else lW r:=rfl
   cases h9:qb r 9 with
   | false=>
     rw[h9]at Yy hnR;simp only[h9]at hJ
     gi_wp2
     refine Met.intro (hJ _ _ ?_)
     (repeat apply Exists.intro)
     refine⟨?_,rfl⟩;exact⟨by rw[hnR];rfl,rfl⟩
   | true=>
     rw[h9]at Yy hnR;simp only[h9]at hJ
     gi_wp2
     refine Met.intro (hJ _ _ ?_)
     (repeat apply Exists.intro)
     refine⟨?_,rfl⟩;exact⟨by rw[hnR];rfl,rfl⟩
 case rest=>
   obtain⟨rfl,rfl⟩:=hcut;clear Yy;have c0:wc.cell? ⟨br,0,none⟩=some (.int .i64 x0):=by simp[World.cell?,h1.eQ]
   have c1:wc.cell? ⟨br,1,none⟩=some (.int .i64 y0):=by simp[World.cell?,h1.eQ]
   have c2:wc.cell? ⟨br,2,none⟩=some (.int .i64 x1):=by simp[World.cell?,h1.eQ]
   have c3:wc.cell? ⟨br,3,none⟩=some (.int .i64 y1):=by simp[World.cell?,h1.eQ]
   have h14:=h1.vz.bool 4 rfl
   gi_wp2
   gi_region
   gi_upto_if 75 with fail
   gi_cut [13,14]from 76 (fun s t w2=>s = .int .i64 (lF r x0 y0)/\t = .int .i64 (lF r x1 y1)/\LoopIn w2 w0 br lL bo g cap r x0 y0 x1 y1 v rows)
   case first=>
     rename_i J K' hJ YI;have wD:∀a b,lF r a b=if qb r 4 then b else a:=fun _ _=>rfl
     cases hq:qb r 4 with
     | false=>
       rw[hq]at h14;simp only[hq]at hJ
       gi_wp2
       refine Met.intro (hJ _ _ ?_)
       (repeat apply Exists.intro)
       refine⟨?_,rfl⟩;exact⟨by rw[wD,hq];rfl,by rw[wD,hq];rfl,h1.on (Below.refl _ _).drew⟩
     | true=>
       rw[hq]at h14;simp only[hq]at hJ;have c1':wc.drew.cell? ⟨br,1,none⟩=some (.int .i64 y0):=c1;have c3':wc.drew.cell? ⟨br,3,none⟩=some (.int .i64 y1):=c3
       gi_wp2
       gi_region
       gi_wp2
       refine Met.intro (hJ _ _ ?_)
       (repeat apply Exists.intro)
       refine⟨?_,rfl⟩;exact⟨by rw[wD,hq];rfl,by rw[wD,hq];rfl,h1.on ((Below.refl _ _).drew.drew)⟩
   case rest=>
     obtain⟨rfl,rfl,h2⟩:=hcut;clear c0 c1 c2 c3 h14 hw1 hw0;have hw2:=h2.FY.cell;have hf2:=h2.vz.int 6 rfl;have h2d:=h2.on (Below.refl _ _).drew;have wd2:=h2d.wd;have RI:=h2d.vz;obtain⟨W2,rfl⟩:∃W2,W2=wc:=⟨_,rfl⟩;generalize afP:lF r x0 y0=lo at *;generalize afQ:lF r x1 y1=hi at *;have anD:W2.drew.cell? ⟨lL,0,none⟩=some (.pointer (some ⟨g,0,none⟩)):=hw2
     gi_upto_region 17 with fail
     gi_cut [15,16]from 80 (fun s t w2=>s = .int .i64 (wrap64 (lo-qq r 6))/\t = .int .i64 (wrap64 (wrap64 (hi-1)-qq r 6))/\w2=W2.drew)
     case first=>
       rename_i J K' hJ YI;refine p8 ?_
       first|gi_region_with_o fail|fail
       all_goals (refine YI _ _ (Met.intro (hJ _ _ ?_));(repeat apply Exists.intro);refine⟨?_,rfl⟩;exact⟨by simp only[NL],by simp only[NL],rfl⟩)
     case rest=>
     obtain⟨rfl,rfl,rfl⟩:=hcut
     gi_upto_if 95 with(refine⟨trivial,?_⟩;gi_at_call 211;refine(callsIn_wide.2 (uQ hr wd2 RI iP).2).mono ?_;rintro e w3 ⟨rfl,hb3⟩;have h3:=h2d.on hb3;have hw3:=h3.FY.cell;have hf3:=h3.vz.int 6 rfl)
     gi_cut [15,16]from 96 (fun s t w2=>s = .int .i64 (if fQ r<0 then wrap64 (wrap64 (qq r 6-hi)+1)else wrap64 (lo-qq r 6))/\t = .int .i64 (if fQ r<0 then wrap64 (qq r 6-lo)else wrap64 (wrap64 (hi-1)-qq r 6))/\LoopIn w2 w0 br lL bo g cap r x0 y0 x1 y1 v rows)
     case first=>
       rename_i J K' hJ YI;by_cases hs:fQ r<0
       . rw[if_pos hs,if_pos hs]at hJ
         gi_upto_region 19 with fail
         have L:=@RN w3 lL g (qq r 6) lo hi hw3 hf3;simp only[RM,lJ,Tryz.f169,Option.getD,Nat.beq,jU,if_false,if_true,vM,nM,List.headD]at L;refine L ?_;clear L;intro RP v97 v98 v99 anE anF anG anH aaY v105 anI v107 anJ
         gi_wp2
         refine Met.intro (hJ _ _ ?_)
         (repeat apply Exists.intro)
         refine⟨?_,rfl⟩;exact⟨rfl,rfl,h3.on (Below.refl _ _).drew⟩
       . rw[if_neg hs,if_neg hs]at hJ
         gi_wp2
         refine Met.intro (hJ _ _ ?_)
         (repeat apply Exists.intro)
         refine⟨?_,rfl⟩;exact⟨rfl,rfl,h3⟩
     case rest=>
       obtain⟨rfl,rfl,YK⟩:=hcut;have hv4:=YK.Cg.cell
       gi_upto_if 117 with fail
       have eb:max (if fQ r<0 then wrap64 (wrap64 (qq r 6-hi)+1)else wrap64 (lo-qq r 6)) 0=wo r lo hi:=rfl;have ee:min (if fQ r<0 then wrap64 (qq r 6-lo)else wrap64 (wrap64 (hi-1)-qq r 6)) (wrap64 (nR r-1))=Cf r lo hi:=rfl;rw[eb,ee];have aby: -64<=lo/\lo<=100:=by rw[<- afP];unfold lF;split<;>omega
       have abz: -64<=hi/\hi<=100:=by rw[<- afQ];unfold lF;split<;>omega
       have hRm:oh r x0 y0 x1 y1 ahead=if wo r lo hi>Cf r lo hi then []else mO r x0 y0 x1 y1 ahead (wo r lo hi) (Cf r lo hi):=by unfold oh;rw[afP,afQ]
       obtain⟨C7,F9⟩:=(uQ hr YK.wd YK.vz iP).1;obtain⟨NW,YH⟩:=(D0 hr YK.wd YK.vz iP).1;by_cases Xh:Cf r lo hi<wo r lo hi
       . rw[if_pos Xh]at hRm;rw[hRm,vM]at hR;subst hR;refine wpIn_cond_true (show Value.bool (decide (Cf r lo hi<wo r lo hi))=_ by rw[ja Xh]) ?_
         gi_wp2
         all_goals exact⟨_,results_tmp rfl _ _ _,v,rfl,YK.below,YK.own⟩
       rw[if_neg Xh]at hRm;obtain⟨Ob,ur⟩:=uI iP C7 F9 NW YH aby abz Xh;rename_i K1 a1;rw[hRm]at hR;subst hR;refine wpIn_cond_false (show Value.bool (decide (Cf r lo hi<wo r lo hi))=_ by rw[decide_eq_false Xh]) (wpIn_skip ?_);have T:=@Xf hr wc w0 br lL bo g cap r x0 y0 x1 y1 v rows YK iP ahead (wo r lo hi) (Cf r lo hi) Ob ur hlen ⟨by omega,by omega⟩ ⟨by omega,by omega⟩ ⟨by omega,by omega⟩ ⟨by omega,by omega⟩;simp only[pZ,behind,lI,Tryz.f169,Option.getD,Nat.beq,jU,if_false,if_true]at T;exact a1 _ _ T
end
section
open Go.Sx Go.RowKit Go.Shelf Go Xa
variable{w:World}{x0 x1 y0 a0 b0:Int}{W:World}{g:Nat}
attribute [local go_sem] Oper.semAt_some
noncomputable def jI(a0 a1 b0 b1 x0 y0 x1 y1:Int):List (List Int):=
 if a0=b0/\a1=b1\/nw x0 y0 x1 y1=false then []
 else gN (xv a0 a1 b0 b1) x0 y0 x1 y1++oh (xv a0 a1 b0 b1) x0 y0 x1 y1 (if qb (xv a0 a1 b0 b1) 8 then 1 else 0)
theorem LoopIn.app{w0 w2 w3:World}{br lL bo cap:Nat}{r:List Int}{y1 a b c:Int}{v2 v3:Value}{D1:List (List Int)}{tmp:Obj}
   (jb:LoopIn w2 w0 br lL bo g cap r x0 y0 x1 y1 v2 D1) (qZ:(w2.alloc tmp).grownBy w3 v2.ownBlock) (bR:w3.ownsRow w0.heap.size 276 3 v3 (D1.length+1) (aJ [i6,i6,i6] D1++[.int .i64 a,.int .i64 b,.int .i64 c])) :
   LoopIn (w3.setCell ⟨bo,0,none⟩ v3) w0 br lL bo g cap r x0 y0 x1 y1 v3 (D1++[[a,b,c]]):=by
 have vK:=jb.below.size;obtain⟨Ur,XP,Ux,vq,vL⟩:=jb.Cg.appended (by decide) jb.own vK jb.Up bR qZ;obtain⟨csg,zg,pn⟩:=jb.vz.2.2;have kwy:Boxed (w3.setCell ⟨bo,0,none⟩ v3) lL 319 _:=((jb.FY.alloc tmp).kept qZ (jb.FY.not_row (by decide) jb.own)).other (mR jb.FY jb.Cg (by decide)) _;have F6:∀k,k<w2.heap.size->some k≠v2.ownBlock->k≠bo->(w3.setCell ⟨bo,0,none⟩ v3).heap[k]?=w2.heap[k]? :=fun k hk h1 h2=>
   (Below.heap_setCell _ _ _ k h2).trans ((qZ.block k (by simp;omega) h1).trans (Below.heap_alloc _ _ _ hk))
 have sB:=F6 br (sy.1 jb.eQ).1 (mD jb.eQ (by decide) jb.own) (Ne.symm (fa jb.Cg jb.eQ (by decide)));have hgg:=F6 g jb.vz.1 (mD pn (by decide) jb.own) (Ne.symm (fa jb.Cg pn (by decide)));refine⟨jb.JM,jb.below.trans vL,jb.Up,XP,?_,kwy,jb.vz.fT vq.size hgg,sB.trans jb.eQ⟩;rw[H3,fE];exact Ux
structure B3(w W:World)(a0 a1 b0 b1 x0 y0 x1 y1:Int):Prop where
 JM:Wd w
 below:Below w.heap.size w W
 ha:W.heap[w.heap.size]?=some (.cells #[.int .i64 a0,.int .i64 a1] 23 (0,0))
 hb:W.heap[w.heap.size+1]?=some (.cells #[.int .i64 b0,.int .i64 b1] 23 (0,0))
 eQ:W.heap[w.heap.size+1+1]?=some (.cells #[.int .i64 x0,.int .i64 y0,.int .i64 x1,.int .i64 y1] 54 (0,0))
theorem B3.wd{a1 b1 y1:Int}(h:B3 w W a0 a1 b0 b1 x0 y0 x1 y1):Wd W:=BZ _ _ h.JM h.below
theorem B3.on{W':World}{a1 b1 y1:Int}(h:B3 w W a0 a1 b0 b1 x0 y0 x1 y1)(hb:Below W.heap.size W W'):B3 w W' a0 a1 b0 b1 x0 y0 x1 y1:=
 ⟨h.JM,h.below.trans (hb.mono h.below.size),(hb.block _ (sy.1 h.ha).1).trans h.ha,(hb.block _ (sy.1 h.hb).1).trans h.hb,(hb.block _ (sy.1 h.eQ).1).trans h.eQ⟩
theorem B3.start(hw:Wd w)(a0 a1 b0 b1 x0 y0 x1 y1:Int):B3 w (((w.alloc (.cells #[.int .i64 a0,.int .i64 a1] 23)).alloc (.cells #[.int .i64 b0,.int .i64 b1] 23)).alloc (.cells #[.int .i64 x0,.int .i64 y0,.int .i64 x1,.int .i64 y1] 54)) a0 a1 b0 b1 x0 y0 x1 y1:=by
 refine⟨hw,(((Below.refl _ _).alloc (ga _) _).alloc (by simp) _).alloc (by simp;omega) _,?_,?_,?_⟩;exact(Below.heap_alloc _ _ _ (by simp;omega)).trans ((Below.heap_alloc _ _ _ (by simp)).trans (World.alloc_heap_new _ _));have:=World.alloc_heap_new (w.alloc (.cells #[.int .i64 a0,.int .i64 a1] 23)) (.cells #[.int .i64 b0,.int .i64 b1] 23);rw[World.size_alloc]at this;exact(Below.heap_alloc _ _ _ (by simp)).trans this;have:=World.alloc_heap_new ((w.alloc (.cells #[.int .i64 a0,.int .i64 a1] 23)).alloc (.cells #[.int .i64 b0,.int .i64 b1] 23)) (.cells #[.int .i64 x0,.int .i64 y0,.int .i64 x1,.int .i64 y1] 54);rwa[World.size_alloc,World.size_alloc]at this
theorem LoopIn.start{a1 b1 y1:Int}(h:B3 w W a0 a1 b0 b1 x0 y0 x1 y1){cap:Nat}{r:List Int}(hw:jX W g cap r):LoopIn ((W.alloc (.cells #[.pointer (some ⟨g,0,none⟩)] 319)).alloc (.cells #[.slice none 0 0] 272)) w (w.heap.size+1+1) W.heap.size (W.heap.size+1) g cap r x0 y0 x1 y1 (.slice none 0 0) []:=by
 have vK:=h.below.size;have hb:Below W.heap.size W ((W.alloc (.cells #[.pointer (some ⟨g,0,none⟩)] 319)).alloc (.cells #[.slice none 0 0] 272)):=((Below.refl _ _).alloc (ga _) _).alloc (by simp) _;refine⟨h.JM,h.below.trans (hb.mono vK),by omega,?_,World.ownsRow_nil _ _ _ _,(Boxed.new W 319 _).alloc _,hw.below hb,(hb.block _ (sy.1 h.eQ).1).trans h.eQ⟩;have:=Boxed.new (W.alloc (.cells #[.pointer (some ⟨g,0,none⟩)] 319)) 272 (.slice none 0 0);rwa[World.size_alloc]at this
set_option maxHeartbeats 8000000 in
theorem NN(hr:gX)(hw:Wd w){a1 b1 y1:Int}(h0: -268500000<=a0/\a0<=268500000)(h1: -268500000<=a1/\a1<=268500000)(h2: -268500000<=b0/\b0<=268500000)(h3: -268500000<=b1/\b1<=268500000)
   (h4: -64<=x0/\x0<=100) (h5: -64<=y0/\y0<=100) (h6: -64<=x1/\x1<=100) (h7: -64<=y1/\y1<=100) :
   Calls Tryz.prog 169 #[.agg #[.int .i64 a0,.int .i64 a1],.agg #[.int .i64 b0,.int .i64 b1],.agg #[.int .i64 x0,.int .i64 y0,.int .i64 x1,.int .i64 y1]] w fun e W'=>∃v',e = .returned v'/\Below w.heap.size w W'/\W'.ownsRow w.heap.size 276 3 v' (jI a0 a1 b0 b1 x0 y0 x1 y1).length (aJ [i6,i6,i6] (jI a0 a1 b0 b1 x0 y0 x1 y1)):=by
 obtain⟨R,hR⟩:∃R,jI a0 a1 b0 b1 x0 y0 x1 y1=R:=⟨_,rfl⟩;rw[hR];refine(callsIn_wide (n:=5)).1 ?_;refine callsIn_of_wp_marks Tryz.func169 rfl trivial ?_;simp only[Tryz.ntmps169,List.size_toArray,pf,List.length_nil,Nat.reduceAdd,Nat.reduceSub,Array.replicate_succ,Array.replicate_zero,List.push_toArray,List.append_toArray,nM,sR];have sA:gR x0:=⟨by omega,by omega⟩;have J2:gR y0:=⟨by omega,by omega⟩;have P4:gR x1:=⟨by omega,by omega⟩;have Xc:gR y1:=⟨by omega,by omega⟩
 gi_upto_region 1 with fail
 gi_cut [29]from 22 (fun f wc=>f = .bool (decide (a0=b0/\a1=b1) || !(nw x0 y0 x1 y1))/\B3 w wc a0 a1 b0 b1 x0 y0 x1 y1)
 case first=>
   rename_i J K' hJ YI;have m3:B3 w (((w.alloc (.cells #[.int .i64 a0,.int .i64 a1] 23)).alloc (.cells #[.int .i64 b0,.int .i64 b1] 23)).alloc (.cells #[.int .i64 x0,.int .i64 y0,.int .i64 x1,.int .i64 y1] 54)) a0 a1 b0 b1 x0 y0 x1 y1:=B3.start hw _ _ _ _ _ _ _ _;have wd3:=m3.wd;by_cases ea:a0=b0
   . subst ea;by_cases eb:a1=b1
     . subst eb
       gi_wp2
       refine⟨trivial,?_⟩
       gi_wp2
       refine Met.intro (hJ _ _ ?_);(repeat apply Exists.intro);refine⟨?_,rfl⟩;exact⟨by simp,m3⟩
     . gi_wp2_with (refine⟨trivial,?_⟩;gi_at_call 65;refine(callsIn_wide.2 (BX hr wd3 sA J2 P4 Xc)).mono ?_;rintro e w1 ⟨rfl,yb⟩)
       refine Met.intro (hJ _ _ ?_);(repeat apply Exists.intro);refine⟨?_,rfl⟩;exact⟨by simp[eb],m3.on yb⟩
   . gi_wp2_with (refine⟨trivial,?_⟩;gi_at_call 65;refine(callsIn_wide.2 (BX hr wd3 sA J2 P4 Xc)).mono ?_;rintro e w1 ⟨rfl,yb⟩)
     refine Met.intro (hJ _ _ ?_);(repeat apply Exists.intro);refine⟨?_,rfl⟩;exact⟨by simp[ea],m3.on yb⟩
 case rest=>
   obtain⟨rfl,m3⟩:=hcut;by_cases hq:a0=b0/\a1=b1\/nw x0 y0 x1 y1=false
   . have hqb:(decide (a0=b0/\a1=b1) || !(nw x0 y0 x1 y1))=true:=by
       rcases hq with h|h;rw[ja h];rfl;rw[h];simp
     have uZ:R=[]:=by rw[<- hR];unfold jI;rw[if_pos hq]
     rw[hqb]
     gi_wp2
     exact⟨_,results_tmp rfl _ _ _,_,rfl,m3.below,by rw[uZ];exact World.ownsRow_nil _ _ _ _⟩
   . have hqb:(decide (a0=b0/\a1=b1) || !(nw x0 y0 x1 y1))=false:=by
       rw[vF,sO,Bool.not_eq_false'];exact⟨fun h=>hq (Or.inl h),by cases h:nw x0 y0 x1 y1 with|true=>rfl|false=>exact absurd (Or.inr h) hq⟩
     rw[hqb];have wdc:=m3.wd;have c0:wc.cell? ⟨w.heap.size,0,none⟩=some (.int .i64 a0):=by simp[World.cell?,m3.ha]
     have c1:wc.cell? ⟨w.heap.size,1,none⟩=some (.int .i64 a1):=by simp[World.cell?,m3.ha]
     have c2:wc.cell? ⟨w.heap.size+1,0,none⟩=some (.int .i64 b0):=by simp[World.cell?,m3.hb]
     have c3:wc.cell? ⟨w.heap.size+1,1,none⟩=some (.int .i64 b1):=by simp[World.cell?,m3.hb]
     obtain⟨iP,pJ⟩:=RF hr wdc h0 h1 h2 h3 (fun h=>hq (Or.inl h));have wB:Below w.heap.size w wc:=m3.below
     gi_upto_region 6 with(refine⟨trivial,?_⟩;gi_at_call 207;refine(callsIn_wide.2 pJ).mono ?_;rintro e w4 ⟨g,cap,rfl,hb4,hg4,afN⟩;clear pJ)
     have wD:LoopIn ((w4.alloc (.cells #[.pointer (some ⟨g,0,none⟩)] 319)).alloc (.cells #[.slice none 0 0] 272)) w (w.heap.size+1+1) w4.heap.size (w4.heap.size+1) g cap (xv a0 a1 b0 b1) x0 y0 x1 y1 (.slice none 0 0) []:=LoopIn.start (m3.on hb4) afN;clear c0 c1 c2 c3 hb4 afN;generalize hW5:(w4.alloc (.cells #[.pointer (some ⟨g,0,none⟩)] 319)).alloc (.cells #[.slice none 0 0] 272)=W5 at *;generalize hr4:xv a0 a1 b0 b1=r at *;have hw5:=wD.FY.cell;have h58:=wD.vz.bool 8 rfl
     gi_upto_if 36 with fail
     gi_cut [9]from 37 (fun s wc=>s = .int .i64 (if qb r 8 then 1 else 0)/\∃v,LoopIn wc w (w.heap.size+1+1) w4.heap.size (w4.heap.size+1) g cap r x0 y0 x1 y1 v (gN r x0 y0 x1 y1))
     case first=>
       rename_i J K' hJ YI;cases h8:qb r 8 with
       | false=>
         rw[h8]at h58;simp only[h8]at hJ
         gi_wp2
         refine Met.intro (hJ _ _ ?_)
         (repeat apply Exists.intro)
         refine⟨?_,rfl⟩;exact⟨by simp,_,by rw[show gN r x0 y0 x1 y1=[]by unfold gN;rw[h8];rfl];exact wD⟩
       | true=>
         rw[h8]at h58;simp only[h8]at hJ;have hd:=wD.on (Below.refl _ _).drew;have h54:W5.drew.cell? ⟨g,4,none⟩=some (.bool (qb r 4)):=wD.vz.bool 4 rfl;have Yx:=wD.vz.int 10 rfl;have h11:=wD.vz.int 11 rfl;have Ud:Tryz.prog.follows .mixedOrders=true:=by kernel_rfl
         gi_upto_region 8 with fail
         have L8:=@Xg W5 w4.heap.size g (qb r 4) (qq r 10) (qq r 11) hw5 h54 Yx h11;simp only[abw,lJ,Tryz.f169,Option.getD,Nat.beq,jU,if_false,if_true,vM,nM,List.headD]at L8;refine L8 ?_;clear L8;intro v37 v38 v39 v40 v41 v42 v43 v44 v45 v46 v47 v48 v49;have am6: -1200000<=qq r 10/\qq r 10<=1200000:=iP.in_.2.2.2.2.2.2.2.2.2.2.1;have am7: -1200000<=qq r 11/\qq r 11<=1200000:=iP.in_.2.2.2.2.2.2.2.2.2.2.2.1;obtain⟨hpx,hpy⟩:=Ly (t:=qb r 4) (u:=qq r 10) (v:=qq r 11) ⟨by omega,by omega⟩ ⟨by omega,by omega⟩;have YJ:gN r x0 y0 x1 y1=if og x0 y0 x1 y1 (px (qb r 4) (qq r 10) (qq r 11)) (py (qb r 4) (qq r 10) (qq r 11))=true then [[0,px (qb r 4) (qq r 10) (qq r 11),py (qb r 4) (qq r 10) (qq r 11)]]else []:=by unfold gN;rw[h8];rfl
         have wdd:=hd.wd;have c0:W5.drew.cell? ⟨w.heap.size+1+1,0,none⟩=some (.int .i64 x0):=by simp[World.cell?,hd.eQ]
         have c1:W5.drew.cell? ⟨w.heap.size+1+1,1,none⟩=some (.int .i64 y0):=by simp[World.cell?,hd.eQ]
         have c2:W5.drew.cell? ⟨w.heap.size+1+1,2,none⟩=some (.int .i64 x1):=by simp[World.cell?,hd.eQ]
         have c3:W5.drew.cell? ⟨w.heap.size+1+1,3,none⟩=some (.int .i64 y1):=by simp[World.cell?,hd.eQ]
         have aaF:(4000:Nat)<=maxLen:=by decide
         obtain⟨i0,hi,NW,YH,hz2⟩:=info_parts LA;generalize px (qb r 4) (qq r 10) (qq r 11)=pX at *;generalize py (qb r 4) (qq r 10) (qq r 11)=pY at *
         gi_wp2_with (first
           |(refine⟨trivial,?_⟩;gi_at_call 168;refine(callsIn_wide.2 (H0 hr wdd sA J2 P4 Xc hpx hpy).2).mono ?_;rintro e w6 ⟨rfl,hb6⟩;have RL:=hd.on hb6;clear c0 c1 c2 c3 hw5 h58 h54 Yx h11;have anC:=RL.Cg.cell)
           |(gi_at_builtin;refine wpListIn_append_own _ rfl _ _ 272 rfl w.heap.size 276 i0 (.agg #[.int .i64 0,.int .i64 0,.int .i64 0]) 3 24 Tryz.underlying272 hi NW YH hz2 rfl (by decide) _ _ _ rfl (RL.own.alloc _) ⟨w6.heap.size,0,none⟩ 1 1 [.int .i64 0,.int .i64 pX,.int .i64 pY] rfl rfl (zE _ _ _ _ _) (by simp[Value.oneCell']) (by simp;omega) (by simp) (by have:=RL.below.size;simp;omega) ?_;intro v3 w7 B2 yL _;obtain⟨g',qy,rfl⟩:=ownsRow_succ B2;obtain⟨Ur,XP,Ux,vq,am5⟩:=RL.Cg.appended (by decide) RL.own RL.below.size RL.Up B2 yL;have uu:=Ur.cell;have hf1:=Ur.frozen))
         all_goals (refine Met.intro (hJ _ _ ?_);(repeat apply Exists.intro);refine⟨?_,rfl⟩)
         refine⟨by simp,.slice (some ⟨g',0,none⟩) (([]:List (List Int)).length+1) qy,?_⟩;rw[YJ,if_pos (by assumption)];exact LoopIn.app RL yL B2;refine⟨by simp,.slice none 0 0,?_⟩;rw[YJ,show og x0 y0 x1 y1 pX pY=false by assumption,if_neg (by decide)];exact RL
     case rest=>
       obtain⟨rfl,v6,RL⟩:=hcut;rename_i K1 a1;have hlen:(gN r x0 y0 x1 y1).length<=1000:=by
         unfold gN;split;split<;>simp;simp
       have hR':R=gN r x0 y0 x1 y1++oh r x0 y0 x1 y1 (if qb r 8 then 1 else 0):=by rw[<- hR];unfold jI;rw[if_neg hq,hr4]
       have T:=@abx hr _ w (w.heap.size+1+1) w4.heap.size (w4.heap.size+1) g cap r x0 y0 x1 y1 v6 _ RL iP (if qb r 8 then 1 else 0) hlen h4 h5 h6 h7 R hR';simp only[JP,behind,lI,Tryz.f169,Option.getD,Nat.beq,jU,if_false,if_true]at T;exact a1 _ _ T
end
section
open Go.Sx Go.RowKit Go
def inP(n:Int):Bool:=decide (-268500000<=n)&&decide (n<=268500000)
def inS(n:Int):Bool:=decide (-64<=n)&&decide (n<=100)
theorem RQ{n:Int}:inP n=true↔-268500000<=n/\n<=268500000:=by simp[inP]
theorem RR{n:Int}:inS n=true↔-64<=n/\n<=100:=by simp[inS]
noncomputable def Bv:List DV->Option (List DV)
 | [.i a0,.i a1,.i b0,.i b1,.i x0,.i y0,.i x1,.i y1]=>
   if((inP a0&&inP a1)&&(inP b0&&inP b1))&&((inS x0&&inS y0)&&(inS x1&&inS y1))then some [.l (jI a0 a1 b0 b1 x0 y0 x1 y1)]else none
 |_=>none
theorem Xi:∀ds rs,Bv ds=some rs->kinds (bP B4.res) rs=true:=by
 intro ds rs h;unfold Bv at h;split at h;split at h<;>cases h;rfl;cases h
theorem abA(hr:gX):Has PP Wd 169 (FA B4 Bv):=by
 unfold Has;refine .inl ⟨fun w args=>eI Tryz.func169 rfl rfl w args,fun w vs ds hw ha hp=>?_⟩;obtain⟨rs,_,hx⟩:=hp;obtain⟨b9,rfl,hf⟩:=ha;unfold Bv at hx;split at hx;rename_i a0 a1 b0 b1 x0 y0 x1 y1;split at hx;rename_i hc;cases hx;have xh:=hc;simp only[ao,RQ,RR]at xh;obtain⟨⟨⟨h0,h1⟩,h2,h3⟩,⟨h4,h5⟩,h6,h7⟩:=xh
 match b9,hf with
 | [c0,c1,c2,c3,c4,c5,c6,c7],hf=>
   obtain⟨e0,e1,e2,e3,e4,e5,e6,e7,_⟩:=hf;simp only[lq]at e0 e1 e2 e3 e4 e5 e6 e7;subst e0;subst e1;subst e2;subst e3;subst e4;subst e5;subst e6;subst e7;refine(NN hr hw h0 h1 h2 h3 h4 h5 h6 h7).mono ?_;rintro e w' ⟨v,rfl,hb,bR⟩;refine⟨[v],[.l (jI a0 a1 b0 b1 x0 y0 x1 y1)],rfl,hb,⟨⟨by decide,bR⟩,trivial⟩,?_,?_⟩;intro i j u u' En hi hj
   match i,j,hi,hj with
   |0,0,_,_=>exact absurd rfl En
   |0,j+1,_,hj=>simp at hj
   |i+1,_,hi,_=>simp at hi
   show Bv _=_;simp only[Bv,hc,if_true]
 cases hx;cases hx
theorem LC{r:List Int}(iP:lH r):0<=lW r/\lW r<=2500000:=by
 have hp:(kh 210).il [.l [r]]:=by rw[WW];exact⟨⟨o0 iP,trivial⟩,fun p hp=>by cases hp⟩
 obtain⟨_,hq,_⟩:=pW (k:=210) (by decide) hp;rw[WW]at hq;unfold lW;generalize gv 210 [.l [r]]=rs at hq
 match rs,hq with
 | [.i n],hq=>exact hq.1
theorem LD{r:List Int}(iP:lH r): -1<=fQ r/\fQ r<=1:=by
 have hp:(kh 211).il [.l [r]]:=by rw[WX];exact⟨⟨o0 iP,trivial⟩,fun p hp=>by cases hp⟩
 obtain⟨_,hq,_⟩:=pW (k:=211) (by decide) hp;rw[WX]at hq;unfold fQ;generalize gv 211 [.l [r]]=rs at hq
 match rs,hq with
 | [.i n],hq=>exact hq.1
theorem NO{r:List Int}(iP:lH r){u:Int}(hu: -8388608<=u/\u<=8388608):gR (ka r u):=by
 have hp:(kh 251).il [.l [r],.i u]:=by
   rw[WY];refine⟨⟨o0 iP,hu,trivial⟩,fun p hp=>?_⟩;obtain rfl:p=_:=iE.1 hp;exact FW iP.ne
 obtain⟨_,hq,_⟩:=pW (k:=251) (by decide) hp;rw[WY]at hq;unfold ka;generalize gv 251 [.l [r],.i u]=rs at hq
 match rs,hq with
 | [.i n],hq=>
   have:=hq.1;exact⟨by have:=this.1;show -9223372036854775808<=n;omega,by have:=this.2;show n<=9223372036854775807;omega⟩
theorem abB{x0 y0 x1 y1 x y:Int}(h0:gR x0)(h1:gR y0)(h2:gR x1)(h3:gR y1)(h4:gR x)(h5:gR y)(h:og x0 y0 x1 y1 x y=true):(x0<=x/\x<x1)/\y0<=y/\y<y1:=by
 have hp:(kh 168).il [.i x0,.i y0,.i x1,.i y1,.i x,.i y]:=by
   rw[WZ];exact⟨⟨h0,h1,h2,h3,h4,h5,trivial⟩,fun p hp=>by cases hp⟩
 obtain⟨_,hq,vN⟩:=pW (k:=168) (by decide) hp;rw[WZ]at hq vN;unfold og at h;generalize hg:gv 168 [.i x0,.i y0,.i x1,.i y1,.i x,.i y]=rs at hq;rw[hg]at h vN
 match rs,hq with
 | [.b n],hq=>
   have h:n=true:=h;subst h;have Wa:=vN _ (iE.2 rfl);have:(!true||((decide (x0<=x)&&decide (x<x1))&&(decide (y0<=y)&&decide (y<y1))))=true:=Wa;simpa using this
theorem abC{a0 a1 b0 b1:Int}(h0: -268500000<=a0/\a0<=268500000)(h1: -268500000<=a1/\a1<=268500000)(h2: -268500000<=b0/\b0<=268500000)(h3: -268500000<=b1/\b1<=268500000)(da:¬(a0=b0/\a1=b1)):lH (xv a0 a1 b0 b1):=by
 have hp:(kh 207).il [.i a0,.i a1,.i b0,.i b1]:=by
   rw[WV];refine⟨⟨h0,h1,h2,h3,trivial⟩,fun p hp=>?_⟩;obtain rfl:p=_:=iE.1 hp;have:(decide (a0=b0)&&decide (a1=b1))=false:=by
     rw[OI,sO,sO];exact Classical.not_and_iff_not_or_not.1 da
   show(!(decide (a0=b0)&&decide (a1=b1)))=true;rw[this];rfl
 obtain⟨_,hq,vN⟩:=pW (k:=207) (by decide) hp;rw[WV]at hq vN;unfold xv;generalize hg:gv 207 [.i a0,.i a1,.i b0,.i b1]=rs at hq;rw[hg]at vN
 match rs,hq with
 | [d],hq=>
   obtain⟨r,rfl,bB⟩:=Lx hq.1;have Oq:=vN _ (iE.2 rfl);refine⟨bB,fun e=>?_⟩;have e':(decide (r.getD 2 0=r.getD 0 0))=true:=ja e;have:(!(decide (r.getD 2 0=r.getD 0 0)))=true:=Oq;rw[e']at this;cases this
def B5(row:List Int):Prop:=cR [(0,4000000),(-64,100),(-64,100)] 0 row
section
variable {x0 y0 x1 y1:Int}(h4: -64<=x0/\x0<=100)(h5: -64<=y0/\y0<=100)(h6: -64<=x1/\x1<=100)(h7: -64<=y1/\y1<=100)
theorem RS{x0:Int}{y0:Int}{x1:Int}{y1:Int}(h4: -64<=x0/\x0<=100)(h5: -64<=y0/\y0<=100)(h6: -64<=x1/\x1<=100)(h7: -64<=y1/\y1<=100){k x y:Int}(hk:0<=k/\k<=4000000)(hx:gR x)(hy:gR y)(h:og x0 y0 x1 y1 x y=true):B5 [k,x,y]:=by
 obtain⟨⟨e1,e2⟩,e3,e4⟩:=abB ⟨by omega,by omega⟩ ⟨by omega,by omega⟩ ⟨by omega,by omega⟩ ⟨by omega,by omega⟩ hx hy h;exact⟨hk,⟨by show -64<=x;omega,by show x<=100;omega⟩,⟨by show -64<=y;omega,by show y<=100;omega⟩,trivial⟩
theorem Xj{x0:Int}{y0:Int}{x1:Int}{y1:Int}(h4: -64<=x0/\x0<=100)(h5: -64<=y0/\y0<=100)(h6: -64<=x1/\x1<=100)(h7: -64<=y1/\y1<=100){r:List Int}(iP:lH r):(gN r x0 y0 x1 y1).length<=1/\∀row∈gN r x0 y0 x1 y1,B5 row:=by
 have am6: -1200000<=qq r 10/\qq r 10<=1200000:=iP.in_.2.2.2.2.2.2.2.2.2.2.1;have am7: -1200000<=qq r 11/\qq r 11<=1200000:=iP.in_.2.2.2.2.2.2.2.2.2.2.2.1;obtain⟨hpx,hpy⟩:=Ly (t:=qb r 4) (u:=qq r 10) (v:=qq r 11) ⟨by omega,by omega⟩ ⟨by omega,by omega⟩;unfold gN;by_cases h8:qb r 8=true;rw[if_pos h8];by_cases hh:og x0 y0 x1 y1 (px (qb r 4) (qq r 10) (qq r 11)) (py (qb r 4) (qq r 10) (qq r 11))=true;rw[if_pos hh];exact⟨ga _,fun row hm=>by rw[iE.1 hm];exact RS h4 h5 h6 h7 ⟨by omega,by omega⟩ hpx hpy hh⟩;rw[if_neg hh];exact⟨Nat.zero_le _,fun row hm=>by cases hm⟩;rw[if_neg h8];exact⟨Nat.zero_le _,fun row hm=>by cases hm⟩
theorem Xk{x0:Int}{y0:Int}{x1:Int}{y1:Int}(h4: -64<=x0/\x0<=100)(h5: -64<=y0/\y0<=100)(h6: -64<=x1/\x1<=100)(h7: -64<=y1/\y1<=100){r:List Int}(iP:lH r){ahead bg en:Int}(ha:0<=ahead/\ahead<=1)(hb:0<=bg/\bg<=2500000)(hu: -8388608<=iW r bg/\iW r bg<=8388608)(hm:0<=lX bg en/\lX bg en<=164) :
   (mO r x0 y0 x1 y1 ahead bg en).length<=164/\∀row∈mO r x0 y0 x1 y1 ahead bg en,B5 row:=by
 unfold mO;have hlen:(iL r (iW r bg) (lX bg en).toNat).length=(lX bg en).toNat:=by simp[iL]
 constructor;have:=xF (qb r 4) x0 y0 x1 y1 (wrap64 (ahead+bg)) (iL r (iW r bg) (lX bg en).toNat);omega;intro row bB;unfold eG at bB;obtain⟨i,hi,bB⟩:=List.mem_flatMap.1 bB;have hi:=tk.1 hi;unfold gO at bB;have L5:(iL r (iW r bg) (lX bg en).toNat)[i]?=some ((iL r (iW r bg) (lX bg en).toNat).getD i (0,0)):=by
   rw[cm,eN hi];rfl
 obtain⟨Nf,hp2⟩:=RH hu (NO iP hu) L5;generalize(iL r (iW r bg) (lX bg en).toNat).getD i (0,0)=p at *;obtain⟨hpx,hpy⟩:=Ly (t:=qb r 4) Nf hp2;by_cases hh:og x0 y0 x1 y1 (px (qb r 4) p.1 p.2) (py (qb r 4) p.1 p.2)=true;rw[if_pos hh]at bB;rw[iE.1 bB];have e1:wrap64 (ahead+bg)=ahead+bg:=fV (by omega) (by omega);have e2:wrap64 (ahead+bg+(i:Int))=ahead+bg+i:=fV (by omega) (by omega);rw[e1,e2];exact RS h4 h5 h6 h7 ⟨by omega,by omega⟩ hpx hpy hh;rw[if_neg hh]at bB;cases bB
theorem NP{x0:Int}{y0:Int}{x1:Int}{y1:Int}(h4: -64<=x0/\x0<=100)(h5: -64<=y0/\y0<=100)(h6: -64<=x1/\x1<=100)(h7: -64<=y1/\y1<=100){a0 a1 b0 b1:Int}(h0: -268500000<=a0/\a0<=268500000)(h1: -268500000<=a1/\a1<=268500000)(h2: -268500000<=b0/\b0<=268500000)(h3: -268500000<=b1/\b1<=268500000) :
   (jI a0 a1 b0 b1 x0 y0 x1 y1).length<=200/\∀row∈jI a0 a1 b0 b1 x0 y0 x1 y1,B5 row:=by
 unfold jI;by_cases hq:a0=b0/\a1=b1\/nw x0 y0 x1 y1=false;rw[if_pos hq];exact⟨Nat.zero_le _,fun row hm=>by cases hm⟩;rw[if_neg hq];have iP:=abC h0 h1 h2 h3 fun h=>hq (Or.inl h);generalize xv a0 a1 b0 b1=r at *;obtain⟨a1,a2⟩:=Xj h4 h5 h6 h7 iP;have aby: -64<=lF r x0 y0/\lF r x0 y0<=100:=by unfold lF;split<;>omega
 have abz: -64<=lF r x1 y1/\lF r x1 y1<=100:=by unfold lF;split<;>omega
 have hm:(oh r x0 y0 x1 y1 (if qb r 8 then 1 else 0)).length<=164/\∀row∈oh r x0 y0 x1 y1 (if qb r 8 then 1 else 0),B5 row:=by
   unfold oh;by_cases Xh:Cf r (lF r x0 y0) (lF r x1 y1)<wo r (lF r x0 y0) (lF r x1 y1);rw[if_pos Xh];exact⟨Nat.zero_le _,fun row hm=>by cases hm⟩;rw[if_neg Xh];obtain⟨⟨b1,b2⟩,b3⟩:=D2 iP (LD iP).1 (LD iP).2 (LC iP).1 (LC iP).2 aby abz Xh;exact Xk h4 h5 h6 h7 iP (by split<;>omega) b3 b1 b2
 obtain⟨m1,m2⟩:=hm;refine⟨by rw[fE];omega,fun row bB=>?_⟩;rcases jS.1 bB with h|h;exact a2 row h;exact m2 row h
end
theorem X':mN PP lK 169=none:=by kernel_rfl
theorem abD:kc 169=⟨[Pc,Pc,Pc,Pc,.i (-64) 100,.i (-64) 100,.i (-64) 100,.i (-64) 100],[],[.l 0 (some 200) [(0,4000000),(-64,100),(-64,100)]],[]⟩:=by kernel_rfl
theorem ani{X:bY}(hX:X 169=Bv):ng (mN PP lK) X 169 (kc 169).il (kc 169).iK:=by
 rw[abD];rintro ds ⟨ha,_⟩
 match ds,ha with
 | [.i a0,.i a1,.i b0,.i b1,.i x0,.i y0,.i x1,.i y1],ha=>
   obtain⟨h0,h1,h2,h3,h4,h5,h6,h7,_⟩:=ha;have h0: -268500000<=a0/\a0<=268500000:=h0;have h1: -268500000<=a1/\a1<=268500000:=h1;have h2: -268500000<=b0/\b0<=268500000:=h2;have h3: -268500000<=b1/\b1<=268500000:=h3;have h4: -64<=x0/\x0<=100:=h4;have h5: -64<=y0/\y0<=100:=h5;have h6: -64<=x1/\x1<=100:=h6;have h7: -64<=y1/\y1<=100:=h7;obtain⟨l1,l2⟩:=NP h4 h5 h6 h7 h0 h1 h2 h3;refine⟨[.l (jI a0 a1 b0 b1 x0 y0 x1 y1)],jG X' ?_,⟨⟨by omega,fun y e=>by cases e;omega,l2⟩,trivial⟩,fun p hp=>by cases hp⟩;rw[hX];simp only[Bv];rw[if_pos];simp only[ao,RQ,RR];exact⟨⟨⟨h0,h1⟩,h2,h3⟩,⟨h4,h5⟩,h6,h7⟩
noncomputable abbrev XF:bY:=XX Bv
theorem adL(hr:gX):Bg PP Wd (TT PP) XF Xd lD:=afR _ hr (abA hr) Xi
theorem h7F:nj (TT PP) XF kc (ord.take 7):=by
 intro j hj;have hj:j=283\/j=140\/j=243\/j=266\/j=87\/j=146\/j=169:=by simpa[ord]using hj
 rcases hj with rfl|rfl|rfl|rfl|rfl|rfl|rfl;exact ajc rfl;exact ai' rfl;exact aja rfl;exact ajb rfl;exact g87 rfl;exact aje rfl;exact ani rfl
end
end Go.Proofs.YtohebioanhliiaaGreatDoor.aN

/- walk.Within: whole. -/
import Derived.Test.YtohebioanhliiaaGreatDoorBG3
set_option maxRecDepth 100000
set_option linter.unusedVariables false
set_option linter.unusedSimpArgs false
set_option maxRecDepth 20000
namespace Go.Proofs.YtohebioanhliiaaGreatDoor.aw
section
open Go.Sx Go.RowKit Go.Shelf Go TG
attribute [local go_sem] Oper.semAt_some
noncomputable def du(r:List Int)(x0 y0 x1 y1:Int):List (List Int):=
 if qb r 8 then(if k5 x0 y0 x1 y1 (px (qb r 4) (qq r 10) (qq r 11)) (py (qb r 4) (qq r 10) (qq r 11))then [[0,px (qb r 4) (qq r 10) (qq r 11),py (qb r 4) (qq r 10) (qq r 11)]]else [])else []
noncomputable def nR(r:List Int):Int:=if qb r 9 then wrap64 (iN r-1)else iN r
def dN(r:List Int)(x0 y0:Int):Int:=if qb r 4 then y0 else x0
noncomputable def qc(r:List Int)(lo hi:Int):Int:=max (if eo r<0 then wrap64 (wrap64 (qq r 6-hi)+1)else wrap64 (lo-qq r 6)) 0
noncomputable def uO(r:List Int)(lo hi:Int):Int:=min (if eo r<0 then wrap64 (qq r 6-lo)else wrap64 (wrap64 (hi-1)-qq r 6)) (wrap64 (nR r-1))
noncomputable def Hr:Code:=behind 11 40 (Tryz.f169.body.getD .skip)
noncomputable def gH(r:List Int)(x0 y0 x1 y1 ahead:Int):List (List Int):=
 if qc r (dN r x0 y0) (dN r x1 y1)>uO r (dN r x0 y0) (dN r x1 y1)then []else jK r x0 y0 x1 y1 ahead (qc r (dN r x0 y0) (dN r x1 y1)) (uO r (dN r x0 y0) (dN r x1 y1))
theorem BS{r:List Int}(dy:fA r)(A8: -1<=eo r)(AY:eo r<=1)(Lg:0<=iN r)(U8:iN r<=2500000){lo hi:Int}(qf: -64<=lo/\lo<=100)(Fx: -64<=hi/\hi<=100)(h:¬ uO r lo hi<qc r lo hi) :
   ((-8388608<=fO r (qc r lo hi)/\fO r (qc r lo hi)<=8388608)/\(0<=gU (qc r lo hi) (uO r lo hi)/\gU (qc r lo hi) (uO r lo hi)<=164))/\0<=qc r lo hi/\qc r lo hi<=2500000:=by
 have hq: -1200000<=qq r 6/\qq r 6<=1200000:=dy.Rs.2.2.2.2.2.2.1;have hn: -1<=nR r/\nR r<=2500000:=by
   unfold nR;split;rw[cA (by omega) (by omega)];omega;omega
 have hw:wrap64 (nR r-1)=nR r-1:=cA (by omega) (by omega);have hd:uO r lo hi-qc r lo hi<=163/\0<=qc r lo hi/\uO r lo hi<=2500000:=by
   unfold uO qc;rw[hw];by_cases hs:eo r<0;rw[if_pos hs,if_pos hs,cA (a:=qq r 6-hi) (by omega) (by omega),cA (a:=qq r 6-hi+1) (by omega) (by omega),cA (a:=qq r 6-lo) (by omega) (by omega)];omega;rw[if_neg hs,if_neg hs,cA (a:=hi-1) (by omega) (by omega),cA (a:=lo-qq r 6) (by omega) (by omega),cA (a:=hi-1-qq r 6) (by omega) (by omega)];omega
 obtain⟨xD,hd2,hd3⟩:=hd;refine⟨?_,hd2,by omega⟩;constructor;unfold fO;have hm: -2500000<=qc r lo hi*eo r/\qc r lo hi*eo r<=2500000:=by
   have:eo r = -1\/eo r=0\/eo r=1:=by omega
   rcases this with e|e|e<;>rw[e]<;>omega
 rw[cA (a:=qc r lo hi*eo r) (by omega) (by omega),cA (by omega) (by omega)];omega;unfold gU;rw[cA (a:=uO r lo hi-qc r lo hi) (by omega) (by omega),cA (by omega) (by omega)];omega
theorem sk{r:List Int}(dy:fA r)(A8: -1<=eo r)(AY:eo r<=1)(Lg:0<=iN r)(U8:iN r<=2500000){lo hi:Int}(qf: -64<=lo/\lo<=100)(Fx: -64<=hi/\hi<=100)(h:¬ uO r lo hi<qc r lo hi) :
   (-8388608<=fO r (qc r lo hi)/\fO r (qc r lo hi)<=8388608)/\(0<=gU (qc r lo hi) (uO r lo hi)/\gU (qc r lo hi) (uO r lo hi)<=1000):=by
 obtain⟨⟨h1,h2,h3⟩,_⟩:=BS dy A8 AY Lg U8 qf Fx h;exact⟨h1,h2,by omega⟩
set_option maxHeartbeats 8000000 in
theorem Yw(hr:fv){W w0:World}{br jQ bo g cap:Nat}{r:List Int}{x0 y0 x1 y1:Int}{v:Value}{rows:List (List Int)}(h:LoopIn W w0 br jQ bo g cap r x0 y0 x1 y1 v rows)(dy:fA r){ahead:Int}(hlen:rows.length<=1000)
   (h4: -64<=x0/\x0<=100) (h5: -64<=y0/\y0<=100) (h6: -64<=x1/\x1<=100) (h7: -64<=y1/\y1<=100) {R:List (List Int)} (hR:R=rows++gH r x0 y0 x1 y1 ahead) {t0 t1 t2 t3 t4 t6 t10 t11 t12 t13 t14 t15 t16 t17 t18 t19 t20 t21 t22 t23 t24 t25 t26 t27 t28 t29 t30 t31 t32 t33 t34 t35 t36 t37 t38 t39 t40 t41 t42 t43 t44 t45 t46 t47 t48 t49 t50 t51 t52 t53 t54 t55 t56 t57 t58 t59 t60 t61 t62 t63 t64 t65 t66 t67 t68 t69 t70 t71 t72 t73 t74 t75 t76 t77 t78 t79 t80 t81 t82 t83 t84 t85 t86 t87 t88 t89 t90 t91 t92 t93 t94 t95 t96 t97 t98 t99 t100 t101 t102 t103 t104 t105 t106 t107 t108 t109 t110 t111 t112 t113 t114 t115 t116 t117 t118 t119 t120 t121 t122 t123 t124 t125 t126 t127 t128 t129 t130 t131 t132 t133 t134 t135 t136 t137 t138 t139 t140 t141 t142 t143 t144 t145 t146 t147 t148 t149 t150 t151 t152 t153 t154 t155 t156 t157 t158 t159:Value} :
   Hr.wpIn Fence.wide 5 Tryz.prog (xN w0 R)
     {tmps:=#[t0,t1,t2,t3,t4,.pointer (some ⟨br,0,none⟩),t6,.pointer (some ⟨jQ,0,none⟩),.pointer (some ⟨bo,0,none⟩),.int .i64 ahead,t10,t11,t12,t13,t14,t15,t16,t17,t18,t19,t20,t21,t22,t23,t24,t25,t26,t27,t28,t29,t30,t31,t32,t33,t34,t35,t36,t37,t38,t39,t40,t41,t42,t43,t44,t45,t46,t47,t48,t49,t50,t51,t52,t53,t54,t55,t56,t57,t58,t59,t60,t61,t62,t63,t64,t65,t66,t67,t68,t69,t70,t71,t72,t73,t74,t75,t76,t77,t78,t79,t80,t81,t82,t83,t84,t85,t86,t87,t88,t89,t90,t91,t92,t93,t94,t95,t96,t97,t98,t99,t100,t101,t102,t103,t104,t105,t106,t107,t108,t109,t110,t111,t112,t113,t114,t115,t116,t117,t118,t119,t120,t121,t122,t123,t124,t125,t126,t127,t128,t129,t130,t131,t132,t133,t134,t135,t136,t137,t138,t139,t140,t141,t142,t143,t144,t145,t146,t147,t148,t149,t150,t151,t152,t153,t154,t155,t156,t157,t158,t159],defers:=[] } W:=by
 simp only[Hr,behind,jO,Tryz.f169,Option.getD,Nat.beq,iC,if_false,if_true];have Q8:Tryz.prog.follows .mixedOrders=true:=by kernel_rfl
 have hw0:=h.DA.cell;have Ho:=h.wd
 gi_upto_if 65 with(refine⟨trivial,?_⟩;gi_at_call 210;refine(callsIn_wide.2 (BQ hr Ho h.s7 dy).2).mono ?_;rintro e w1 ⟨rfl,vp⟩;have h1:=h.on vp;have ZN:=h1.DA.cell;have U2:=h1.s7.bool 9 rfl)
 gi_cut [12]from 66 (fun s wc=>s = .int .i64 (nR r)/\wc=w1)
 case first=>
   rename_i J K' hJ U9;have hnR:nR r=if qb r 9 then wrap64 (iN r-1)else iN r:=rfl
   cases h9:qb r 9 with
   | false=>
     rw[h9]at U2 hnR;simp only[h9]at hJ
     gi_wp2
     refine Met.intro (hJ _ _ ?_)
     (repeat apply Exists.intro)
     refine⟨?_,rfl⟩;exact⟨by rw[hnR];rfl,rfl⟩
   | true=>
     rw[h9]at U2 hnR;simp only[h9]at hJ
     gi_wp2
     refine Met.intro (hJ _ _ ?_)
     (repeat apply Exists.intro)
     refine⟨?_,rfl⟩;exact⟨by rw[hnR];rfl,rfl⟩
 case rest=>
   obtain⟨rfl,rfl⟩:=hcut;clear U2;have c0:wc.cell? ⟨br,0,none⟩=some (.int .i64 x0):=by simp[World.cell?,h1.dg]
   have c1:wc.cell? ⟨br,1,none⟩=some (.int .i64 y0):=by simp[World.cell?,h1.dg]
   have c2:wc.cell? ⟨br,2,none⟩=some (.int .i64 x1):=by simp[World.cell?,h1.dg]
   have c3:wc.cell? ⟨br,3,none⟩=some (.int .i64 y1):=by simp[World.cell?,h1.dg]
   have Z':=h1.s7.bool 4 rfl
   gi_wp2
   gi_region
   gi_upto_if 75 with fail
   gi_cut [13,14]from 76 (fun s t w2=>s = .int .i64 (dN r x0 y0)/\t = .int .i64 (dN r x1 y1)/\LoopIn w2 w0 br jQ bo g cap r x0 y0 x1 y1 v rows)
   case first=>
     rename_i J K' hJ U9;have qf:∀a b,dN r a b=if qb r 4 then b else a:=fun _ _=>rfl
     cases hq:qb r 4 with
     | false=>
       rw[hq]at Z';simp only[hq]at hJ
       gi_wp2
       refine Met.intro (hJ _ _ ?_)
       (repeat apply Exists.intro)
       refine⟨?_,rfl⟩;exact⟨by rw[qf,hq];rfl,by rw[qf,hq];rfl,h1.on (Below.refl _ _).drew⟩
     | true=>
       rw[hq]at Z';simp only[hq]at hJ;have ZF:wc.drew.cell? ⟨br,1,none⟩=some (.int .i64 y0):=c1;have c3':wc.drew.cell? ⟨br,3,none⟩=some (.int .i64 y1):=c3
       gi_wp2
       gi_region
       gi_wp2
       refine Met.intro (hJ _ _ ?_)
       (repeat apply Exists.intro)
       refine⟨?_,rfl⟩;exact⟨by rw[qf,hq];rfl,by rw[qf,hq];rfl,h1.on ((Below.refl _ _).drew.drew)⟩
   case rest=>
     obtain⟨rfl,rfl,h2⟩:=hcut;clear c0 c1 c2 c3 Z' ZN hw0;have Z7:=h2.DA.cell;have hf2:=h2.s7.int 6 rfl;have h2d:=h2.on (Below.refl _ _).drew;have wd2:=h2d.wd;have OS:=h2d.s7;obtain⟨W2,rfl⟩:∃W2,W2=wc:=⟨_,rfl⟩;generalize ac':dN r x0 y0=lo at *;generalize ada:dN r x1 y1=hi at *;have aku:W2.drew.cell? ⟨jQ,0,none⟩=some (.pointer (some ⟨g,0,none⟩)):=Z7
     gi_upto_region 17 with fail
     gi_cut [15,16]from 80 (fun s t w2=>s = .int .i64 (wrap64 (lo-qq r 6))/\t = .int .i64 (wrap64 (wrap64 (hi-1)-qq r 6))/\w2=W2.drew)
     case first=>
       rename_i J K' hJ U9;refine nu ?_
       first|gi_region_with_o fail|fail
       all_goals (refine U9 _ _ (Met.intro (hJ _ _ ?_));(repeat apply Exists.intro);refine⟨?_,rfl⟩;exact⟨by simp only[K2],by simp only[K2],rfl⟩)
     case rest=>
     obtain⟨rfl,rfl,rfl⟩:=hcut
     gi_upto_if 95 with(refine⟨trivial,?_⟩;gi_at_call 211;refine(callsIn_wide.2 (sB hr wd2 OS dy).2).mono ?_;rintro e w3 ⟨rfl,hb3⟩;have h3:=h2d.on hb3;have hw3:=h3.DA.cell;have hf3:=h3.s7.int 6 rfl)
     gi_cut [15,16]from 96 (fun s t w2=>s = .int .i64 (if eo r<0 then wrap64 (wrap64 (qq r 6-hi)+1)else wrap64 (lo-qq r 6))/\t = .int .i64 (if eo r<0 then wrap64 (qq r 6-lo)else wrap64 (wrap64 (hi-1)-qq r 6))/\LoopIn w2 w0 br jQ bo g cap r x0 y0 x1 y1 v rows)
     case first=>
       rename_i J K' hJ U9;by_cases hs:eo r<0
       . rw[if_pos hs,if_pos hs]at hJ
         gi_upto_region 19 with fail
         have L:=@OX w3 jQ g (qq r 6) lo hi hw3 hf3;simp only[OW,jP,Tryz.f169,Option.getD,Nat.beq,iC,if_false,if_true,xk,kG,List.headD]at L;refine L ?_;clear L;intro v96 v97 v98 v99 akv akw akx aky akz v105 akA v107 akB
         gi_wp2
         refine Met.intro (hJ _ _ ?_)
         (repeat apply Exists.intro)
         refine⟨?_,rfl⟩;exact⟨rfl,rfl,h3.on (Below.refl _ _).drew⟩
       . rw[if_neg hs,if_neg hs]at hJ
         gi_wp2
         refine Met.intro (hJ _ _ ?_)
         (repeat apply Exists.intro)
         refine⟨?_,rfl⟩;exact⟨rfl,rfl,h3⟩
     case rest=>
       obtain⟨rfl,rfl,Va⟩:=hcut;have hv4:=Va.Ad.cell
       gi_upto_if 117 with fail
       have eb:max (if eo r<0 then wrap64 (wrap64 (qq r 6-hi)+1)else wrap64 (lo-qq r 6)) 0=qc r lo hi:=rfl;have ee:min (if eo r<0 then wrap64 (qq r 6-lo)else wrap64 (wrap64 (hi-1)-qq r 6)) (wrap64 (nR r-1))=uO r lo hi:=rfl;rw[eb,ee];have G2: -64<=lo/\lo<=100:=by rw[<- ac'];unfold dN;split<;>omega
       have G3: -64<=hi/\hi<=100:=by rw[<- ada];unfold dN;split<;>omega
       have hRm:gH r x0 y0 x1 y1 ahead=if qc r lo hi>uO r lo hi then []else jK r x0 y0 x1 y1 ahead (qc r lo hi) (uO r lo hi):=by unfold gH;rw[ac',ada]
       obtain⟨A8,AY⟩:=(sB hr Va.wd Va.s7 dy).1;obtain⟨Lg,U8⟩:=(BQ hr Va.wd Va.s7 dy).1;by_cases Lq:uO r lo hi<qc r lo hi
       . rw[if_pos Lq]at hRm;rw[hRm,xk]at hR;subst hR;refine wpIn_cond_true (show Value.bool (decide (uO r lo hi<qc r lo hi))=_ by rw[mM Lq]) ?_
         gi_wp2
         all_goals exact⟨_,results_tmp rfl _ _ _,v,rfl,Va.below,Va.own⟩
       rw[if_neg Lq]at hRm;obtain⟨Lu,rU⟩:=sk dy A8 AY Lg U8 G2 G3 Lq;rename_i K1 a1;rw[hRm]at hR;subst hR;refine wpIn_cond_false (show Value.bool (decide (uO r lo hi<qc r lo hi))=_ by rw[decide_eq_false Lq]) (wpIn_skip ?_);have T:=@TK hr wc w0 br jQ bo g cap r x0 y0 x1 y1 v rows Va dy ahead (qc r lo hi) (uO r lo hi) Lu rU hlen ⟨by omega,by omega⟩ ⟨by omega,by omega⟩ ⟨by omega,by omega⟩ ⟨by omega,by omega⟩;simp only[nq,behind,jO,Tryz.f169,Option.getD,Nat.beq,iC,if_false,if_true]at T;exact a1 _ _ T
end
section
open Go.Sx Go.RowKit Go.Shelf Go TG
attribute [local go_sem] Oper.semAt_some
noncomputable def gG(a0 a1 b0 b1 x0 y0 x1 y1:Int):List (List Int):=
 if a0=b0/\a1=b1\/kt x0 y0 x1 y1=false then []
 else du (sM a0 a1 b0 b1) x0 y0 x1 y1++gH (sM a0 a1 b0 b1) x0 y0 x1 y1 (if qb (sM a0 a1 b0 b1) 8 then 1 else 0)
theorem LoopIn.app{w0 w2 w3:World}{br jQ bo g cap:Nat}{r:List Int}{x0 y0 x1 y1 a b c:Int}{v2 v3:Value}{BR:List (List Int)}{tmp:Obj}
   (gK:LoopIn w2 w0 br jQ bo g cap r x0 y0 x1 y1 v2 BR) (oK:(w2.alloc tmp).grownBy w3 v2.ownBlock) (bA:w3.ownsRow w0.heap.size 276 3 v3 (BR.length+1) (av [i6,i6,i6] BR++[.int .i64 a,.int .i64 b,.int .i64 c])) :
   LoopIn (w3.setCell ⟨bo,0,none⟩ v3) w0 br jQ bo g cap r x0 y0 x1 y1 v3 (BR++[[a,b,c]]):=by
 have sH:=gK.below.size;obtain⟨Rm,Ul,Rt,sK,ti⟩:=gK.Ad.appended (by decide) gK.own sH gK.Rk bA oK;obtain⟨csg,zg,mK⟩:=gK.s7.2.2;have kwy:Boxed (w3.setCell ⟨bo,0,none⟩ v3) jQ 319 _:=((gK.DA.alloc tmp).kept oK (gK.DA.not_row (by decide) gK.own)).other (kP gK.DA gK.Ad (by decide)) _;have DH:∀k,k<w2.heap.size->some k≠v2.ownBlock->k≠bo->(w3.setCell ⟨bo,0,none⟩ v3).heap[k]?=w2.heap[k]? :=fun k hk h1 h2=>
   (Below.heap_setCell _ _ _ k h2).trans ((oK.block k (by simp;omega) h1).trans (Below.heap_alloc _ _ _ hk))
 have qg:=DH br (qd.1 gK.dg).1 (kC gK.dg (by decide) gK.own) (Ne.symm (dx gK.Ad gK.dg (by decide)));have XB:=DH g gK.s7.1 (kC mK (by decide) gK.own) (Ne.symm (dx gK.Ad mK (by decide)));refine⟨gK.Ho,gK.below.trans ti,gK.Rk,Ul,?_,kwy,gK.s7.fC sK.size XB,qg.trans gK.dg⟩;rw[Ft,dG];exact Rt
structure zV(w W:World)(a0 a1 b0 b1 x0 y0 x1 y1:Int):Prop where
 Ho:Wd w
 below:Below w.heap.size w W
 ha:W.heap[w.heap.size]?=some (.cells #[.int .i64 a0,.int .i64 a1] 23 (0,0))
 hb:W.heap[w.heap.size+1]?=some (.cells #[.int .i64 b0,.int .i64 b1] 23 (0,0))
 dg:W.heap[w.heap.size+1+1]?=some (.cells #[.int .i64 x0,.int .i64 y0,.int .i64 x1,.int .i64 y1] 54 (0,0))
theorem zV.wd{w W:World}{a0 a1 b0 b1 x0 y0 x1 y1:Int}(h:zV w W a0 a1 b0 b1 x0 y0 x1 y1):Wd W:=zS _ _ h.Ho h.below
theorem zV.on{w W W':World}{a0 a1 b0 b1 x0 y0 x1 y1:Int}(h:zV w W a0 a1 b0 b1 x0 y0 x1 y1)(hb:Below W.heap.size W W'):zV w W' a0 a1 b0 b1 x0 y0 x1 y1:=
 ⟨h.Ho,h.below.trans (hb.mono h.below.size),(hb.block _ (qd.1 h.ha).1).trans h.ha,(hb.block _ (qd.1 h.hb).1).trans h.hb,(hb.block _ (qd.1 h.dg).1).trans h.dg⟩
theorem zV.start{w:World}(hw:Wd w)(a0 a1 b0 b1 x0 y0 x1 y1:Int):zV w (((w.alloc (.cells #[.int .i64 a0,.int .i64 a1] 23)).alloc (.cells #[.int .i64 b0,.int .i64 b1] 23)).alloc (.cells #[.int .i64 x0,.int .i64 y0,.int .i64 x1,.int .i64 y1] 54)) a0 a1 b0 b1 x0 y0 x1 y1:=by
 refine⟨hw,(((Below.refl _ _).alloc (eZ _) _).alloc (by simp) _).alloc (by simp;omega) _,?_,?_,?_⟩;exact(Below.heap_alloc _ _ _ (by simp;omega)).trans ((Below.heap_alloc _ _ _ (by simp)).trans (World.alloc_heap_new _ _));have:=World.alloc_heap_new (w.alloc (.cells #[.int .i64 a0,.int .i64 a1] 23)) (.cells #[.int .i64 b0,.int .i64 b1] 23);rw[World.size_alloc]at this;exact(Below.heap_alloc _ _ _ (by simp)).trans this;have:=World.alloc_heap_new ((w.alloc (.cells #[.int .i64 a0,.int .i64 a1] 23)).alloc (.cells #[.int .i64 b0,.int .i64 b1] 23)) (.cells #[.int .i64 x0,.int .i64 y0,.int .i64 x1,.int .i64 y1] 54);rwa[World.size_alloc,World.size_alloc]at this
theorem LoopIn.start{w W:World}{a0 a1 b0 b1 x0 y0 x1 y1:Int}(h:zV w W a0 a1 b0 b1 x0 y0 x1 y1){g cap:Nat}{r:List Int}(hw:iO W g cap r):LoopIn ((W.alloc (.cells #[.pointer (some ⟨g,0,none⟩)] 319)).alloc (.cells #[.slice none 0 0] 272)) w (w.heap.size+1+1) W.heap.size (W.heap.size+1) g cap r x0 y0 x1 y1 (.slice none 0 0) []:=by
 have sH:=h.below.size;have hb:Below W.heap.size W ((W.alloc (.cells #[.pointer (some ⟨g,0,none⟩)] 319)).alloc (.cells #[.slice none 0 0] 272)):=((Below.refl _ _).alloc (eZ _) _).alloc (by simp) _;refine⟨h.Ho,h.below.trans (hb.mono sH),by omega,?_,World.ownsRow_nil _ _ _ _,(Boxed.new W 319 _).alloc _,hw.below hb,(hb.block _ (qd.1 h.dg).1).trans h.dg⟩;have:=Boxed.new (W.alloc (.cells #[.pointer (some ⟨g,0,none⟩)] 319)) 272 (.slice none 0 0);rwa[World.size_alloc]at this
set_option maxHeartbeats 8000000 in
theorem K4(hr:fv){w:World}(hw:Wd w){a0 a1 b0 b1 x0 y0 x1 y1:Int}(h0: -268500000<=a0/\a0<=268500000)(h1: -268500000<=a1/\a1<=268500000)(h2: -268500000<=b0/\b0<=268500000)(h3: -268500000<=b1/\b1<=268500000)
   (h4: -64<=x0/\x0<=100) (h5: -64<=y0/\y0<=100) (h6: -64<=x1/\x1<=100) (h7: -64<=y1/\y1<=100) :
   Calls Tryz.prog 169 #[.agg #[.int .i64 a0,.int .i64 a1],.agg #[.int .i64 b0,.int .i64 b1],.agg #[.int .i64 x0,.int .i64 y0,.int .i64 x1,.int .i64 y1]] w fun e W'=>∃v',e = .returned v'/\Below w.heap.size w W'/\W'.ownsRow w.heap.size 276 3 v' (gG a0 a1 b0 b1 x0 y0 x1 y1).length (av [i6,i6,i6] (gG a0 a1 b0 b1 x0 y0 x1 y1)):=by
 obtain⟨R,hR⟩:∃R,gG a0 a1 b0 b1 x0 y0 x1 y1=R:=⟨_,rfl⟩;rw[hR];refine(callsIn_wide (n:=5)).1 ?_;refine callsIn_of_wp_marks Tryz.func169 rfl trivial ?_;simp only[Tryz.ntmps169,List.size_toArray,tY,List.length_nil,Nat.reduceAdd,Nat.reduceSub,Array.replicate_succ,Array.replicate_zero,List.push_toArray,List.append_toArray,kG,nU];have te:fF x0:=⟨by omega,by omega⟩;have HE:fF y0:=⟨by omega,by omega⟩;have Rp:fF x1:=⟨by omega,by omega⟩;have TI:fF y1:=⟨by omega,by omega⟩
 gi_upto_region 1 with fail
 gi_cut [29]from 22 (fun f wc=>f = .bool (decide (a0=b0/\a1=b1) || !(kt x0 y0 x1 y1))/\zV w wc a0 a1 b0 b1 x0 y0 x1 y1)
 case first=>
   rename_i J K' hJ U9;have m3:zV w (((w.alloc (.cells #[.int .i64 a0,.int .i64 a1] 23)).alloc (.cells #[.int .i64 b0,.int .i64 b1] 23)).alloc (.cells #[.int .i64 x0,.int .i64 y0,.int .i64 x1,.int .i64 y1] 54)) a0 a1 b0 b1 x0 y0 x1 y1:=zV.start hw _ _ _ _ _ _ _ _;have wd3:=m3.wd;by_cases ea:a0=b0
   . subst ea;by_cases eb:a1=b1
     . subst eb
       gi_wp2
       refine⟨trivial,?_⟩
       gi_wp2
       refine Met.intro (hJ _ _ ?_);(repeat apply Exists.intro);refine⟨?_,rfl⟩;exact⟨by simp,m3⟩
     . gi_wp2_with (refine⟨trivial,?_⟩;gi_at_call 65;refine(callsIn_wide.2 (zQ hr wd3 te HE Rp TI)).mono ?_;rintro e w1 ⟨rfl,vp⟩)
       refine Met.intro (hJ _ _ ?_);(repeat apply Exists.intro);refine⟨?_,rfl⟩;exact⟨by simp[eb],m3.on vp⟩
   . gi_wp2_with (refine⟨trivial,?_⟩;gi_at_call 65;refine(callsIn_wide.2 (zQ hr wd3 te HE Rp TI)).mono ?_;rintro e w1 ⟨rfl,vp⟩)
     refine Met.intro (hJ _ _ ?_);(repeat apply Exists.intro);refine⟨?_,rfl⟩;exact⟨by simp[ea],m3.on vp⟩
 case rest=>
   obtain⟨rfl,m3⟩:=hcut;by_cases hq:a0=b0/\a1=b1\/kt x0 y0 x1 y1=false
   . have hqb:(decide (a0=b0/\a1=b1) || !(kt x0 y0 x1 y1))=true:=by
       rcases hq with h|h;rw[mM h];rfl;rw[h];simp
     have sL:R=[]:=by rw[<- hR];unfold gG;rw[if_pos hq]
     rw[hqb]
     gi_wp2
     exact⟨_,results_tmp rfl _ _ _,_,rfl,m3.below,by rw[sL];exact World.ownsRow_nil _ _ _ _⟩
   . have hqb:(decide (a0=b0/\a1=b1) || !(kt x0 y0 x1 y1))=false:=by
       rw[Ae,DG,Bool.not_eq_false'];exact⟨fun h=>hq (Or.inl h),by cases h:kt x0 y0 x1 y1 with|true=>rfl|false=>exact absurd (Or.inr h) hq⟩
     rw[hqb];have wdc:=m3.wd;have c0:wc.cell? ⟨w.heap.size,0,none⟩=some (.int .i64 a0):=by simp[World.cell?,m3.ha]
     have c1:wc.cell? ⟨w.heap.size,1,none⟩=some (.int .i64 a1):=by simp[World.cell?,m3.ha]
     have c2:wc.cell? ⟨w.heap.size+1,0,none⟩=some (.int .i64 b0):=by simp[World.cell?,m3.hb]
     have c3:wc.cell? ⟨w.heap.size+1,1,none⟩=some (.int .i64 b1):=by simp[World.cell?,m3.hb]
     obtain⟨dy,mV⟩:=OP hr wdc h0 h1 h2 h3 (fun h=>hq (Or.inl h));have wB:Below w.heap.size w wc:=m3.below
     gi_upto_region 6 with(refine⟨trivial,?_⟩;gi_at_call 207;refine(callsIn_wide.2 mV).mono ?_;rintro e w4 ⟨g,cap,rfl,Lr,hg4,ac8⟩;clear mV)
     have qf:LoopIn ((w4.alloc (.cells #[.pointer (some ⟨g,0,none⟩)] 319)).alloc (.cells #[.slice none 0 0] 272)) w (w.heap.size+1+1) w4.heap.size (w4.heap.size+1) g cap (sM a0 a1 b0 b1) x0 y0 x1 y1 (.slice none 0 0) []:=LoopIn.start (m3.on Lr) ac8;clear c0 c1 c2 c3 Lr ac8;generalize hW5:(w4.alloc (.cells #[.pointer (some ⟨g,0,none⟩)] 319)).alloc (.cells #[.slice none 0 0] 272)=W5 at *;generalize hr4:sM a0 a1 b0 b1=r at *;have hw5:=qf.DA.cell;have h58:=qf.s7.bool 8 rfl
     gi_upto_if 36 with fail
     gi_cut [9]from 37 (fun s wc=>s = .int .i64 (if qb r 8 then 1 else 0)/\∃v,LoopIn wc w (w.heap.size+1+1) w4.heap.size (w4.heap.size+1) g cap r x0 y0 x1 y1 v (du r x0 y0 x1 y1))
     case first=>
       rename_i J K' hJ U9;cases h8:qb r 8 with
       | false=>
         rw[h8]at h58;simp only[h8]at hJ
         gi_wp2
         refine Met.intro (hJ _ _ ?_)
         (repeat apply Exists.intro)
         refine⟨?_,rfl⟩;exact⟨by simp,_,by rw[show du r x0 y0 x1 y1=[]by unfold du;rw[h8];rfl];exact qf⟩
       | true=>
         rw[h8]at h58;simp only[h8]at hJ;have hd:=qf.on (Below.refl _ _).drew;have X8:W5.drew.cell? ⟨g,4,none⟩=some (.bool (qb r 4)):=qf.s7.bool 4 rfl;have U1:=qf.s7.int 10 rfl;have Z9:=qf.s7.int 11 rfl;have Q8:Tryz.prog.follows .mixedOrders=true:=by kernel_rfl
         gi_upto_region 8 with fail
         have L8:=@TL W5 w4.heap.size g (qb r 4) (qq r 10) (qq r 11) hw5 X8 U1 Z9;simp only[Yu,jP,Tryz.f169,Option.getD,Nat.beq,iC,if_false,if_true,xk,kG,List.headD]at L8;refine L8 ?_;clear L8;intro v37 v38 v39 v40 v41 v42 v43 v44 v45 v46 v47 v48 v49;have ab8: -1200000<=qq r 10/\qq r 10<=1200000:=dy.Rs.2.2.2.2.2.2.2.2.2.2.1;have ab9: -1200000<=qq r 11/\qq r 11<=1200000:=dy.Rs.2.2.2.2.2.2.2.2.2.2.2.1;obtain⟨S8,S9⟩:=EX (t:=qb r 4) (u:=qq r 10) (v:=qq r 11) ⟨by omega,by omega⟩ ⟨by omega,by omega⟩;have U':du r x0 y0 x1 y1=if k5 x0 y0 x1 y1 (px (qb r 4) (qq r 10) (qq r 11)) (py (qb r 4) (qq r 10) (qq r 11))=true then [[0,px (qb r 4) (qq r 10) (qq r 11),py (qb r 4) (qq r 10) (qq r 11)]]else []:=by unfold du;rw[h8];rfl
         have wdd:=hd.wd;have c0:W5.drew.cell? ⟨w.heap.size+1+1,0,none⟩=some (.int .i64 x0):=by simp[World.cell?,hd.dg]
         have c1:W5.drew.cell? ⟨w.heap.size+1+1,1,none⟩=some (.int .i64 y0):=by simp[World.cell?,hd.dg]
         have c2:W5.drew.cell? ⟨w.heap.size+1+1,2,none⟩=some (.int .i64 x1):=by simp[World.cell?,hd.dg]
         have c3:W5.drew.cell? ⟨w.heap.size+1+1,3,none⟩=some (.int .i64 y1):=by simp[World.cell?,hd.dg]
         have X5:(4000:Nat)<=maxLen:=by decide
         obtain⟨i0,hi,Lg,U8,hz2⟩:=info_parts I7;generalize px (qb r 4) (qq r 10) (qq r 11)=pX at *;generalize py (qb r 4) (qq r 10) (qq r 11)=pY at *
         gi_wp2_with (first
           |(refine⟨trivial,?_⟩;gi_at_call 168;refine(callsIn_wide.2 (Fq hr wdd te HE Rp TI S8 S9).2).mono ?_;rintro e w6 ⟨rfl,hb6⟩;have OV:=hd.on hb6;clear c0 c1 c2 c3 hw5 h58 X8 U1 Z9;have akt:=OV.Ad.cell)
           |(gi_at_builtin;refine wpListIn_append_own _ rfl _ _ 272 rfl w.heap.size 276 i0 (.agg #[.int .i64 0,.int .i64 0,.int .i64 0]) 3 24 Tryz.underlying272 hi Lg U8 hz2 rfl (by decide) _ _ _ rfl (OV.own.alloc _) ⟨w6.heap.size,0,none⟩ 1 1 [.int .i64 0,.int .i64 pX,.int .i64 pY] rfl rfl (xd _ _ _ _ _) (by simp[Value.oneCell']) (by simp;omega) (by simp) (by have:=OV.below.size;simp;omega) ?_;intro v3 w7 zU vX _;obtain⟨g',nX,rfl⟩:=ownsRow_succ zU;obtain⟨Rm,Ul,Rt,sK,aj1⟩:=OV.Ad.appended (by decide) OV.own OV.below.size OV.Rk zU vX;have rV:=Rm.cell;have hf1:=Rm.frozen))
         all_goals (refine Met.intro (hJ _ _ ?_);(repeat apply Exists.intro);refine⟨?_,rfl⟩)
         refine⟨by simp,.slice (some ⟨g',0,none⟩) (([]:List (List Int)).length+1) nX,?_⟩;rw[U',if_pos (by assumption)];exact LoopIn.app OV vX zU;refine⟨by simp,.slice none 0 0,?_⟩;rw[U',show k5 x0 y0 x1 y1 pX pY=false by assumption,if_neg (by decide)];exact OV
     case rest=>
       obtain⟨rfl,v6,OV⟩:=hcut;rename_i K1 a1;have hlen:(du r x0 y0 x1 y1).length<=1000:=by
         unfold du;split;split<;>simp;simp
       have hR':R=du r x0 y0 x1 y1++gH r x0 y0 x1 y1 (if qb r 8 then 1 else 0):=by rw[<- hR];unfold gG;rw[if_neg hq,hr4]
       have T:=@Yw hr _ w (w.heap.size+1+1) w4.heap.size (w4.heap.size+1) g cap r x0 y0 x1 y1 v6 _ OV dy (if qb r 8 then 1 else 0) hlen h4 h5 h6 h7 R hR';simp only[Hr,behind,jO,Tryz.f169,Option.getD,Nat.beq,iC,if_false,if_true]at T;exact a1 _ _ T
end
section
open Go.Sx Go.RowKit Go
def inP(n:Int):Bool:=decide (-268500000<=n)&&decide (n<=268500000)
def inS(n:Int):Bool:=decide (-64<=n)&&decide (n<=100)
theorem G4{n:Int}:inP n=true↔-268500000<=n/\n<=268500000:=by simp[inP]
theorem G5{n:Int}:inS n=true↔-64<=n/\n<=100:=by simp[inS]
noncomputable def vS:List DV->Option (List DV)
 | [.i a0,.i a1,.i b0,.i b1,.i x0,.i y0,.i x1,.i y1]=>
   if((inP a0&&inP a1)&&(inP b0&&inP b1))&&((inS x0&&inS y0)&&(inS x1&&inS y1))then some [.l (gG a0 a1 b0 b1 x0 y0 x1 y1)]else none
 |_=>none
theorem TM:∀ds rs,vS ds=some rs->kinds (bt zW.res) rs=true:=by
 intro ds rs h;unfold vS at h;split at h;split at h<;>cases h;rfl;cases h
theorem Yx(hr:fv):Has Tryz.prog Wd 169 (Dk zW vS):=by
 unfold Has;refine .inl ⟨fun w args=>da Tryz.func169 rfl rfl w args,fun w vs ds hw ha hp=>?_⟩;obtain⟨rs,_,hx⟩:=hp;obtain⟨bL,rfl,hf⟩:=ha;unfold vS at hx;split at hx;rename_i a0 a1 b0 b1 x0 y0 x1 y1;split at hx;rename_i hc;cases hx;have CP:=hc;simp only[ah,G4,G5]at CP;obtain⟨⟨⟨h0,h1⟩,h2,h3⟩,⟨h4,h5⟩,h6,h7⟩:=CP
 match bL,hf with
 | [c0,c1,c2,c3,c4,c5,c6,c7],hf=>
   obtain⟨e0,e1,e2,e3,e4,e5,e6,e7,_⟩:=hf;simp only[jE]at e0 e1 e2 e3 e4 e5 e6 e7;subst e0;subst e1;subst e2;subst e3;subst e4;subst e5;subst e6;subst e7;refine(K4 hr hw h0 h1 h2 h3 h4 h5 h6 h7).mono ?_;rintro e w' ⟨v,rfl,hb,bA⟩;refine⟨[v],[.l (gG a0 a1 b0 b1 x0 y0 x1 y1)],rfl,hb,⟨⟨by decide,bA⟩,trivial⟩,?_,?_⟩;intro i j u u' Cf hi hj
   match i,j,hi,hj with
   |0,0,_,_=>exact absurd rfl Cf
   |0,j+1,_,hj=>simp at hj
   |i+1,_,hi,_=>simp at hi
   show vS _=_;simp only[vS,hc,if_true]
 cases hx;cases hx
theorem uR{r:List Int}(dy:fA r):0<=iN r/\iN r<=2500000:=by
 have hp:(kh 210).fQ [.l [r]]:=by rw[G1];exact⟨⟨jL dy,trivial⟩,fun p hp=>by cases hp⟩
 obtain⟨_,hq,_⟩:=kN (k:=210) (by decide) hp;rw[G1]at hq;unfold iN;generalize gv 210 [.l [r]]=rs at hq
 match rs,hq with
 | [.i n],hq=>exact hq.1
theorem I9{r:List Int}(dy:fA r): -1<=eo r/\eo r<=1:=by
 have hp:(kh 211).fQ [.l [r]]:=by rw[NW];exact⟨⟨jL dy,trivial⟩,fun p hp=>by cases hp⟩
 obtain⟨_,hq,_⟩:=kN (k:=211) (by decide) hp;rw[NW]at hq;unfold eo;generalize gv 211 [.l [r]]=rs at hq
 match rs,hq with
 | [.i n],hq=>exact hq.1
theorem K5{r:List Int}(dy:fA r){u:Int}(hu: -8388608<=u/\u<=8388608):fF (iU r u):=by
 have hp:(kh 251).fQ [.l [r],.i u]:=by
   rw[Ty];refine⟨⟨jL dy,hu,trivial⟩,fun p hp=>?_⟩;obtain rfl:p=_:=lU.1 hp;exact Dy dy.ne
 obtain⟨_,hq,_⟩:=kN (k:=251) (by decide) hp;rw[Ty]at hq;unfold iU;generalize gv 251 [.l [r],.i u]=rs at hq
 match rs,hq with
 | [.i n],hq=>
   have:=hq.1;exact⟨by have:=this.1;show -9223372036854775808<=n;omega,by have:=this.2;show n<=9223372036854775807;omega⟩
theorem N1{x0 y0 x1 y1 x y:Int}(h0:fF x0)(h1:fF y0)(h2:fF x1)(h3:fF y1)(h4:fF x)(h5:fF y)(h:k5 x0 y0 x1 y1 x y=true):(x0<=x/\x<x1)/\y0<=y/\y<y1:=by
 have hp:(kh 168).fQ [.i x0,.i y0,.i x1,.i y1,.i x,.i y]:=by
   rw[Tz];exact⟨⟨h0,h1,h2,h3,h4,h5,trivial⟩,fun p hp=>by cases hp⟩
 obtain⟨_,hq,wC⟩:=kN (k:=168) (by decide) hp;rw[Tz]at hq wC;unfold k5 at h;generalize hg:gv 168 [.i x0,.i y0,.i x1,.i y1,.i x,.i y]=rs at hq;rw[hg]at h wC
 match rs,hq with
 | [.b n],hq=>
   have h:n=true:=h;subst h;have hq3:=wC _ (lU.2 rfl);have:(!true||((decide (x0<=x)&&decide (x<x1))&&(decide (y0<=y)&&decide (y<y1))))=true:=hq3;simpa using this
theorem N3{a0 a1 b0 b1:Int}(h0: -268500000<=a0/\a0<=268500000)(h1: -268500000<=a1/\a1<=268500000)(h2: -268500000<=b0/\b0<=268500000)(h3: -268500000<=b1/\b1<=268500000)(ck:¬(a0=b0/\a1=b1)):fA (sM a0 a1 b0 b1):=by
 have hp:(kh 207).fQ [.i a0,.i a1,.i b0,.i b1]:=by
   rw[NY];refine⟨⟨h0,h1,h2,h3,trivial⟩,fun p hp=>?_⟩;obtain rfl:p=_:=lU.1 hp;have:(decide (a0=b0)&&decide (a1=b1))=false:=by
     rw[Vy,DG,DG];exact Classical.not_and_iff_not_or_not.1 ck
   show(!(decide (a0=b0)&&decide (a1=b1)))=true;rw[this];rfl
 obtain⟨_,hq,wC⟩:=kN (k:=207) (by decide) hp;rw[NY]at hq wC;unfold sM;generalize hg:gv 207 [.i a0,.i a1,.i b0,.i b1]=rs at hq;rw[hg]at wC
 match rs,hq with
 | [d],hq=>
   obtain⟨r,rfl,aY⟩:=I5 hq.1;have LK:=wC _ (lU.2 rfl);refine⟨aY,fun e=>?_⟩;have e':(decide (r.getD 2 0=r.getD 0 0))=true:=mM e;have:(!(decide (r.getD 2 0=r.getD 0 0)))=true:=LK;rw[e']at this;cases this
def zX(row:List Int):Prop:=bZ [(0,4000000),(-64,100),(-64,100)] 0 row
section
variable {x0 y0 x1 y1:Int}(h4: -64<=x0/\x0<=100)(h5: -64<=y0/\y0<=100)(h6: -64<=x1/\x1<=100)(h7: -64<=y1/\y1<=100)
theorem OY{x0:Int}{y0:Int}{x1:Int}{y1:Int}(h4: -64<=x0/\x0<=100)(h5: -64<=y0/\y0<=100)(h6: -64<=x1/\x1<=100)(h7: -64<=y1/\y1<=100){k x y:Int}(hk:0<=k/\k<=4000000)(hx:fF x)(hy:fF y)(h:k5 x0 y0 x1 y1 x y=true):zX [k,x,y]:=by
 obtain⟨⟨e1,e2⟩,e3,e4⟩:=N1 ⟨by omega,by omega⟩ ⟨by omega,by omega⟩ ⟨by omega,by omega⟩ ⟨by omega,by omega⟩ hx hy h;exact⟨hk,⟨by show -64<=x;omega,by show x<=100;omega⟩,⟨by show -64<=y;omega,by show y<=100;omega⟩,trivial⟩
theorem TN{x0:Int}{y0:Int}{x1:Int}{y1:Int}(h4: -64<=x0/\x0<=100)(h5: -64<=y0/\y0<=100)(h6: -64<=x1/\x1<=100)(h7: -64<=y1/\y1<=100){r:List Int}(dy:fA r):(du r x0 y0 x1 y1).length<=1/\∀row∈du r x0 y0 x1 y1,zX row:=by
 have ab8: -1200000<=qq r 10/\qq r 10<=1200000:=dy.Rs.2.2.2.2.2.2.2.2.2.2.1;have ab9: -1200000<=qq r 11/\qq r 11<=1200000:=dy.Rs.2.2.2.2.2.2.2.2.2.2.2.1;obtain⟨S8,S9⟩:=EX (t:=qb r 4) (u:=qq r 10) (v:=qq r 11) ⟨by omega,by omega⟩ ⟨by omega,by omega⟩;unfold du;by_cases h8:qb r 8=true;rw[if_pos h8];by_cases hh:k5 x0 y0 x1 y1 (px (qb r 4) (qq r 10) (qq r 11)) (py (qb r 4) (qq r 10) (qq r 11))=true;rw[if_pos hh];exact⟨eZ _,fun row hm=>by rw[lU.1 hm];exact OY h4 h5 h6 h7 ⟨by omega,by omega⟩ S8 S9 hh⟩;rw[if_neg hh];exact⟨Nat.zero_le _,fun row hm=>by cases hm⟩;rw[if_neg h8];exact⟨Nat.zero_le _,fun row hm=>by cases hm⟩
theorem TO{x0:Int}{y0:Int}{x1:Int}{y1:Int}(h4: -64<=x0/\x0<=100)(h5: -64<=y0/\y0<=100)(h6: -64<=x1/\x1<=100)(h7: -64<=y1/\y1<=100){r:List Int}(dy:fA r){ahead bg en:Int}(ha:0<=ahead/\ahead<=1)(hb:0<=bg/\bg<=2500000)(hu: -8388608<=fO r bg/\fO r bg<=8388608)(hm:0<=gU bg en/\gU bg en<=164) :
   (jK r x0 y0 x1 y1 ahead bg en).length<=164/\∀row∈jK r x0 y0 x1 y1 ahead bg en,zX row:=by
 unfold jK;have hlen:(fz r (fO r bg) (gU bg en).toNat).length=(gU bg en).toNat:=by simp[fz]
 constructor;have:=pT (qb r 4) x0 y0 x1 y1 (wrap64 (ahead+bg)) (fz r (fO r bg) (gU bg en).toNat);omega;intro row aY;unfold c8 at aY;obtain⟨i,hi,aY⟩:=List.mem_flatMap.1 aY;have hi:=ui.1 hi;unfold fm at aY;have Ju:(fz r (fO r bg) (gU bg en).toNat)[i]?=some ((fz r (fO r bg) (gU bg en).toNat).getD i (0,0)):=by
   rw[eI,fV hi];rfl
 obtain⟨N9,hp2⟩:=OR hu (K5 dy hu) Ju;generalize(fz r (fO r bg) (gU bg en).toNat).getD i (0,0)=p at *;obtain⟨S8,S9⟩:=EX (t:=qb r 4) N9 hp2;by_cases hh:k5 x0 y0 x1 y1 (px (qb r 4) p.1 p.2) (py (qb r 4) p.1 p.2)=true;rw[if_pos hh]at aY;rw[lU.1 aY];have e1:wrap64 (ahead+bg)=ahead+bg:=cA (by omega) (by omega);have e2:wrap64 (ahead+bg+(i:Int))=ahead+bg+i:=cA (by omega) (by omega);rw[e1,e2];exact OY h4 h5 h6 h7 ⟨by omega,by omega⟩ S8 S9 hh;rw[if_neg hh]at aY;cases aY
theorem K6{x0:Int}{y0:Int}{x1:Int}{y1:Int}(h4: -64<=x0/\x0<=100)(h5: -64<=y0/\y0<=100)(h6: -64<=x1/\x1<=100)(h7: -64<=y1/\y1<=100){a0 a1 b0 b1:Int}(h0: -268500000<=a0/\a0<=268500000)(h1: -268500000<=a1/\a1<=268500000)(h2: -268500000<=b0/\b0<=268500000)(h3: -268500000<=b1/\b1<=268500000) :
   (gG a0 a1 b0 b1 x0 y0 x1 y1).length<=200/\∀row∈gG a0 a1 b0 b1 x0 y0 x1 y1,zX row:=by
 unfold gG;by_cases hq:a0=b0/\a1=b1\/kt x0 y0 x1 y1=false;rw[if_pos hq];exact⟨Nat.zero_le _,fun row hm=>by cases hm⟩;rw[if_neg hq];have dy:=N3 h0 h1 h2 h3 fun h=>hq (Or.inl h);generalize sM a0 a1 b0 b1=r at *;obtain⟨a1,a2⟩:=TN h4 h5 h6 h7 dy;have G2: -64<=dN r x0 y0/\dN r x0 y0<=100:=by unfold dN;split<;>omega
 have G3: -64<=dN r x1 y1/\dN r x1 y1<=100:=by unfold dN;split<;>omega
 have hm:(gH r x0 y0 x1 y1 (if qb r 8 then 1 else 0)).length<=164/\∀row∈gH r x0 y0 x1 y1 (if qb r 8 then 1 else 0),zX row:=by
   unfold gH;by_cases Lq:uO r (dN r x0 y0) (dN r x1 y1)<qc r (dN r x0 y0) (dN r x1 y1);rw[if_pos Lq];exact⟨Nat.zero_le _,fun row hm=>by cases hm⟩;rw[if_neg Lq];obtain⟨⟨b1,b2⟩,b3⟩:=BS dy (I9 dy).1 (I9 dy).2 (uR dy).1 (uR dy).2 G2 G3 Lq;exact TO h4 h5 h6 h7 dy (by split<;>omega) b3 b1 b2
 obtain⟨m1,m2⟩:=hm;refine⟨by rw[dG];omega,fun row aY=>?_⟩;rcases oQ.1 aY with h|h;exact a2 row h;exact m2 row h
end
theorem NB:lO Tryz.prog jZ 169=none:=by kernel_rfl
theorem Yy:kc 169=⟨[Pc,Pc,Pc,Pc,.i (-64) 100,.i (-64) 100,.i (-64) 100,.i (-64) 100],[],[.l 0 (some 200) [(0,4000000),(-64,100),(-64,100)]],[]⟩:=by kernel_rfl
theorem aka{X:bD}(hX:X 169=vS):qn (lO Tryz.prog jZ) X 169 (kc 169).fQ (kc 169).iA:=by
 rw[Yy];rintro ds ⟨ha,_⟩
 match ds,ha with
 | [.i a0,.i a1,.i b0,.i b1,.i x0,.i y0,.i x1,.i y1],ha=>
   obtain⟨h0,h1,h2,h3,h4,h5,h6,h7,_⟩:=ha;have h0: -268500000<=a0/\a0<=268500000:=h0;have h1: -268500000<=a1/\a1<=268500000:=h1;have h2: -268500000<=b0/\b0<=268500000:=h2;have h3: -268500000<=b1/\b1<=268500000:=h3;have h4: -64<=x0/\x0<=100:=h4;have h5: -64<=y0/\y0<=100:=h5;have h6: -64<=x1/\x1<=100:=h6;have h7: -64<=y1/\y1<=100:=h7;obtain⟨l1,l2⟩:=K6 h4 h5 h6 h7 h0 h1 h2 h3;refine⟨[.l (gG a0 a1 b0 b1 x0 y0 x1 y1)],im NB ?_,⟨⟨by omega,fun y e=>by cases e;omega,l2⟩,trivial⟩,fun p hp=>by cases hp⟩;rw[hX];simp only[vS];rw[if_pos];simp only[ah,G4,G5];exact⟨⟨⟨h0,h1⟩,h2,h3⟩,⟨h4,h5⟩,h6,h7⟩
noncomputable abbrev XF:bD:=XX vS
theorem aco(hr:fv):yZ Tryz.prog Wd (TT Tryz.prog) XF Xd qp:=adb _ hr (Yx hr) TM
theorem h7F:nO (TT Tryz.prog) XF kc (ord.take 7):=by
 intro j hj;have hj:j=283\/j=140\/j=243\/j=266\/j=87\/j=146\/j=169:=by simpa[ord]using hj
 rcases hj with rfl|rfl|rfl|rfl|rfl|rfl|rfl;exact ahy rfl;exact ahv rfl;exact ahw rfl;exact ahx rfl;exact g87 rfl;exact ahB rfl;exact aka rfl
end
end Go.Proofs.YtohebioanhliiaaGreatDoor.aw

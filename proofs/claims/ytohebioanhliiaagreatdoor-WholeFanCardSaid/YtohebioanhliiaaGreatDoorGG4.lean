/- walk.Within: whole. -/
import Derived.Test.YtohebioanhliiaaGreatDoorGG3
set_option maxRecDepth 100000
set_option linter.unusedVariables false
set_option linter.unusedSimpArgs false
set_option maxRecDepth 20000
namespace Go.Proofs.YtohebioanhliiaaGreatDoor.av
section
open Go.Sx Go.RowKit Go.Shelf Go X8
attribute [local go_sem] Oper.semAt_some
noncomputable def gu(r:List Int)(x0 y0 x1 y1:Int):List (List Int):=
 if qb r 8 then(if nH x0 y0 x1 y1 (px (qb r 4) (qq r 10) (qq r 11)) (py (qb r 4) (qq r 10) (qq r 11))then [[0,px (qb r 4) (qq r 10) (qq r 11),py (qb r 4) (qq r 10) (qq r 11)]]else [])else []
noncomputable def nR(r:List Int):Int:=if qb r 9 then wrap64 (lO r-1)else lO r
def lq(r:List Int)(x0 y0:Int):Int:=if qb r 4 then y0 else x0
noncomputable def wX(r:List Int)(lo hi:Int):Int:=max (if fE r<0 then wrap64 (wrap64 (qq r 6-hi)+1)else wrap64 (lo-qq r 6)) 0
noncomputable def CZ(r:List Int)(lo hi:Int):Int:=min (if fE r<0 then wrap64 (qq r 6-lo)else wrap64 (wrap64 (hi-1)-qq r 6)) (wrap64 (nR r-1))
noncomputable def KT:Code:=behind 11 40 (Tryz.f169.body.getD .skip)
noncomputable def nI(r:List Int)(x0 y0 x1 y1 ahead:Int):List (List Int):=
 if wX r (lq r x0 y0) (lq r x1 y1)>CZ r (lq r x0 y0) (lq r x1 y1)then []else mB r x0 y0 x1 y1 ahead (wX r (lq r x0 y0) (lq r x1 y1)) (CZ r (lq r x0 y0) (lq r x1 y1))
theorem ER{r:List Int}(gR:lz r)(DZ: -1<=fE r)(G1:fE r<=1)(Pe:0<=lO r)(Zz:lO r<=2500000){lo hi:Int}(tm: -64<=lo/\lo<=100)(Ld: -64<=hi/\hi<=100)(h:¬ CZ r lo hi<wX r lo hi) :
   ((-8388608<=iO r (wX r lo hi)/\iO r (wX r lo hi)<=8388608)/\(0<=lP (wX r lo hi) (CZ r lo hi)/\lP (wX r lo hi) (CZ r lo hi)<=164))/\0<=wX r lo hi/\wX r lo hi<=2500000:=by
 have hq: -1200000<=qq r 6/\qq r 6<=1200000:=gR.in_.2.2.2.2.2.2.1;have hn: -1<=nR r/\nR r<=2500000:=by
   unfold nR;split;rw[fJ (by omega) (by omega)];omega;omega
 have hw:wrap64 (nR r-1)=nR r-1:=fJ (by omega) (by omega);have hd:CZ r lo hi-wX r lo hi<=163/\0<=wX r lo hi/\CZ r lo hi<=2500000:=by
   unfold CZ wX;rw[hw];by_cases hs:fE r<0;rw[if_pos hs,if_pos hs,fJ (a:=qq r 6-hi) (by omega) (by omega),fJ (a:=qq r 6-hi+1) (by omega) (by omega),fJ (a:=qq r 6-lo) (by omega) (by omega)];omega;rw[if_neg hs,if_neg hs,fJ (a:=hi-1) (by omega) (by omega),fJ (a:=lo-qq r 6) (by omega) (by omega),fJ (a:=hi-1-qq r 6) (by omega) (by omega)];omega
 obtain⟨AL,hd2,hd3⟩:=hd;refine⟨?_,hd2,by omega⟩;constructor;unfold iO;have hm: -2500000<=wX r lo hi*fE r/\wX r lo hi*fE r<=2500000:=by
   have:fE r = -1\/fE r=0\/fE r=1:=by omega
   rcases this with e|e|e<;>rw[e]<;>omega
 rw[fJ (a:=wX r lo hi*fE r) (by omega) (by omega),fJ (by omega) (by omega)];omega;unfold lP;rw[fJ (a:=CZ r lo hi-wX r lo hi) (by omega) (by omega),fJ (by omega) (by omega)];omega
theorem u6{r:List Int}(gR:lz r)(DZ: -1<=fE r)(G1:fE r<=1)(Pe:0<=lO r)(Zz:lO r<=2500000){lo hi:Int}(tm: -64<=lo/\lo<=100)(Ld: -64<=hi/\hi<=100)(h:¬ CZ r lo hi<wX r lo hi) :
   (-8388608<=iO r (wX r lo hi)/\iO r (wX r lo hi)<=8388608)/\(0<=lP (wX r lo hi) (CZ r lo hi)/\lP (wX r lo hi) (CZ r lo hi)<=1000):=by
 obtain⟨⟨h1,h2,h3⟩,_⟩:=ER gR DZ G1 Pe Zz tm Ld h;exact⟨h1,h2,by omega⟩
set_option maxHeartbeats 8000000 in
theorem ab8(hr:gF){W w0:World}{br lC bo g cap:Nat}{r:List Int}{x0 y0 x1 y1:Int}{v:Value}{rows:List (List Int)}(h:LoopIn W w0 br lC bo g cap r x0 y0 x1 y1 v rows)(gR:lz r){ahead:Int}(hlen:rows.length<=1000)
   (h4: -64<=x0/\x0<=100) (h5: -64<=y0/\y0<=100) (h6: -64<=x1/\x1<=100) (h7: -64<=y1/\y1<=100) {R:List (List Int)} (hR:R=rows++nI r x0 y0 x1 y1 ahead) {t0 t1 t2 t3 t4 t6 t10 t11 t12 t13 t14 t15 t16 t17 t18 t19 t20 t21 t22 t23 t24 t25 t26 t27 t28 t29 t30 t31 t32 t33 t34 t35 t36 t37 t38 t39 t40 t41 t42 t43 t44 t45 t46 t47 t48 t49 t50 t51 t52 t53 t54 t55 t56 t57 t58 t59 t60 t61 t62 t63 t64 t65 t66 t67 t68 t69 t70 t71 t72 t73 t74 t75 t76 t77 t78 t79 t80 t81 t82 t83 t84 t85 t86 t87 t88 t89 t90 t91 t92 t93 t94 t95 t96 t97 t98 t99 t100 t101 t102 t103 t104 t105 t106 t107 t108 t109 t110 t111 t112 t113 t114 t115 t116 t117 t118 t119 t120 t121 t122 t123 t124 t125 t126 t127 t128 t129 t130 t131 t132 t133 t134 t135 t136 t137 t138 t139 t140 t141 t142 t143 t144 t145 t146 t147 t148 t149 t150 t151 t152 t153 t154 t155 t156 t157 t158 t159:Value} :
   KT.wpIn Fence.wide 5 Tryz.prog (A0 w0 R)
     {tmps:=#[t0,t1,t2,t3,t4,.pointer (some ⟨br,0,none⟩),t6,.pointer (some ⟨lC,0,none⟩),.pointer (some ⟨bo,0,none⟩),.int .i64 ahead,t10,t11,t12,t13,t14,t15,t16,t17,t18,t19,t20,t21,t22,t23,t24,t25,t26,t27,t28,t29,t30,t31,t32,t33,t34,t35,t36,t37,t38,t39,t40,t41,t42,t43,t44,t45,t46,t47,t48,t49,t50,t51,t52,t53,t54,t55,t56,t57,t58,t59,t60,t61,t62,t63,t64,t65,t66,t67,t68,t69,t70,t71,t72,t73,t74,t75,t76,t77,t78,t79,t80,t81,t82,t83,t84,t85,t86,t87,t88,t89,t90,t91,t92,t93,t94,t95,t96,t97,t98,t99,t100,t101,t102,t103,t104,t105,t106,t107,t108,t109,t110,t111,t112,t113,t114,t115,t116,t117,t118,t119,t120,t121,t122,t123,t124,t125,t126,t127,t128,t129,t130,t131,t132,t133,t134,t135,t136,t137,t138,t139,t140,t141,t142,t143,t144,t145,t146,t147,t148,t149,t150,t151,t152,t153,t154,t155,t156,t157,t158,t159],defers:=[] } W:=by
 simp only[KT,behind,lA,Tryz.f169,Option.getD,Nat.beq,jG,if_false,if_true];have Vp:Tryz.prog.follows .mixedOrders=true:=by kernel_rfl
 have hw0:=h.GM.cell;have KP:=h.wd
 gi_upto_if 65 with(refine⟨trivial,?_⟩;gi_at_call 210;refine(callsIn_wide.2 (EN hr KP h.vS gR).2).mono ?_;rintro e w1 ⟨rfl,yL⟩;have h1:=h.on yL;have hw1:=h1.GM.cell;have Zs:=h1.vS.bool 9 rfl)
 gi_cut [12]from 66 (fun s wc=>s = .int .i64 (nR r)/\wc=w1)
 case first=>
   rename_i J K' hJ ZA;have hnR:nR r=if qb r 9 then wrap64 (lO r-1)else lO r:=rfl
   cases h9:qb r 9 with
   | false=>
     rw[h9]at Zs hnR;simp only[h9]at hJ
     gi_wp2
     refine Met.intro (hJ _ _ ?_)
     (repeat apply Exists.intro)
     refine⟨?_,rfl⟩;exact⟨by rw[hnR];rfl,rfl⟩
   | true=>
     rw[h9]at Zs hnR;simp only[h9]at hJ
     gi_wp2
     refine Met.intro (hJ _ _ ?_)
     (repeat apply Exists.intro)
     refine⟨?_,rfl⟩;exact⟨by rw[hnR];rfl,rfl⟩
 case rest=>
   obtain⟨rfl,rfl⟩:=hcut;clear Zs;have c0:wc.cell? ⟨br,0,none⟩=some (.int .i64 x0):=by simp[World.cell?,h1.eo]
   have c1:wc.cell? ⟨br,1,none⟩=some (.int .i64 y0):=by simp[World.cell?,h1.eo]
   have c2:wc.cell? ⟨br,2,none⟩=some (.int .i64 x1):=by simp[World.cell?,h1.eo]
   have c3:wc.cell? ⟨br,3,none⟩=some (.int .i64 y1):=by simp[World.cell?,h1.eo]
   have h14:=h1.vS.bool 4 rfl
   gi_wp2
   gi_region
   gi_upto_if 75 with fail
   gi_cut [13,14]from 76 (fun s t w2=>s = .int .i64 (lq r x0 y0)/\t = .int .i64 (lq r x1 y1)/\LoopIn w2 w0 br lC bo g cap r x0 y0 x1 y1 v rows)
   case first=>
     rename_i J K' hJ ZA;have tm:∀a b,lq r a b=if qb r 4 then b else a:=fun _ _=>rfl
     cases hq:qb r 4 with
     | false=>
       rw[hq]at h14;simp only[hq]at hJ
       gi_wp2
       refine Met.intro (hJ _ _ ?_)
       (repeat apply Exists.intro)
       refine⟨?_,rfl⟩;exact⟨by rw[tm,hq];rfl,by rw[tm,hq];rfl,h1.on (Below.refl _ _).drew⟩
     | true=>
       rw[hq]at h14;simp only[hq]at hJ;have c1':wc.drew.cell? ⟨br,1,none⟩=some (.int .i64 y0):=c1;have c3':wc.drew.cell? ⟨br,3,none⟩=some (.int .i64 y1):=c3
       gi_wp2
       gi_region
       gi_wp2
       refine Met.intro (hJ _ _ ?_)
       (repeat apply Exists.intro)
       refine⟨?_,rfl⟩;exact⟨by rw[tm,hq];rfl,by rw[tm,hq];rfl,h1.on ((Below.refl _ _).drew.drew)⟩
   case rest=>
     obtain⟨rfl,rfl,h2⟩:=hcut;clear c0 c1 c2 c3 h14 hw1 hw0;have hw2:=h2.GM.cell;have hf2:=h2.vS.int 6 rfl;have h2d:=h2.on (Below.refl _ _).drew;have wd2:=h2d.wd;have S9:=h2d.vS;obtain⟨W2,rfl⟩:∃W2,W2=wc:=⟨_,rfl⟩;generalize af1:lq r x0 y0=lo at *;generalize af2:lq r x1 y1=hi at *;have am3:W2.drew.cell? ⟨lC,0,none⟩=some (.pointer (some ⟨g,0,none⟩)):=hw2
     gi_upto_region 17 with fail
     gi_cut [15,16]from 80 (fun s t w2=>s = .int .i64 (wrap64 (lo-qq r 6))/\t = .int .i64 (wrap64 (wrap64 (hi-1)-qq r 6))/\w2=W2.drew)
     case first=>
       rename_i J K' hJ ZA;refine pU ?_
       first|gi_region_with_o fail|fail
       all_goals (refine ZA _ _ (Met.intro (hJ _ _ ?_));(repeat apply Exists.intro);refine⟨?_,rfl⟩;exact⟨by simp only[O4],by simp only[O4],rfl⟩)
     case rest=>
     obtain⟨rfl,rfl,rfl⟩:=hcut
     gi_upto_if 95 with(refine⟨trivial,?_⟩;gi_at_call 211;refine(callsIn_wide.2 (vn hr wd2 S9 gR).2).mono ?_;rintro e w3 ⟨rfl,hb3⟩;have h3:=h2d.on hb3;have hw3:=h3.GM.cell;have hf3:=h3.vS.int 6 rfl)
     gi_cut [15,16]from 96 (fun s t w2=>s = .int .i64 (if fE r<0 then wrap64 (wrap64 (qq r 6-hi)+1)else wrap64 (lo-qq r 6))/\t = .int .i64 (if fE r<0 then wrap64 (qq r 6-lo)else wrap64 (wrap64 (hi-1)-qq r 6))/\LoopIn w2 w0 br lC bo g cap r x0 y0 x1 y1 v rows)
     case first=>
       rename_i J K' hJ ZA;by_cases hs:fE r<0
       . rw[if_pos hs,if_pos hs]at hJ
         gi_upto_region 19 with fail
         have L:=@Td w3 lC g (qq r 6) lo hi hw3 hf3;simp only[Tc,lB,Tryz.f169,Option.getD,Nat.beq,jG,if_false,if_true,qH,nc,List.headD]at L;refine L ?_;clear L;intro v96 v97 v98 v99 am4 am5 am6 am7 OI v105 am8 v107 am9
         gi_wp2
         refine Met.intro (hJ _ _ ?_)
         (repeat apply Exists.intro)
         refine⟨?_,rfl⟩;exact⟨rfl,rfl,h3.on (Below.refl _ _).drew⟩
       . rw[if_neg hs,if_neg hs]at hJ
         gi_wp2
         refine Met.intro (hJ _ _ ?_)
         (repeat apply Exists.intro)
         refine⟨?_,rfl⟩;exact⟨rfl,rfl,h3⟩
     case rest=>
       obtain⟨rfl,rfl,ZC⟩:=hcut;have hv4:=ZC.C0.cell
       gi_upto_if 117 with fail
       have eb:max (if fE r<0 then wrap64 (wrap64 (qq r 6-hi)+1)else wrap64 (lo-qq r 6)) 0=wX r lo hi:=rfl;have ee:min (if fE r<0 then wrap64 (qq r 6-lo)else wrap64 (wrap64 (hi-1)-qq r 6)) (wrap64 (nR r-1))=CZ r lo hi:=rfl;rw[eb,ee];have ab9: -64<=lo/\lo<=100:=by rw[<- af1];unfold lq;split<;>omega
       have ab': -64<=hi/\hi<=100:=by rw[<- af2];unfold lq;split<;>omega
       have hRm:nI r x0 y0 x1 y1 ahead=if wX r lo hi>CZ r lo hi then []else mB r x0 y0 x1 y1 ahead (wX r lo hi) (CZ r lo hi):=by unfold nI;rw[af1,af2]
       obtain⟨DZ,G1⟩:=(vn hr ZC.wd ZC.vS gR).1;obtain⟨Pe,Zz⟩:=(EN hr ZC.wd ZC.vS gR).1;by_cases Yd:CZ r lo hi<wX r lo hi
       . rw[if_pos Yd]at hRm;rw[hRm,qH]at hR;subst hR;refine wpIn_cond_true (show Value.bool (decide (CZ r lo hi<wX r lo hi))=_ by rw[kR Yd]) ?_
         gi_wp2
         all_goals exact⟨_,results_tmp rfl _ _ _,v,rfl,ZC.below,ZC.own⟩
       rw[if_neg Yd]at hRm;obtain⟨Pw,uO⟩:=u6 gR DZ G1 Pe Zz ab9 ab' Yd;rename_i K1 a1;rw[hRm]at hR;subst hR;refine wpIn_cond_false (show Value.bool (decide (CZ r lo hi<wX r lo hi))=_ by rw[decide_eq_false Yd]) (wpIn_skip ?_);have T:=@Yb hr wc w0 br lC bo g cap r x0 y0 x1 y1 v rows ZC gR ahead (wX r lo hi) (CZ r lo hi) Pw uO hlen ⟨by omega,by omega⟩ ⟨by omega,by omega⟩ ⟨by omega,by omega⟩ ⟨by omega,by omega⟩;simp only[pT,behind,lA,Tryz.f169,Option.getD,Nat.beq,jG,if_false,if_true]at T;exact a1 _ _ T
end
section
open Go.Sx Go.RowKit Go.Shelf Go X8
variable{w:World}{x0 x1 y0 a0 b0:Int}{W:World}{g:Nat}
attribute [local go_sem] Oper.semAt_some
noncomputable def jB(a0 a1 b0 b1 x0 y0 x1 y1:Int):List (List Int):=
 if a0=b0/\a1=b1\/mP x0 y0 x1 y1=false then []
 else gu (xW a0 a1 b0 b1) x0 y0 x1 y1++nI (xW a0 a1 b0 b1) x0 y0 x1 y1 (if qb (xW a0 a1 b0 b1) 8 then 1 else 0)
theorem LoopIn.app{w0 w2 w3:World}{br lC bo cap:Nat}{r:List Int}{y1 a b c:Int}{v2 v3:Value}{EO:List (List Int)}{tmp:Obj}
   (iV:LoopIn w2 w0 br lC bo g cap r x0 y0 x1 y1 v2 EO) (rm:(w2.alloc tmp).grownBy w3 v2.ownBlock) (bN:w3.ownsRow w0.heap.size 276 3 v3 (EO.length+1) (aF [i6,i6,i6] EO++[.int .i64 a,.int .i64 b,.int .i64 c])) :
   LoopIn (w3.setCell ⟨bo,0,none⟩ v3) w0 br lC bo g cap r x0 y0 x1 y1 v3 (EO++[[a,b,c]]):=by
 have wg:=iV.below.size;obtain⟨VC,YJ,VE,uX,wh⟩:=iV.C0.appended (by decide) iV.own wg iV.VA bN rm;obtain⟨csg,zg,oU⟩:=iV.vS.2.2;have kwy:Boxed (w3.setCell ⟨bo,0,none⟩ v3) lC 319 _:=((iV.GM.alloc tmp).kept rm (iV.GM.not_row (by decide) iV.own)).other (mD iV.GM iV.C0 (by decide)) _;have GU:∀k,k<w2.heap.size->some k≠v2.ownBlock->k≠bo->(w3.setCell ⟨bo,0,none⟩ v3).heap[k]?=w2.heap[k]? :=fun k hk h1 h2=>
   (Below.heap_setCell _ _ _ k h2).trans ((rm.block k (by simp;omega) h1).trans (Below.heap_alloc _ _ _ hk))
 have sS:=GU br (sQ.1 iV.eo).1 (mh iV.eo (by decide) iV.own) (Ne.symm (eO iV.C0 iV.eo (by decide)));have hgg:=GU g iV.vS.1 (mh oU (by decide) iV.own) (Ne.symm (eO iV.C0 oU (by decide)));refine⟨iV.KP,iV.below.trans wh,iV.VA,YJ,?_,kwy,iV.vS.fi uX.size hgg,sS.trans iV.eo⟩;rw[IX,ff];exact VE
structure CM(w W:World)(a0 a1 b0 b1 x0 y0 x1 y1:Int):Prop where
 KP:Wd w
 below:Below w.heap.size w W
 ha:W.heap[w.heap.size]?=some (.cells #[.int .i64 a0,.int .i64 a1] 23 (0,0))
 hb:W.heap[w.heap.size+1]?=some (.cells #[.int .i64 b0,.int .i64 b1] 23 (0,0))
 eo:W.heap[w.heap.size+1+1]?=some (.cells #[.int .i64 x0,.int .i64 y0,.int .i64 x1,.int .i64 y1] 54 (0,0))
theorem CM.wd{a1 b1 y1:Int}(h:CM w W a0 a1 b0 b1 x0 y0 x1 y1):Wd W:=CI _ _ h.KP h.below
theorem CM.on{W':World}{a1 b1 y1:Int}(h:CM w W a0 a1 b0 b1 x0 y0 x1 y1)(hb:Below W.heap.size W W'):CM w W' a0 a1 b0 b1 x0 y0 x1 y1:=
 ⟨h.KP,h.below.trans (hb.mono h.below.size),(hb.block _ (sQ.1 h.ha).1).trans h.ha,(hb.block _ (sQ.1 h.hb).1).trans h.hb,(hb.block _ (sQ.1 h.eo).1).trans h.eo⟩
theorem CM.start(hw:Wd w)(a0 a1 b0 b1 x0 y0 x1 y1:Int):CM w (((w.alloc (.cells #[.int .i64 a0,.int .i64 a1] 23)).alloc (.cells #[.int .i64 b0,.int .i64 b1] 23)).alloc (.cells #[.int .i64 x0,.int .i64 y0,.int .i64 x1,.int .i64 y1] 54)) a0 a1 b0 b1 x0 y0 x1 y1:=by
 refine⟨hw,(((Below.refl _ _).alloc (fz _) _).alloc (by simp) _).alloc (by simp;omega) _,?_,?_,?_⟩;exact(Below.heap_alloc _ _ _ (by simp;omega)).trans ((Below.heap_alloc _ _ _ (by simp)).trans (World.alloc_heap_new _ _));have:=World.alloc_heap_new (w.alloc (.cells #[.int .i64 a0,.int .i64 a1] 23)) (.cells #[.int .i64 b0,.int .i64 b1] 23);rw[World.size_alloc]at this;exact(Below.heap_alloc _ _ _ (by simp)).trans this;have:=World.alloc_heap_new ((w.alloc (.cells #[.int .i64 a0,.int .i64 a1] 23)).alloc (.cells #[.int .i64 b0,.int .i64 b1] 23)) (.cells #[.int .i64 x0,.int .i64 y0,.int .i64 x1,.int .i64 y1] 54);rwa[World.size_alloc,World.size_alloc]at this
theorem LoopIn.start{a1 b1 y1:Int}(h:CM w W a0 a1 b0 b1 x0 y0 x1 y1){cap:Nat}{r:List Int}(hw:jS W g cap r):LoopIn ((W.alloc (.cells #[.pointer (some ⟨g,0,none⟩)] 319)).alloc (.cells #[.slice none 0 0] 272)) w (w.heap.size+1+1) W.heap.size (W.heap.size+1) g cap r x0 y0 x1 y1 (.slice none 0 0) []:=by
 have wg:=h.below.size;have hb:Below W.heap.size W ((W.alloc (.cells #[.pointer (some ⟨g,0,none⟩)] 319)).alloc (.cells #[.slice none 0 0] 272)):=((Below.refl _ _).alloc (fz _) _).alloc (by simp) _;refine⟨h.KP,h.below.trans (hb.mono wg),by omega,?_,World.ownsRow_nil _ _ _ _,(Boxed.new W 319 _).alloc _,hw.below hb,(hb.block _ (sQ.1 h.eo).1).trans h.eo⟩;have:=Boxed.new (W.alloc (.cells #[.pointer (some ⟨g,0,none⟩)] 319)) 272 (.slice none 0 0);rwa[World.size_alloc]at this
set_option maxHeartbeats 8000000 in
theorem O5(hr:gF)(hw:Wd w){a1 b1 y1:Int}(h0: -268500000<=a0/\a0<=268500000)(h1: -268500000<=a1/\a1<=268500000)(h2: -268500000<=b0/\b0<=268500000)(h3: -268500000<=b1/\b1<=268500000)
   (h4: -64<=x0/\x0<=100) (h5: -64<=y0/\y0<=100) (h6: -64<=x1/\x1<=100) (h7: -64<=y1/\y1<=100) :
   Calls Tryz.prog 169 #[.agg #[.int .i64 a0,.int .i64 a1],.agg #[.int .i64 b0,.int .i64 b1],.agg #[.int .i64 x0,.int .i64 y0,.int .i64 x1,.int .i64 y1]] w fun e W'=>∃v',e = .returned v'/\Below w.heap.size w W'/\W'.ownsRow w.heap.size 276 3 v' (jB a0 a1 b0 b1 x0 y0 x1 y1).length (aF [i6,i6,i6] (jB a0 a1 b0 b1 x0 y0 x1 y1)):=by
 obtain⟨R,hR⟩:∃R,jB a0 a1 b0 b1 x0 y0 x1 y1=R:=⟨_,rfl⟩;rw[hR];refine(callsIn_wide (n:=5)).1 ?_;refine callsIn_of_wp_marks Tryz.func169 rfl trivial ?_;simp only[Tryz.ntmps169,List.size_toArray,qe,List.length_nil,Nat.reduceAdd,Nat.reduceSub,Array.replicate_succ,Array.replicate_zero,List.push_toArray,List.append_toArray,nc,ta];have vX:gG x0:=⟨by omega,by omega⟩;have K8:gG y0:=⟨by omega,by omega⟩;have H3:gG x1:=⟨by omega,by omega⟩;have X':gG y1:=⟨by omega,by omega⟩
 gi_upto_region 1 with fail
 gi_cut [29]from 22 (fun f wc=>f = .bool (decide (a0=b0/\a1=b1) || !(mP x0 y0 x1 y1))/\CM w wc a0 a1 b0 b1 x0 y0 x1 y1)
 case first=>
   rename_i J K' hJ ZA;have m3:CM w (((w.alloc (.cells #[.int .i64 a0,.int .i64 a1] 23)).alloc (.cells #[.int .i64 b0,.int .i64 b1] 23)).alloc (.cells #[.int .i64 x0,.int .i64 y0,.int .i64 x1,.int .i64 y1] 54)) a0 a1 b0 b1 x0 y0 x1 y1:=CM.start hw _ _ _ _ _ _ _ _;have wd3:=m3.wd;by_cases ea:a0=b0
   . subst ea;by_cases eb:a1=b1
     . subst eb
       gi_wp2
       refine⟨trivial,?_⟩
       gi_wp2
       refine Met.intro (hJ _ _ ?_);(repeat apply Exists.intro);refine⟨?_,rfl⟩;exact⟨by simp,m3⟩
     . gi_wp2_with (refine⟨trivial,?_⟩;gi_at_call 65;refine(callsIn_wide.2 (CG hr wd3 vX K8 H3 X')).mono ?_;rintro e w1 ⟨rfl,yL⟩)
       refine Met.intro (hJ _ _ ?_);(repeat apply Exists.intro);refine⟨?_,rfl⟩;exact⟨by simp[eb],m3.on yL⟩
   . gi_wp2_with (refine⟨trivial,?_⟩;gi_at_call 65;refine(callsIn_wide.2 (CG hr wd3 vX K8 H3 X')).mono ?_;rintro e w1 ⟨rfl,yL⟩)
     refine Met.intro (hJ _ _ ?_);(repeat apply Exists.intro);refine⟨?_,rfl⟩;exact⟨by simp[ea],m3.on yL⟩
 case rest=>
   obtain⟨rfl,m3⟩:=hcut;by_cases hq:a0=b0/\a1=b1\/mP x0 y0 x1 y1=false
   . have hqb:(decide (a0=b0/\a1=b1) || !(mP x0 y0 x1 y1))=true:=by
       rcases hq with h|h;rw[kR h];rfl;rw[h];simp
     have vx:R=[]:=by rw[<- hR];unfold jB;rw[if_pos hq]
     rw[hqb]
     gi_wp2
     exact⟨_,results_tmp rfl _ _ _,_,rfl,m3.below,by rw[vx];exact World.ownsRow_nil _ _ _ _⟩
   . have hqb:(decide (a0=b0/\a1=b1) || !(mP x0 y0 x1 y1))=false:=by
       rw[G0,Le,Bool.not_eq_false'];exact⟨fun h=>hq (Or.inl h),by cases h:mP x0 y0 x1 y1 with|true=>rfl|false=>exact absurd (Or.inr h) hq⟩
     rw[hqb];have wdc:=m3.wd;have c0:wc.cell? ⟨w.heap.size,0,none⟩=some (.int .i64 a0):=by simp[World.cell?,m3.ha]
     have c1:wc.cell? ⟨w.heap.size,1,none⟩=some (.int .i64 a1):=by simp[World.cell?,m3.ha]
     have c2:wc.cell? ⟨w.heap.size+1,0,none⟩=some (.int .i64 b0):=by simp[World.cell?,m3.hb]
     have c3:wc.cell? ⟨w.heap.size+1,1,none⟩=some (.int .i64 b1):=by simp[World.cell?,m3.hb]
     obtain⟨gR,pz⟩:=S6 hr wdc h0 h1 h2 h3 (fun h=>hq (Or.inl h));have wB:Below w.heap.size w wc:=m3.below
     gi_upto_region 6 with(refine⟨trivial,?_⟩;gi_at_call 207;refine(callsIn_wide.2 pz).mono ?_;rintro e w4 ⟨g,cap,rfl,hb4,hg4,afZ⟩;clear pz)
     have tm:LoopIn ((w4.alloc (.cells #[.pointer (some ⟨g,0,none⟩)] 319)).alloc (.cells #[.slice none 0 0] 272)) w (w.heap.size+1+1) w4.heap.size (w4.heap.size+1) g cap (xW a0 a1 b0 b1) x0 y0 x1 y1 (.slice none 0 0) []:=LoopIn.start (m3.on hb4) afZ;clear c0 c1 c2 c3 hb4 afZ;generalize hW5:(w4.alloc (.cells #[.pointer (some ⟨g,0,none⟩)] 319)).alloc (.cells #[.slice none 0 0] 272)=W5 at *;generalize hr4:xW a0 a1 b0 b1=r at *;have hw5:=tm.GM.cell;have Zj:=tm.vS.bool 8 rfl
     gi_upto_if 36 with fail
     gi_cut [9]from 37 (fun s wc=>s = .int .i64 (if qb r 8 then 1 else 0)/\∃v,LoopIn wc w (w.heap.size+1+1) w4.heap.size (w4.heap.size+1) g cap r x0 y0 x1 y1 v (gu r x0 y0 x1 y1))
     case first=>
       rename_i J K' hJ ZA;cases h8:qb r 8 with
       | false=>
         rw[h8]at Zj;simp only[h8]at hJ
         gi_wp2
         refine Met.intro (hJ _ _ ?_)
         (repeat apply Exists.intro)
         refine⟨?_,rfl⟩;exact⟨by simp,_,by rw[show gu r x0 y0 x1 y1=[]by unfold gu;rw[h8];rfl];exact tm⟩
       | true=>
         rw[h8]at Zj;simp only[h8]at hJ;have hd:=tm.on (Below.refl _ _).drew;have h54:W5.drew.cell? ⟨g,4,none⟩=some (.bool (qb r 4)):=tm.vS.bool 4 rfl;have Zr:=tm.vS.int 10 rfl;have h11:=tm.vS.int 11 rfl;have Vp:Tryz.prog.follows .mixedOrders=true:=by kernel_rfl
         gi_upto_region 8 with fail
         have L8:=@Yc W5 w4.heap.size g (qb r 4) (qq r 10) (qq r 11) hw5 h54 Zr h11;simp only[ab7,lB,Tryz.f169,Option.getD,Nat.beq,jG,if_false,if_true,qH,nc,List.headD]at L8;refine L8 ?_;clear L8;intro v37 v38 v39 v40 v41 v42 v43 v44 v45 v46 v47 v48 v49;have amy: -1200000<=qq r 10/\qq r 10<=1200000:=gR.in_.2.2.2.2.2.2.2.2.2.2.1;have amz: -1200000<=qq r 11/\qq r 11<=1200000:=gR.in_.2.2.2.2.2.2.2.2.2.2.2.1;obtain⟨Mk,hpy⟩:=MP (t:=qb r 4) (u:=qq r 10) (v:=qq r 11) ⟨by omega,by omega⟩ ⟨by omega,by omega⟩;have ZB:gu r x0 y0 x1 y1=if nH x0 y0 x1 y1 (px (qb r 4) (qq r 10) (qq r 11)) (py (qb r 4) (qq r 10) (qq r 11))=true then [[0,px (qb r 4) (qq r 10) (qq r 11),py (qb r 4) (qq r 10) (qq r 11)]]else []:=by unfold gu;rw[h8];rfl
         have wdd:=hd.wd;have c0:W5.drew.cell? ⟨w.heap.size+1+1,0,none⟩=some (.int .i64 x0):=by simp[World.cell?,hd.eo]
         have c1:W5.drew.cell? ⟨w.heap.size+1+1,1,none⟩=some (.int .i64 y0):=by simp[World.cell?,hd.eo]
         have c2:W5.drew.cell? ⟨w.heap.size+1+1,2,none⟩=some (.int .i64 x1):=by simp[World.cell?,hd.eo]
         have c3:W5.drew.cell? ⟨w.heap.size+1+1,3,none⟩=some (.int .i64 y1):=by simp[World.cell?,hd.eo]
         have abb:(4000:Nat)<=maxLen:=by decide
         obtain⟨i0,hi,Pe,Zz,hz2⟩:=info_parts MR;generalize px (qb r 4) (qq r 10) (qq r 11)=pX at *;generalize py (qb r 4) (qq r 10) (qq r 11)=pY at *
         gi_wp2_with (first
           |(refine⟨trivial,?_⟩;gi_at_call 168;refine(callsIn_wide.2 (IV hr wdd vX K8 H3 X' Mk hpy).2).mono ?_;rintro e w6 ⟨rfl,hb6⟩;have Tb:=hd.on hb6;clear c0 c1 c2 c3 hw5 Zj h54 Zr h11;have am2:=Tb.C0.cell)
           |(gi_at_builtin;refine wpListIn_append_own _ rfl _ _ 272 rfl w.heap.size 276 i0 (.agg #[.int .i64 0,.int .i64 0,.int .i64 0]) 3 24 Tryz.underlying272 hi Pe Zz hz2 rfl (by decide) _ _ _ rfl (Tb.own.alloc _) ⟨w6.heap.size,0,none⟩ 1 1 [.int .i64 0,.int .i64 pX,.int .i64 pY] rfl rfl (Ai _ _ _ _ _) (by simp[Value.oneCell']) (by simp;omega) (by simp) (by have:=Tb.below.size;simp;omega) ?_;intro v3 w7 CL zq _;obtain⟨g',qB,rfl⟩:=ownsRow_succ CL;obtain⟨VC,YJ,VE,uX,amx⟩:=Tb.C0.appended (by decide) Tb.own Tb.below.size Tb.VA CL zq;have uP:=VC.cell;have hf1:=VC.frozen))
         all_goals (refine Met.intro (hJ _ _ ?_);(repeat apply Exists.intro);refine⟨?_,rfl⟩)
         refine⟨by simp,.slice (some ⟨g',0,none⟩) (([]:List (List Int)).length+1) qB,?_⟩;rw[ZB,if_pos (by assumption)];exact LoopIn.app Tb zq CL;refine⟨by simp,.slice none 0 0,?_⟩;rw[ZB,show nH x0 y0 x1 y1 pX pY=false by assumption,if_neg (by decide)];exact Tb
     case rest=>
       obtain⟨rfl,v6,Tb⟩:=hcut;rename_i K1 a1;have hlen:(gu r x0 y0 x1 y1).length<=1000:=by
         unfold gu;split;split<;>simp;simp
       have hR':R=gu r x0 y0 x1 y1++nI r x0 y0 x1 y1 (if qb r 8 then 1 else 0):=by rw[<- hR];unfold jB;rw[if_neg hq,hr4]
       have T:=@ab8 hr _ w (w.heap.size+1+1) w4.heap.size (w4.heap.size+1) g cap r x0 y0 x1 y1 v6 _ Tb gR (if qb r 8 then 1 else 0) hlen h4 h5 h6 h7 R hR';simp only[KT,behind,lA,Tryz.f169,Option.getD,Nat.beq,jG,if_false,if_true]at T;exact a1 _ _ T
end
section
open Go.Sx Go.RowKit Go
def inP(n:Int):Bool:=decide (-268500000<=n)&&decide (n<=268500000)
def inS(n:Int):Bool:=decide (-64<=n)&&decide (n<=100)
theorem Te{n:Int}:inP n=true↔-268500000<=n/\n<=268500000:=by simp[inP]
theorem Tf{n:Int}:inS n=true↔-64<=n/\n<=100:=by simp[inS]
noncomputable def Ce:List DV->Option (List DV)
 | [.i a0,.i a1,.i b0,.i b1,.i x0,.i y0,.i x1,.i y1]=>
   if((inP a0&&inP a1)&&(inP b0&&inP b1))&&((inS x0&&inS y0)&&(inS x1&&inS y1))then some [.l (jB a0 a1 b0 b1 x0 y0 x1 y1)]else none
 |_=>none
theorem Ye:∀ds rs,Ce ds=some rs->kinds (bL CN.res) rs=true:=by
 intro ds rs h;unfold Ce at h;split at h;split at h<;>cases h;rfl;cases h
theorem aca(hr:gF):Has PP Wd 169 (F9 CN Ce):=by
 unfold Has;refine .inl ⟨fun w args=>dT Tryz.func169 rfl rfl w args,fun w vs ds hw ha hp=>?_⟩;obtain⟨rs,_,hx⟩:=hp;obtain⟨b8,rfl,hf⟩:=ha;unfold Ce at hx;split at hx;rename_i a0 a1 b0 b1 x0 y0 x1 y1;split at hx;rename_i hc;cases hx;have CX:=hc;simp only[ao,Te,Tf]at CX;obtain⟨⟨⟨h0,h1⟩,h2,h3⟩,⟨h4,h5⟩,h6,h7⟩:=CX
 match b8,hf with
 | [c0,c1,c2,c3,c4,c5,c6,c7],hf=>
   obtain⟨e0,e1,e2,e3,e4,e5,e6,e7,_⟩:=hf;simp only[kX]at e0 e1 e2 e3 e4 e5 e6 e7;subst e0;subst e1;subst e2;subst e3;subst e4;subst e5;subst e6;subst e7;refine(O5 hr hw h0 h1 h2 h3 h4 h5 h6 h7).mono ?_;rintro e w' ⟨v,rfl,hb,bN⟩;refine⟨[v],[.l (jB a0 a1 b0 b1 x0 y0 x1 y1)],rfl,hb,⟨⟨by decide,bN⟩,trivial⟩,?_,?_⟩;intro i j u u' E8 hi hj
   match i,j,hi,hj with
   |0,0,_,_=>exact absurd rfl E8
   |0,j+1,_,hj=>simp at hj
   |i+1,_,hi,_=>simp at hi
   show Ce _=_;simp only[Ce,hc,if_true]
 cases hx;cases hx
theorem MT{r:List Int}(gR:lz r):0<=lO r/\lO r<=2500000:=by
 have hp:(kh 210).jA [.l [r]]:=by rw[XV];exact⟨⟨oQ gR,trivial⟩,fun p hp=>by cases hp⟩
 obtain⟨_,hq,_⟩:=pR (k:=210) (by decide) hp;rw[XV]at hq;unfold lO;generalize gv 210 [.l [r]]=rs at hq
 match rs,hq with
 | [.i n],hq=>exact hq.1
theorem MU{r:List Int}(gR:lz r): -1<=fE r/\fE r<=1:=by
 have hp:(kh 211).jA [.l [r]]:=by rw[XW];exact⟨⟨oQ gR,trivial⟩,fun p hp=>by cases hp⟩
 obtain⟨_,hq,_⟩:=pR (k:=211) (by decide) hp;rw[XW]at hq;unfold fE;generalize gv 211 [.l [r]]=rs at hq
 match rs,hq with
 | [.i n],hq=>exact hq.1
theorem O6{r:List Int}(gR:lz r){u:Int}(hu: -8388608<=u/\u<=8388608):gG (jX r u):=by
 have hp:(kh 251).jA [.l [r],.i u]:=by
   rw[XY];refine⟨⟨oQ gR,hu,trivial⟩,fun p hp=>?_⟩;obtain rfl:p=_:=kL.1 hp;exact GK gR.ne
 obtain⟨_,hq,_⟩:=pR (k:=251) (by decide) hp;rw[XY]at hq;unfold jX;generalize gv 251 [.l [r],.i u]=rs at hq
 match rs,hq with
 | [.i n],hq=>
   have:=hq.1;exact⟨by have:=this.1;show -9223372036854775808<=n;omega,by have:=this.2;show n<=9223372036854775807;omega⟩
theorem acb{x0 y0 x1 y1 x y:Int}(h0:gG x0)(h1:gG y0)(h2:gG x1)(h3:gG y1)(h4:gG x)(h5:gG y)(h:nH x0 y0 x1 y1 x y=true):(x0<=x/\x<x1)/\y0<=y/\y<y1:=by
 have hp:(kh 168).jA [.i x0,.i y0,.i x1,.i y1,.i x,.i y]:=by
   rw[XZ];exact⟨⟨h0,h1,h2,h3,h4,h5,trivial⟩,fun p hp=>by cases hp⟩
 obtain⟨_,hq,zL⟩:=pR (k:=168) (by decide) hp;rw[XZ]at hq zL;unfold nH at h;generalize hg:gv 168 [.i x0,.i y0,.i x1,.i y1,.i x,.i y]=rs at hq;rw[hg]at h zL
 match rs,hq with
 | [.b n],hq=>
   have h:n=true:=h;subst h;have hq3:=zL _ (kL.2 rfl);have:(!true||((decide (x0<=x)&&decide (x<x1))&&(decide (y0<=y)&&decide (y<y1))))=true:=hq3;simpa using this
theorem acd{a0 a1 b0 b1:Int}(h0: -268500000<=a0/\a0<=268500000)(h1: -268500000<=a1/\a1<=268500000)(h2: -268500000<=b0/\b0<=268500000)(h3: -268500000<=b1/\b1<=268500000)(cV:¬(a0=b0/\a1=b1)):lz (xW a0 a1 b0 b1):=by
 have hp:(kh 207).jA [.i a0,.i a1,.i b0,.i b1]:=by
   rw[XU];refine⟨⟨h0,h1,h2,h3,trivial⟩,fun p hp=>?_⟩;obtain rfl:p=_:=kL.1 hp;have:(decide (a0=b0)&&decide (a1=b1))=false:=by
     rw[adm,Le,Le];exact Classical.not_and_iff_not_or_not.1 cV
   show(!(decide (a0=b0)&&decide (a1=b1)))=true;rw[this];rfl
 obtain⟨_,hq,zL⟩:=pR (k:=207) (by decide) hp;rw[XU]at hq zL;unfold xW;generalize hg:gv 207 [.i a0,.i a1,.i b0,.i b1]=rs at hq;rw[hg]at zL
 match rs,hq with
 | [d],hq=>
   obtain⟨r,rfl,bl⟩:=MO hq.1;have PJ:=zL _ (kL.2 rfl);refine⟨bl,fun e=>?_⟩;have e':(decide (r.getD 2 0=r.getD 0 0))=true:=kR e;have:(!(decide (r.getD 2 0=r.getD 0 0)))=true:=PJ;rw[e']at this;cases this
def CO(row:List Int):Prop:=cN [(0,4000000),(-64,100),(-64,100)] 0 row
section
variable {x0 y0 x1 y1:Int}(h4: -64<=x0/\x0<=100)(h5: -64<=y0/\y0<=100)(h6: -64<=x1/\x1<=100)(h7: -64<=y1/\y1<=100)
theorem Tg{x0:Int}{y0:Int}{x1:Int}{y1:Int}(h4: -64<=x0/\x0<=100)(h5: -64<=y0/\y0<=100)(h6: -64<=x1/\x1<=100)(h7: -64<=y1/\y1<=100){k x y:Int}(hk:0<=k/\k<=4000000)(hx:gG x)(hy:gG y)(h:nH x0 y0 x1 y1 x y=true):CO [k,x,y]:=by
 obtain⟨⟨e1,e2⟩,e3,e4⟩:=acb ⟨by omega,by omega⟩ ⟨by omega,by omega⟩ ⟨by omega,by omega⟩ ⟨by omega,by omega⟩ hx hy h;exact⟨hk,⟨by show -64<=x;omega,by show x<=100;omega⟩,⟨by show -64<=y;omega,by show y<=100;omega⟩,trivial⟩
theorem Yf{x0:Int}{y0:Int}{x1:Int}{y1:Int}(h4: -64<=x0/\x0<=100)(h5: -64<=y0/\y0<=100)(h6: -64<=x1/\x1<=100)(h7: -64<=y1/\y1<=100){r:List Int}(gR:lz r):(gu r x0 y0 x1 y1).length<=1/\∀row∈gu r x0 y0 x1 y1,CO row:=by
 have amy: -1200000<=qq r 10/\qq r 10<=1200000:=gR.in_.2.2.2.2.2.2.2.2.2.2.1;have amz: -1200000<=qq r 11/\qq r 11<=1200000:=gR.in_.2.2.2.2.2.2.2.2.2.2.2.1;obtain⟨Mk,hpy⟩:=MP (t:=qb r 4) (u:=qq r 10) (v:=qq r 11) ⟨by omega,by omega⟩ ⟨by omega,by omega⟩;unfold gu;by_cases h8:qb r 8=true;rw[if_pos h8];by_cases hh:nH x0 y0 x1 y1 (px (qb r 4) (qq r 10) (qq r 11)) (py (qb r 4) (qq r 10) (qq r 11))=true;rw[if_pos hh];exact⟨fz _,fun row hm=>by rw[kL.1 hm];exact Tg h4 h5 h6 h7 ⟨by omega,by omega⟩ Mk hpy hh⟩;rw[if_neg hh];exact⟨Nat.zero_le _,fun row hm=>by cases hm⟩;rw[if_neg h8];exact⟨Nat.zero_le _,fun row hm=>by cases hm⟩
theorem Yg{x0:Int}{y0:Int}{x1:Int}{y1:Int}(h4: -64<=x0/\x0<=100)(h5: -64<=y0/\y0<=100)(h6: -64<=x1/\x1<=100)(h7: -64<=y1/\y1<=100){r:List Int}(gR:lz r){ahead bg en:Int}(ha:0<=ahead/\ahead<=1)(hb:0<=bg/\bg<=2500000)(hu: -8388608<=iO r bg/\iO r bg<=8388608)(hm:0<=lP bg en/\lP bg en<=164) :
   (mB r x0 y0 x1 y1 ahead bg en).length<=164/\∀row∈mB r x0 y0 x1 y1 ahead bg en,CO row:=by
 unfold mB;have hlen:(iE r (iO r bg) (lP bg en).toNat).length=(lP bg en).toNat:=by simp[iE]
 constructor;have:=yq (qb r 4) x0 y0 x1 y1 (wrap64 (ahead+bg)) (iE r (iO r bg) (lP bg en).toNat);omega;intro row bl;unfold dO at bl;obtain⟨i,hi,bl⟩:=List.mem_flatMap.1 bl;have hi:=wq.1 hi;unfold gy at bl;have Ni:(iE r (iO r bg) (lP bg en).toNat)[i]?=some ((iE r (iO r bg) (lP bg en).toNat).getD i (0,0)):=by
   rw[cT,eT hi];rfl
 obtain⟨Rx,hp2⟩:=S8 hu (O6 gR hu) Ni;generalize(iE r (iO r bg) (lP bg en).toNat).getD i (0,0)=p at *;obtain⟨Mk,hpy⟩:=MP (t:=qb r 4) Rx hp2;by_cases hh:nH x0 y0 x1 y1 (px (qb r 4) p.1 p.2) (py (qb r 4) p.1 p.2)=true;rw[if_pos hh]at bl;rw[kL.1 bl];have e1:wrap64 (ahead+bg)=ahead+bg:=fJ (by omega) (by omega);have e2:wrap64 (ahead+bg+(i:Int))=ahead+bg+i:=fJ (by omega) (by omega);rw[e1,e2];exact Tg h4 h5 h6 h7 ⟨by omega,by omega⟩ Mk hpy hh;rw[if_neg hh]at bl;cases bl
theorem O7{x0:Int}{y0:Int}{x1:Int}{y1:Int}(h4: -64<=x0/\x0<=100)(h5: -64<=y0/\y0<=100)(h6: -64<=x1/\x1<=100)(h7: -64<=y1/\y1<=100){a0 a1 b0 b1:Int}(h0: -268500000<=a0/\a0<=268500000)(h1: -268500000<=a1/\a1<=268500000)(h2: -268500000<=b0/\b0<=268500000)(h3: -268500000<=b1/\b1<=268500000) :
   (jB a0 a1 b0 b1 x0 y0 x1 y1).length<=200/\∀row∈jB a0 a1 b0 b1 x0 y0 x1 y1,CO row:=by
 unfold jB;by_cases hq:a0=b0/\a1=b1\/mP x0 y0 x1 y1=false;rw[if_pos hq];exact⟨Nat.zero_le _,fun row hm=>by cases hm⟩;rw[if_neg hq];have gR:=acd h0 h1 h2 h3 fun h=>hq (Or.inl h);generalize xW a0 a1 b0 b1=r at *;obtain⟨a1,a2⟩:=Yf h4 h5 h6 h7 gR;have ab9: -64<=lq r x0 y0/\lq r x0 y0<=100:=by unfold lq;split<;>omega
 have ab': -64<=lq r x1 y1/\lq r x1 y1<=100:=by unfold lq;split<;>omega
 have hm:(nI r x0 y0 x1 y1 (if qb r 8 then 1 else 0)).length<=164/\∀row∈nI r x0 y0 x1 y1 (if qb r 8 then 1 else 0),CO row:=by
   unfold nI;by_cases Yd:CZ r (lq r x0 y0) (lq r x1 y1)<wX r (lq r x0 y0) (lq r x1 y1);rw[if_pos Yd];exact⟨Nat.zero_le _,fun row hm=>by cases hm⟩;rw[if_neg Yd];obtain⟨⟨b1,b2⟩,b3⟩:=ER gR (MU gR).1 (MU gR).2 (MT gR).1 (MT gR).2 ab9 ab' Yd;exact Yg h4 h5 h6 h7 gR (by split<;>omega) b3 b1 b2
 obtain⟨m1,m2⟩:=hm;refine⟨by rw[ff];omega,fun row bl=>?_⟩;rcases mi.1 bl with h|h;exact a2 row h;exact m2 row h
end
theorem Y1:mO PP lG 169=none:=by kernel_rfl
theorem ace:kc 169=⟨[Pc,Pc,Pc,Pc,.i (-64) 100,.i (-64) 100,.i (-64) 100,.i (-64) 100],[],[.l 0 (some 200) [(0,4000000),(-64,100),(-64,100)]],[]⟩:=by kernel_rfl
theorem amJ{X:bY}(hX:X 169=Ce):vy (mO PP lG) X 169 (kc 169).jA (kc 169).lh:=by
 rw[ace];rintro ds ⟨ha,_⟩
 match ds,ha with
 | [.i a0,.i a1,.i b0,.i b1,.i x0,.i y0,.i x1,.i y1],ha=>
   obtain⟨h0,h1,h2,h3,h4,h5,h6,h7,_⟩:=ha;have h0: -268500000<=a0/\a0<=268500000:=h0;have h1: -268500000<=a1/\a1<=268500000:=h1;have h2: -268500000<=b0/\b0<=268500000:=h2;have h3: -268500000<=b1/\b1<=268500000:=h3;have h4: -64<=x0/\x0<=100:=h4;have h5: -64<=y0/\y0<=100:=h5;have h6: -64<=x1/\x1<=100:=h6;have h7: -64<=y1/\y1<=100:=h7;obtain⟨l1,l2⟩:=O7 h4 h5 h6 h7 h0 h1 h2 h3;refine⟨[.l (jB a0 a1 b0 b1 x0 y0 x1 y1)],jy Y1 ?_,⟨⟨by omega,fun y e=>by cases e;omega,l2⟩,trivial⟩,fun p hp=>by cases hp⟩;rw[hX];simp only[Ce];rw[if_pos];simp only[ao,Te,Tf];exact⟨⟨⟨h0,h1⟩,h2,h3⟩,⟨h4,h5⟩,h6,h7⟩
noncomputable abbrev XF:bY:=XX Ce
theorem ae6(hr:gF):BU PP Wd (TT PP) XF Xd qX:=af3 _ hr (aca hr) Ye
theorem h7F:sr (TT PP) XF kc (ord.take 7):=by
 intro j hj;have hj:j=283\/j=140\/j=243\/j=266\/j=87\/j=146\/j=169:=by simpa[ord]using hj
 rcases hj with rfl|rfl|rfl|rfl|rfl|rfl|rfl;exact ai6 rfl;exact ai3 rfl;exact ai4 rfl;exact ai5 rfl;exact g87 rfl;exact ai9 rfl;exact amJ rfl
end
end Go.Proofs.YtohebioanhliiaaGreatDoor.av

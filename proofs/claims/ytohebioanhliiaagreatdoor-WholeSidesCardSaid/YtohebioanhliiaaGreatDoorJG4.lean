/- walk.Within: whole. -/
import Derived.Test.YtohebioanhliiaaGreatDoorJG3
set_option maxRecDepth 100000
set_option linter.unusedVariables false
set_option linter.unusedSimpArgs false
set_option maxRecDepth 20000
namespace Go.Proofs.YtohebioanhliiaaGreatDoor.aF
section
open Go.Sx Go.RowKit Go.Shelf Go VY
attribute [local go_sem] Oper.semAt_some
noncomputable def gd(r:List Int)(x0 y0 x1 y1:Int):List (List Int):=
 if qb r 8 then(if np x0 y0 x1 y1 (px (qb r 4) (qq r 10) (qq r 11)) (py (qb r 4) (qq r 10) (qq r 11))then [[0,px (qb r 4) (qq r 10) (qq r 11),py (qb r 4) (qq r 10) (qq r 11)]]else [])else []
noncomputable def nR(r:List Int):Int:=if qb r 9 then wrap64 (kX r-1)else kX r
def kD(r:List Int)(x0 y0:Int):Int:=if qb r 4 then y0 else x0
noncomputable def vn(r:List Int)(lo hi:Int):Int:=max (if fq r<0 then wrap64 (wrap64 (qq r 6-hi)+1)else wrap64 (lo-qq r 6)) 0
noncomputable def By(r:List Int)(lo hi:Int):Int:=min (if fq r<0 then wrap64 (qq r 6-lo)else wrap64 (wrap64 (hi-1)-qq r 6)) (wrap64 (nR r-1))
noncomputable def IZ:Code:=behind 11 40 (Tryz.f169.body.getD .skip)
noncomputable def nq(r:List Int)(x0 y0 x1 y1 ahead:Int):List (List Int):=
 if vn r (kD r x0 y0) (kD r x1 y1)>By r (kD r x0 y0) (kD r x1 y1)then []else l6 r x0 y0 x1 y1 ahead (vn r (kD r x0 y0) (kD r x1 y1)) (By r (kD r x0 y0) (kD r x1 y1))
theorem Dk{r:List Int}(hZ:kE r)(Cu: -1<=fq r)(Fi:fq r<=1)(Na:0<=kX r)(XI:kX r<=2500000){lo hi:Int}(vE: -64<=lo/\lo<=100)(Wv: -64<=hi/\hi<=100)(h:¬ By r lo hi<vn r lo hi) :
   ((-8388608<=iz r (vn r lo hi)/\iz r (vn r lo hi)<=8388608)/\(0<=kY (vn r lo hi) (By r lo hi)/\kY (vn r lo hi) (By r lo hi)<=164))/\0<=vn r lo hi/\vn r lo hi<=2500000:=by
 have hq: -1200000<=qq r 6/\qq r 6<=1200000:=hZ.in_.2.2.2.2.2.2.1;have hn: -1<=nR r/\nR r<=2500000:=by
   unfold nR;split;rw[fw (by omega) (by omega)];omega;omega
 have hw:wrap64 (nR r-1)=nR r-1:=fw (by omega) (by omega);have hd:By r lo hi-vn r lo hi<=163/\0<=vn r lo hi/\By r lo hi<=2500000:=by
   unfold By vn;rw[hw];by_cases hs:fq r<0;rw[if_pos hs,if_pos hs,fw (a:=qq r 6-hi) (by omega) (by omega),fw (a:=qq r 6-hi+1) (by omega) (by omega),fw (a:=qq r 6-lo) (by omega) (by omega)];omega;rw[if_neg hs,if_neg hs,fw (a:=hi-1) (by omega) (by omega),fw (a:=lo-qq r 6) (by omega) (by omega),fw (a:=hi-1-qq r 6) (by omega) (by omega)];omega
 obtain⟨zl,hd2,hd3⟩:=hd;refine⟨?_,hd2,by omega⟩;constructor;unfold iz;have hm: -2500000<=vn r lo hi*fq r/\vn r lo hi*fq r<=2500000:=by
   have:fq r = -1\/fq r=0\/fq r=1:=by omega
   rcases this with e|e|e<;>rw[e]<;>omega
 rw[fw (a:=vn r lo hi*fq r) (by omega) (by omega),fw (by omega) (by omega)];omega;unfold kY;rw[fw (a:=By r lo hi-vn r lo hi) (by omega) (by omega),fw (by omega) (by omega)];omega
theorem tO{r:List Int}(hZ:kE r)(Cu: -1<=fq r)(Fi:fq r<=1)(Na:0<=kX r)(XI:kX r<=2500000){lo hi:Int}(vE: -64<=lo/\lo<=100)(Wv: -64<=hi/\hi<=100)(h:¬ By r lo hi<vn r lo hi) :
   (-8388608<=iz r (vn r lo hi)/\iz r (vn r lo hi)<=8388608)/\(0<=kY (vn r lo hi) (By r lo hi)/\kY (vn r lo hi) (By r lo hi)<=1000):=by
 obtain⟨⟨h1,h2,h3⟩,_⟩:=Dk hZ Cu Fi Na XI vE Wv h;exact⟨h1,h2,by omega⟩
set_option maxHeartbeats 8000000 in
theorem aaA(hr:gp){W w0:World}{br kJ bo g cap:Nat}{r:List Int}{x0 y0 x1 y1:Int}{v:Value}{rows:List (List Int)}(h:LoopIn W w0 br kJ bo g cap r x0 y0 x1 y1 v rows)(hZ:kE r){ahead:Int}(hlen:rows.length<=1000)
   (h4: -64<=x0/\x0<=100) (h5: -64<=y0/\y0<=100) (h6: -64<=x1/\x1<=100) (h7: -64<=y1/\y1<=100) {R:List (List Int)} (hR:R=rows++nq r x0 y0 x1 y1 ahead) {t0 t1 t2 t3 t4 t6 t10 t11 t12 t13 t14 t15 t16 t17 t18 t19 t20 t21 t22 t23 t24 t25 t26 t27 t28 t29 t30 t31 t32 t33 t34 t35 t36 t37 t38 t39 t40 t41 t42 t43 t44 t45 t46 t47 t48 t49 t50 t51 t52 t53 t54 t55 t56 t57 t58 t59 t60 t61 t62 t63 t64 t65 t66 t67 t68 t69 t70 t71 t72 t73 t74 t75 t76 t77 t78 t79 t80 t81 t82 t83 t84 t85 t86 t87 t88 t89 t90 t91 t92 t93 t94 t95 t96 t97 t98 t99 t100 t101 t102 t103 t104 t105 t106 t107 t108 t109 t110 t111 t112 t113 t114 t115 t116 t117 t118 t119 t120 t121 t122 t123 t124 t125 t126 t127 t128 t129 t130 t131 t132 t133 t134 t135 t136 t137 t138 t139 t140 t141 t142 t143 t144 t145 t146 t147 t148 t149 t150 t151 t152 t153 t154 t155 t156 t157 t158 t159:Value} :
   IZ.wpIn Fence.wide 5 Tryz.prog (zw w0 R)
     {tmps:=#[t0,t1,t2,t3,t4,.pointer (some ⟨br,0,none⟩),t6,.pointer (some ⟨kJ,0,none⟩),.pointer (some ⟨bo,0,none⟩),.int .i64 ahead,t10,t11,t12,t13,t14,t15,t16,t17,t18,t19,t20,t21,t22,t23,t24,t25,t26,t27,t28,t29,t30,t31,t32,t33,t34,t35,t36,t37,t38,t39,t40,t41,t42,t43,t44,t45,t46,t47,t48,t49,t50,t51,t52,t53,t54,t55,t56,t57,t58,t59,t60,t61,t62,t63,t64,t65,t66,t67,t68,t69,t70,t71,t72,t73,t74,t75,t76,t77,t78,t79,t80,t81,t82,t83,t84,t85,t86,t87,t88,t89,t90,t91,t92,t93,t94,t95,t96,t97,t98,t99,t100,t101,t102,t103,t104,t105,t106,t107,t108,t109,t110,t111,t112,t113,t114,t115,t116,t117,t118,t119,t120,t121,t122,t123,t124,t125,t126,t127,t128,t129,t130,t131,t132,t133,t134,t135,t136,t137,t138,t139,t140,t141,t142,t143,t144,t145,t146,t147,t148,t149,t150,t151,t152,t153,t154,t155,t156,t157,t158,t159],defers:=[] } W:=by
 simp only[IZ,behind,kF,Tryz.f169,Option.getD,Nat.beq,jy,if_false,if_true];have Tn:Tryz.prog.follows .mixedOrders=true:=by kernel_rfl
 have hw0:=h.E6.cell;have IW:=h.wd
 gi_upto_if 65 with(refine⟨trivial,?_⟩;gi_at_call 210;refine(callsIn_wide.2 (Di hr IW h.uF hZ).2).mono ?_;rintro e w1 ⟨rfl,xh⟩;have h1:=h.on xh;have hw1:=h1.E6.cell;have Xx:=h1.uF.bool 9 rfl)
 gi_cut [12]from 66 (fun s wc=>s = .int .i64 (nR r)/\wc=w1)
 case first=>
   rename_i J K' hJ XJ;have hnR:nR r=if qb r 9 then wrap64 (kX r-1)else kX r:=rfl
   cases h9:qb r 9 with
   | false=>
     rw[h9]at Xx hnR;simp only[h9]at hJ
     gi_wp2
     refine Met.intro (hJ _ _ ?_)
     (repeat apply Exists.intro)
     refine⟨?_,rfl⟩;exact⟨by rw[hnR];rfl,rfl⟩
   | true=>
     rw[h9]at Xx hnR;simp only[h9]at hJ
     gi_wp2
     refine Met.intro (hJ _ _ ?_)
     (repeat apply Exists.intro)
     refine⟨?_,rfl⟩;exact⟨by rw[hnR];rfl,rfl⟩
 case rest=>
   obtain⟨rfl,rfl⟩:=hcut;clear Xx;have c0:wc.cell? ⟨br,0,none⟩=some (.int .i64 x0):=by simp[World.cell?,h1.dZ]
   have c1:wc.cell? ⟨br,1,none⟩=some (.int .i64 y0):=by simp[World.cell?,h1.dZ]
   have c2:wc.cell? ⟨br,2,none⟩=some (.int .i64 x1):=by simp[World.cell?,h1.dZ]
   have c3:wc.cell? ⟨br,3,none⟩=some (.int .i64 y1):=by simp[World.cell?,h1.dZ]
   have h14:=h1.uF.bool 4 rfl
   gi_wp2
   gi_region
   gi_upto_if 75 with fail
   gi_cut [13,14]from 76 (fun s t w2=>s = .int .i64 (kD r x0 y0)/\t = .int .i64 (kD r x1 y1)/\LoopIn w2 w0 br kJ bo g cap r x0 y0 x1 y1 v rows)
   case first=>
     rename_i J K' hJ XJ;have vE:∀a b,kD r a b=if qb r 4 then b else a:=fun _ _=>rfl
     cases hq:qb r 4 with
     | false=>
       rw[hq]at h14;simp only[hq]at hJ
       gi_wp2
       refine Met.intro (hJ _ _ ?_)
       (repeat apply Exists.intro)
       refine⟨?_,rfl⟩;exact⟨by rw[vE,hq];rfl,by rw[vE,hq];rfl,h1.on (Below.refl _ _).drew⟩
     | true=>
       rw[hq]at h14;simp only[hq]at hJ;have c1':wc.drew.cell? ⟨br,1,none⟩=some (.int .i64 y0):=c1;have c3':wc.drew.cell? ⟨br,3,none⟩=some (.int .i64 y1):=c3
       gi_wp2
       gi_region
       gi_wp2
       refine Met.intro (hJ _ _ ?_)
       (repeat apply Exists.intro)
       refine⟨?_,rfl⟩;exact⟨by rw[vE,hq];rfl,by rw[vE,hq];rfl,h1.on ((Below.refl _ _).drew.drew)⟩
   case rest=>
     obtain⟨rfl,rfl,h2⟩:=hcut;clear c0 c1 c2 c3 h14 hw1 hw0;have hw2:=h2.E6.cell;have hf2:=h2.uF.int 6 rfl;have h2d:=h2.on (Below.refl _ _).drew;have wd2:=h2d.wd;have QL:=h2d.uF;obtain⟨W2,rfl⟩:∃W2,W2=wc:=⟨_,rfl⟩;generalize afk:kD r x0 y0=lo at *;generalize afl:kD r x1 y1=hi at *;have anN:W2.drew.cell? ⟨kJ,0,none⟩=some (.pointer (some ⟨g,0,none⟩)):=hw2
     gi_upto_region 17 with fail
     gi_cut [15,16]from 80 (fun s t w2=>s = .int .i64 (wrap64 (lo-qq r 6))/\t = .int .i64 (wrap64 (wrap64 (hi-1)-qq r 6))/\w2=W2.drew)
     case first=>
       rename_i J K' hJ XJ;refine oV ?_
       first|gi_region_with_o fail|fail
       all_goals (refine XJ _ _ (Met.intro (hJ _ _ ?_));(repeat apply Exists.intro);refine⟨?_,rfl⟩;exact⟨by simp only[MR],by simp only[MR],rfl⟩)
     case rest=>
     obtain⟨rfl,rfl,rfl⟩:=hcut
     gi_upto_if 95 with(refine⟨trivial,?_⟩;gi_at_call 211;refine(callsIn_wide.2 (tV hr wd2 QL hZ).2).mono ?_;rintro e w3 ⟨rfl,hb3⟩;have h3:=h2d.on hb3;have hw3:=h3.E6.cell;have hf3:=h3.uF.int 6 rfl)
     gi_cut [15,16]from 96 (fun s t w2=>s = .int .i64 (if fq r<0 then wrap64 (wrap64 (qq r 6-hi)+1)else wrap64 (lo-qq r 6))/\t = .int .i64 (if fq r<0 then wrap64 (qq r 6-lo)else wrap64 (wrap64 (hi-1)-qq r 6))/\LoopIn w2 w0 br kJ bo g cap r x0 y0 x1 y1 v rows)
     case first=>
       rename_i J K' hJ XJ;by_cases hs:fq r<0
       . rw[if_pos hs,if_pos hs]at hJ
         gi_upto_region 19 with fail
         have L:=@QQ w3 kJ g (qq r 6) lo hi hw3 hf3;simp only[QP,kG,Tryz.f169,Option.getD,Nat.beq,jy,if_false,if_true,yS,mP,List.headD]at L;refine L ?_;clear L;intro QR v97 v98 v99 anO anP anQ anR anS v105 anT v107 anU
         gi_wp2
         refine Met.intro (hJ _ _ ?_)
         (repeat apply Exists.intro)
         refine⟨?_,rfl⟩;exact⟨rfl,rfl,h3.on (Below.refl _ _).drew⟩
       . rw[if_neg hs,if_neg hs]at hJ
         gi_wp2
         refine Met.intro (hJ _ _ ?_)
         (repeat apply Exists.intro)
         refine⟨?_,rfl⟩;exact⟨rfl,rfl,h3⟩
     case rest=>
       obtain⟨rfl,rfl,XL⟩:=hcut;have hv4:=XL.Bz.cell
       gi_upto_if 117 with fail
       have eb:max (if fq r<0 then wrap64 (wrap64 (qq r 6-hi)+1)else wrap64 (lo-qq r 6)) 0=vn r lo hi:=rfl;have ee:min (if fq r<0 then wrap64 (qq r 6-lo)else wrap64 (wrap64 (hi-1)-qq r 6)) (wrap64 (nR r-1))=By r lo hi:=rfl;rw[eb,ee];have aaB: -64<=lo/\lo<=100:=by rw[<- afk];unfold kD;split<;>omega
       have aaC: -64<=hi/\hi<=100:=by rw[<- afl];unfold kD;split<;>omega
       have hRm:nq r x0 y0 x1 y1 ahead=if vn r lo hi>By r lo hi then []else l6 r x0 y0 x1 y1 ahead (vn r lo hi) (By r lo hi):=by unfold nq;rw[afk,afl]
       obtain⟨Cu,Fi⟩:=(tV hr XL.wd XL.uF hZ).1;obtain⟨Na,XI⟩:=(Di hr XL.wd XL.uF hZ).1;by_cases V5:By r lo hi<vn r lo hi
       . rw[if_pos V5]at hRm;rw[hRm,yS]at hR;subst hR;refine wpIn_cond_true (show Value.bool (decide (By r lo hi<vn r lo hi))=_ by rw[gQ V5]) ?_
         gi_wp2
         all_goals exact⟨_,results_tmp rfl _ _ _,v,rfl,XL.below,XL.own⟩
       rw[if_neg V5]at hRm;obtain⟨Nq,tB⟩:=tO hZ Cu Fi Na XI aaB aaC V5;rename_i K1 a1;rw[hRm]at hR;subst hR;refine wpIn_cond_false (show Value.bool (decide (By r lo hi<vn r lo hi))=_ by rw[decide_eq_false V5]) (wpIn_skip ?_);have T:=@V3 hr wc w0 br kJ bo g cap r x0 y0 x1 y1 v rows XL hZ ahead (vn r lo hi) (By r lo hi) Nq tB hlen ⟨by omega,by omega⟩ ⟨by omega,by omega⟩ ⟨by omega,by omega⟩ ⟨by omega,by omega⟩;simp only[oU,behind,kF,Tryz.f169,Option.getD,Nat.beq,jy,if_false,if_true]at T;exact a1 _ _ T
end
section
open Go.Sx Go.RowKit Go.Shelf Go VY
attribute [local go_sem] Oper.semAt_some
noncomputable def jl(a0 a1 b0 b1 x0 y0 x1 y1:Int):List (List Int):=
 if a0=b0/\a1=b1\/my x0 y0 x1 y1=false then []
 else gd (wy a0 a1 b0 b1) x0 y0 x1 y1++nq (wy a0 a1 b0 b1) x0 y0 x1 y1 (if qb (wy a0 a1 b0 b1) 8 then 1 else 0)
theorem LoopIn.app{w0 w2 w3:World}{br kJ bo g cap:Nat}{r:List Int}{x0 y0 x1 y1 a b c:Int}{v2 v3:Value}{Dj:List (List Int)}{tmp:Obj}
   (iH:LoopIn w2 w0 br kJ bo g cap r x0 y0 x1 y1 v2 Dj) (qj:(w2.alloc tmp).grownBy w3 v2.ownBlock) (bM:w3.ownsRow w0.heap.size 276 3 v3 (Dj.length+1) (aB [i6,i6,i6] Dj++[.int .i64 a,.int .i64 b,.int .i64 c])) :
   LoopIn (w3.setCell ⟨bo,0,none⟩ v3) w0 br kJ bo g cap r x0 y0 x1 y1 v3 (Dj++[[a,b,c]]):=by
 have uR:=iH.below.size;obtain⟨TB,WR,TF,rC,uS⟩:=iH.Bz.appended (by decide) iH.own uR iH.Tz bM qj;obtain⟨csg,zg,ov⟩:=iH.uF.2.2;have kwy:Boxed (w3.setCell ⟨bo,0,none⟩ v3) kJ 319 _:=((iH.E6.alloc tmp).kept qj (iH.E6.not_row (by decide) iH.own)).other (ma iH.E6 iH.Bz (by decide)) _;have Fe:∀k,k<w2.heap.size->some k≠v2.ownBlock->k≠bo->(w3.setCell ⟨bo,0,none⟩ v3).heap[k]?=w2.heap[k]? :=fun k hk h1 h2=>
   (Below.heap_setCell _ _ _ k h2).trans ((qj.block k (by simp;omega) h1).trans (Below.heap_alloc _ _ _ hk))
 have rL:=Fe br (rJ.1 iH.dZ).1 (lP iH.dZ (by decide) iH.own) (Ne.symm (eF iH.Bz iH.dZ (by decide)));have hgg:=Fe g iH.uF.1 (lP ov (by decide) iH.own) (Ne.symm (eF iH.Bz ov (by decide)));refine⟨iH.IW,iH.below.trans uS,iH.Tz,WR,?_,kwy,iH.uF.gF rC.size hgg,rL.trans iH.dZ⟩;rw[G8,eY];exact TF
structure Bl(w W:World)(a0 a1 b0 b1 x0 y0 x1 y1:Int):Prop where
 IW:Wd w
 below:Below w.heap.size w W
 ha:W.heap[w.heap.size]?=some (.cells #[.int .i64 a0,.int .i64 a1] 23 (0,0))
 hb:W.heap[w.heap.size+1]?=some (.cells #[.int .i64 b0,.int .i64 b1] 23 (0,0))
 dZ:W.heap[w.heap.size+1+1]?=some (.cells #[.int .i64 x0,.int .i64 y0,.int .i64 x1,.int .i64 y1] 54 (0,0))
theorem Bl.wd{w W:World}{a0 a1 b0 b1 x0 y0 x1 y1:Int}(h:Bl w W a0 a1 b0 b1 x0 y0 x1 y1):Wd W:=Bi _ _ h.IW h.below
theorem Bl.on{w W W':World}{a0 a1 b0 b1 x0 y0 x1 y1:Int}(h:Bl w W a0 a1 b0 b1 x0 y0 x1 y1)(hb:Below W.heap.size W W'):Bl w W' a0 a1 b0 b1 x0 y0 x1 y1:=
 ⟨h.IW,h.below.trans (hb.mono h.below.size),(hb.block _ (rJ.1 h.ha).1).trans h.ha,(hb.block _ (rJ.1 h.hb).1).trans h.hb,(hb.block _ (rJ.1 h.dZ).1).trans h.dZ⟩
theorem Bl.start{w:World}(hw:Wd w)(a0 a1 b0 b1 x0 y0 x1 y1:Int):Bl w (((w.alloc (.cells #[.int .i64 a0,.int .i64 a1] 23)).alloc (.cells #[.int .i64 b0,.int .i64 b1] 23)).alloc (.cells #[.int .i64 x0,.int .i64 y0,.int .i64 x1,.int .i64 y1] 54)) a0 a1 b0 b1 x0 y0 x1 y1:=by
 refine⟨hw,(((Below.refl _ _).alloc (fu _) _).alloc (by simp) _).alloc (by simp;omega) _,?_,?_,?_⟩;exact(Below.heap_alloc _ _ _ (by simp;omega)).trans ((Below.heap_alloc _ _ _ (by simp)).trans (World.alloc_heap_new _ _));have:=World.alloc_heap_new (w.alloc (.cells #[.int .i64 a0,.int .i64 a1] 23)) (.cells #[.int .i64 b0,.int .i64 b1] 23);rw[World.size_alloc]at this;exact(Below.heap_alloc _ _ _ (by simp)).trans this;have:=World.alloc_heap_new ((w.alloc (.cells #[.int .i64 a0,.int .i64 a1] 23)).alloc (.cells #[.int .i64 b0,.int .i64 b1] 23)) (.cells #[.int .i64 x0,.int .i64 y0,.int .i64 x1,.int .i64 y1] 54);rwa[World.size_alloc,World.size_alloc]at this
theorem LoopIn.start{w W:World}{a0 a1 b0 b1 x0 y0 x1 y1:Int}(h:Bl w W a0 a1 b0 b1 x0 y0 x1 y1){g cap:Nat}{r:List Int}(hw:jD W g cap r):LoopIn ((W.alloc (.cells #[.pointer (some ⟨g,0,none⟩)] 319)).alloc (.cells #[.slice none 0 0] 272)) w (w.heap.size+1+1) W.heap.size (W.heap.size+1) g cap r x0 y0 x1 y1 (.slice none 0 0) []:=by
 have uR:=h.below.size;have hb:Below W.heap.size W ((W.alloc (.cells #[.pointer (some ⟨g,0,none⟩)] 319)).alloc (.cells #[.slice none 0 0] 272)):=((Below.refl _ _).alloc (fu _) _).alloc (by simp) _;refine⟨h.IW,h.below.trans (hb.mono uR),by omega,?_,World.ownsRow_nil _ _ _ _,(Boxed.new W 319 _).alloc _,hw.below hb,(hb.block _ (rJ.1 h.dZ).1).trans h.dZ⟩;have:=Boxed.new (W.alloc (.cells #[.pointer (some ⟨g,0,none⟩)] 319)) 272 (.slice none 0 0);rwa[World.size_alloc]at this
set_option maxHeartbeats 8000000 in
theorem MT(hr:gp){w:World}(hw:Wd w){a0 a1 b0 b1 x0 y0 x1 y1:Int}(h0: -268500000<=a0/\a0<=268500000)(h1: -268500000<=a1/\a1<=268500000)(h2: -268500000<=b0/\b0<=268500000)(h3: -268500000<=b1/\b1<=268500000)
   (h4: -64<=x0/\x0<=100) (h5: -64<=y0/\y0<=100) (h6: -64<=x1/\x1<=100) (h7: -64<=y1/\y1<=100) :
   Calls Tryz.prog 169 #[.agg #[.int .i64 a0,.int .i64 a1],.agg #[.int .i64 b0,.int .i64 b1],.agg #[.int .i64 x0,.int .i64 y0,.int .i64 x1,.int .i64 y1]] w fun e W'=>∃v',e = .returned v'/\Below w.heap.size w W'/\W'.ownsRow w.heap.size 276 3 v' (jl a0 a1 b0 b1 x0 y0 x1 y1).length (aB [i6,i6,i6] (jl a0 a1 b0 b1 x0 y0 x1 y1)):=by
 obtain⟨R,hR⟩:∃R,jl a0 a1 b0 b1 x0 y0 x1 y1=R:=⟨_,rfl⟩;rw[hR];refine(callsIn_wide (n:=5)).1 ?_;refine callsIn_of_wp_marks Tryz.func169 rfl trivial ?_;simp only[Tryz.ntmps169,List.size_toArray,yN,List.length_nil,Nat.reduceAdd,Nat.reduceSub,Array.replicate_succ,Array.replicate_zero,List.push_toArray,List.append_toArray,mP,qt];have rK:gh x0:=⟨by omega,by omega⟩;have Ji:gh y0:=⟨by omega,by omega⟩;have Pf:gh x1:=⟨by omega,by omega⟩;have V0:gh y1:=⟨by omega,by omega⟩
 gi_upto_region 1 with fail
 gi_cut [29]from 22 (fun f wc=>f = .bool (decide (a0=b0/\a1=b1) || !(my x0 y0 x1 y1))/\Bl w wc a0 a1 b0 b1 x0 y0 x1 y1)
 case first=>
   rename_i J K' hJ XJ;have m3:Bl w (((w.alloc (.cells #[.int .i64 a0,.int .i64 a1] 23)).alloc (.cells #[.int .i64 b0,.int .i64 b1] 23)).alloc (.cells #[.int .i64 x0,.int .i64 y0,.int .i64 x1,.int .i64 y1] 54)) a0 a1 b0 b1 x0 y0 x1 y1:=Bl.start hw _ _ _ _ _ _ _ _;have wd3:=m3.wd;by_cases ea:a0=b0
   . subst ea;by_cases eb:a1=b1
     . subst eb
       gi_wp2
       refine⟨trivial,?_⟩
       gi_wp2
       refine Met.intro (hJ _ _ ?_);(repeat apply Exists.intro);refine⟨?_,rfl⟩;exact⟨by simp,m3⟩
     . gi_wp2_with (refine⟨trivial,?_⟩;gi_at_call 65;refine(callsIn_wide.2 (Bg hr wd3 rK Ji Pf V0)).mono ?_;rintro e w1 ⟨rfl,xh⟩)
       refine Met.intro (hJ _ _ ?_);(repeat apply Exists.intro);refine⟨?_,rfl⟩;exact⟨by simp[eb],m3.on xh⟩
   . gi_wp2_with (refine⟨trivial,?_⟩;gi_at_call 65;refine(callsIn_wide.2 (Bg hr wd3 rK Ji Pf V0)).mono ?_;rintro e w1 ⟨rfl,xh⟩)
     refine Met.intro (hJ _ _ ?_);(repeat apply Exists.intro);refine⟨?_,rfl⟩;exact⟨by simp[ea],m3.on xh⟩
 case rest=>
   obtain⟨rfl,m3⟩:=hcut;by_cases hq:a0=b0/\a1=b1\/my x0 y0 x1 y1=false
   . have hqb:(decide (a0=b0/\a1=b1) || !(my x0 y0 x1 y1))=true:=by
       rcases hq with h|h;rw[gQ h];rfl;rw[h];simp
     have ue:R=[]:=by rw[<- hR];unfold jl;rw[if_pos hq]
     rw[hqb]
     gi_wp2
     exact⟨_,results_tmp rfl _ _ _,_,rfl,m3.below,by rw[ue];exact World.ownsRow_nil _ _ _ _⟩
   . have hqb:(decide (a0=b0/\a1=b1) || !(my x0 y0 x1 y1))=false:=by
       rw[uL,tZ,Bool.not_eq_false'];exact⟨fun h=>hq (Or.inl h),by cases h:my x0 y0 x1 y1 with|true=>rfl|false=>exact absurd (Or.inr h) hq⟩
     rw[hqb];have wdc:=m3.wd;have c0:wc.cell? ⟨w.heap.size,0,none⟩=some (.int .i64 a0):=by simp[World.cell?,m3.ha]
     have c1:wc.cell? ⟨w.heap.size,1,none⟩=some (.int .i64 a1):=by simp[World.cell?,m3.ha]
     have c2:wc.cell? ⟨w.heap.size+1,0,none⟩=some (.int .i64 b0):=by simp[World.cell?,m3.hb]
     have c3:wc.cell? ⟨w.heap.size+1,1,none⟩=some (.int .i64 b1):=by simp[World.cell?,m3.hb]
     obtain⟨hZ,oF⟩:=QI hr wdc h0 h1 h2 h3 (fun h=>hq (Or.inl h));have wB:Below w.heap.size w wc:=m3.below
     gi_upto_region 6 with(refine⟨trivial,?_⟩;gi_at_call 207;refine(callsIn_wide.2 oF).mono ?_;rintro e w4 ⟨g,cap,rfl,hb4,hg4,afi⟩;clear oF)
     have vE:LoopIn ((w4.alloc (.cells #[.pointer (some ⟨g,0,none⟩)] 319)).alloc (.cells #[.slice none 0 0] 272)) w (w.heap.size+1+1) w4.heap.size (w4.heap.size+1) g cap (wy a0 a1 b0 b1) x0 y0 x1 y1 (.slice none 0 0) []:=LoopIn.start (m3.on hb4) afi;clear c0 c1 c2 c3 hb4 afi;generalize hW5:(w4.alloc (.cells #[.pointer (some ⟨g,0,none⟩)] 319)).alloc (.cells #[.slice none 0 0] 272)=W5 at *;generalize hr4:wy a0 a1 b0 b1=r at *;have hw5:=vE.E6.cell;have h58:=vE.uF.bool 8 rfl
     gi_upto_if 36 with fail
     gi_cut [9]from 37 (fun s wc=>s = .int .i64 (if qb r 8 then 1 else 0)/\∃v,LoopIn wc w (w.heap.size+1+1) w4.heap.size (w4.heap.size+1) g cap r x0 y0 x1 y1 v (gd r x0 y0 x1 y1))
     case first=>
       rename_i J K' hJ XJ;cases h8:qb r 8 with
       | false=>
         rw[h8]at h58;simp only[h8]at hJ
         gi_wp2
         refine Met.intro (hJ _ _ ?_)
         (repeat apply Exists.intro)
         refine⟨?_,rfl⟩;exact⟨by simp,_,by rw[show gd r x0 y0 x1 y1=[]by unfold gd;rw[h8];rfl];exact vE⟩
       | true=>
         rw[h8]at h58;simp only[h8]at hJ;have hd:=vE.on (Below.refl _ _).drew;have h54:W5.drew.cell? ⟨g,4,none⟩=some (.bool (qb r 4)):=vE.uF.bool 4 rfl;have Xv:=vE.uF.int 10 rfl;have h11:=vE.uF.int 11 rfl;have Tn:Tryz.prog.follows .mixedOrders=true:=by kernel_rfl
         gi_upto_region 8 with fail
         have L8:=@V4 W5 w4.heap.size g (qb r 4) (qq r 10) (qq r 11) hw5 h54 Xv h11;simp only[aaz,kG,Tryz.f169,Option.getD,Nat.beq,jy,if_false,if_true,yS,mP,List.headD]at L8;refine L8 ?_;clear L8;intro v37 v38 v39 v40 v41 v42 v43 v44 v45 v46 v47 v48 v49;have am1: -1200000<=qq r 10/\qq r 10<=1200000:=hZ.in_.2.2.2.2.2.2.2.2.2.2.1;have am2: -1200000<=qq r 11/\qq r 11<=1200000:=hZ.in_.2.2.2.2.2.2.2.2.2.2.2.1;obtain⟨hpx,hpy⟩:=KC (t:=qb r 4) (u:=qq r 10) (v:=qq r 11) ⟨by omega,by omega⟩ ⟨by omega,by omega⟩;have XK:gd r x0 y0 x1 y1=if np x0 y0 x1 y1 (px (qb r 4) (qq r 10) (qq r 11)) (py (qb r 4) (qq r 10) (qq r 11))=true then [[0,px (qb r 4) (qq r 10) (qq r 11),py (qb r 4) (qq r 10) (qq r 11)]]else []:=by unfold gd;rw[h8];rfl
         have wdd:=hd.wd;have c0:W5.drew.cell? ⟨w.heap.size+1+1,0,none⟩=some (.int .i64 x0):=by simp[World.cell?,hd.dZ]
         have c1:W5.drew.cell? ⟨w.heap.size+1+1,1,none⟩=some (.int .i64 y0):=by simp[World.cell?,hd.dZ]
         have c2:W5.drew.cell? ⟨w.heap.size+1+1,2,none⟩=some (.int .i64 x1):=by simp[World.cell?,hd.dZ]
         have c3:W5.drew.cell? ⟨w.heap.size+1+1,3,none⟩=some (.int .i64 y1):=by simp[World.cell?,hd.dZ]
         have Z9:(4000:Nat)<=maxLen:=by decide
         obtain⟨i0,hi,Na,XI,hz2⟩:=info_parts KE;generalize px (qb r 4) (qq r 10) (qq r 11)=pX at *;generalize py (qb r 4) (qq r 10) (qq r 11)=pY at *
         gi_wp2_with (first
           |(refine⟨trivial,?_⟩;gi_at_call 168;refine(callsIn_wide.2 (G6 hr wdd rK Ji Pf V0 hpx hpy).2).mono ?_;rintro e w6 ⟨rfl,hb6⟩;have QO:=hd.on hb6;clear c0 c1 c2 c3 hw5 h58 h54 Xv h11;have anM:=QO.Bz.cell)
           |(gi_at_builtin;refine wpListIn_append_own _ rfl _ _ 272 rfl w.heap.size 276 i0 (.agg #[.int .i64 0,.int .i64 0,.int .i64 0]) 3 24 Tryz.underlying272 hi Na XI hz2 rfl (by decide) _ _ _ rfl (QO.own.alloc _) ⟨w6.heap.size,0,none⟩ 1 1 [.int .i64 0,.int .i64 pX,.int .i64 pY] rfl rfl (yK _ _ _ _ _) (by simp[Value.oneCell']) (by simp;omega) (by simp) (by have:=QO.below.size;simp;omega) ?_;intro v3 w7 Bk xL _;obtain⟨g',pF,rfl⟩:=ownsRow_succ Bk;obtain⟨TB,WR,TF,rC,am0⟩:=QO.Bz.appended (by decide) QO.own QO.below.size QO.Tz Bk xL;have tC:=TB.cell;have hf1:=TB.frozen))
         all_goals (refine Met.intro (hJ _ _ ?_);(repeat apply Exists.intro);refine⟨?_,rfl⟩)
         refine⟨by simp,.slice (some ⟨g',0,none⟩) (([]:List (List Int)).length+1) pF,?_⟩;rw[XK,if_pos (by assumption)];exact LoopIn.app QO xL Bk;refine⟨by simp,.slice none 0 0,?_⟩;rw[XK,show np x0 y0 x1 y1 pX pY=false by assumption,if_neg (by decide)];exact QO
     case rest=>
       obtain⟨rfl,v6,QO⟩:=hcut;rename_i K1 a1;have hlen:(gd r x0 y0 x1 y1).length<=1000:=by
         unfold gd;split;split<;>simp;simp
       have hR':R=gd r x0 y0 x1 y1++nq r x0 y0 x1 y1 (if qb r 8 then 1 else 0):=by rw[<- hR];unfold jl;rw[if_neg hq,hr4]
       have T:=@aaA hr _ w (w.heap.size+1+1) w4.heap.size (w4.heap.size+1) g cap r x0 y0 x1 y1 v6 _ QO hZ (if qb r 8 then 1 else 0) hlen h4 h5 h6 h7 R hR';simp only[IZ,behind,kF,Tryz.f169,Option.getD,Nat.beq,jy,if_false,if_true]at T;exact a1 _ _ T
end
section
open Go.Sx Go.RowKit Go
def inP(n:Int):Bool:=decide (-268500000<=n)&&decide (n<=268500000)
def inS(n:Int):Bool:=decide (-64<=n)&&decide (n<=100)
theorem QS{n:Int}:inP n=true↔-268500000<=n/\n<=268500000:=by simp[inP]
theorem QT{n:Int}:inS n=true↔-64<=n/\n<=100:=by simp[inS]
noncomputable def AX:List DV->Option (List DV)
 | [.i a0,.i a1,.i b0,.i b1,.i x0,.i y0,.i x1,.i y1]=>
   if((inP a0&&inP a1)&&(inP b0&&inP b1))&&((inS x0&&inS y0)&&(inS x1&&inS y1))then some [.l (jl a0 a1 b0 b1 x0 y0 x1 y1)]else none
 |_=>none
theorem V6:∀ds rs,AX ds=some rs->kinds (bI Bm.res) rs=true:=by
 intro ds rs h;unfold AX at h;split at h;split at h<;>cases h;rfl;cases h
theorem aaD(hr:gp):Has Tryz.prog Wd 169 (EO Bm AX):=by
 unfold Has;refine .inl ⟨fun w args=>dQ Tryz.func169 rfl rfl w args,fun w vs ds hw ha hp=>?_⟩;obtain⟨rs,_,hx⟩:=hp;obtain⟨bT,rfl,hf⟩:=ha;unfold AX at hx;split at hx;rename_i a0 a1 b0 b1 x0 y0 x1 y1;split at hx;rename_i hc;cases hx;have CN:=hc;simp only[ao,QS,QT]at CN;obtain⟨⟨⟨h0,h1⟩,h2,h3⟩,⟨h4,h5⟩,h6,h7⟩:=CN
 match bT,hf with
 | [c0,c1,c2,c3,c4,c5,c6,c7],hf=>
   obtain⟨e0,e1,e2,e3,e4,e5,e6,e7,_⟩:=hf;simp only[ky]at e0 e1 e2 e3 e4 e5 e6 e7;subst e0;subst e1;subst e2;subst e3;subst e4;subst e5;subst e6;subst e7;refine(MT hr hw h0 h1 h2 h3 h4 h5 h6 h7).mono ?_;rintro e w' ⟨v,rfl,hb,bM⟩;refine⟨[v],[.l (jl a0 a1 b0 b1 x0 y0 x1 y1)],rfl,hb,⟨⟨by decide,bM⟩,trivial⟩,?_,?_⟩;intro i j u u' DK hi hj
   match i,j,hi,hj with
   |0,0,_,_=>exact absurd rfl DK
   |0,j+1,_,hj=>simp at hj
   |i+1,_,hi,_=>simp at hi
   show AX _=_;simp only[AX,hc,if_true]
 cases hx;cases hx
theorem KG{r:List Int}(hZ:kE r):0<=kX r/\kX r<=2500000:=by
 have hp:(kh 210).gN [.l [r]]:=by rw[VN];exact⟨⟨oh hZ,trivial⟩,fun p hp=>by cases hp⟩
 obtain⟨_,hq,_⟩:=oT (k:=210) (by decide) hp;rw[VN]at hq;unfold kX;generalize gv 210 [.l [r]]=rs at hq
 match rs,hq with
 | [.i n],hq=>exact hq.1
theorem KH{r:List Int}(hZ:kE r): -1<=fq r/\fq r<=1:=by
 have hp:(kh 211).gN [.l [r]]:=by rw[VO];exact⟨⟨oh hZ,trivial⟩,fun p hp=>by cases hp⟩
 obtain⟨_,hq,_⟩:=oT (k:=211) (by decide) hp;rw[VO]at hq;unfold fq;generalize gv 211 [.l [r]]=rs at hq
 match rs,hq with
 | [.i n],hq=>exact hq.1
theorem MU{r:List Int}(hZ:kE r){u:Int}(hu: -8388608<=u/\u<=8388608):gh (jJ r u):=by
 have hp:(kh 251).gN [.l [r],.i u]:=by
   rw[VP];refine⟨⟨oh hZ,hu,trivial⟩,fun p hp=>?_⟩;obtain rfl:p=_:=lg.1 hp;exact E4 hZ.ne
 obtain⟨_,hq,_⟩:=oT (k:=251) (by decide) hp;rw[VP]at hq;unfold jJ;generalize gv 251 [.l [r],.i u]=rs at hq
 match rs,hq with
 | [.i n],hq=>
   have:=hq.1;exact⟨by have:=this.1;show -9223372036854775808<=n;omega,by have:=this.2;show n<=9223372036854775807;omega⟩
theorem aaE{x0 y0 x1 y1 x y:Int}(h0:gh x0)(h1:gh y0)(h2:gh x1)(h3:gh y1)(h4:gh x)(h5:gh y)(h:np x0 y0 x1 y1 x y=true):(x0<=x/\x<x1)/\y0<=y/\y<y1:=by
 have hp:(kh 168).gN [.i x0,.i y0,.i x1,.i y1,.i x,.i y]:=by
   rw[VQ];exact⟨⟨h0,h1,h2,h3,h4,h5,trivial⟩,fun p hp=>by cases hp⟩
 obtain⟨_,hq,xo⟩:=oT (k:=168) (by decide) hp;rw[VQ]at hq xo;unfold np at h;generalize hg:gv 168 [.i x0,.i y0,.i x1,.i y1,.i x,.i y]=rs at hq;rw[hg]at h xo
 match rs,hq with
 | [.b n],hq=>
   have h:n=true:=h;subst h;have hq3:=xo _ (lg.2 rfl);have:(!true||((decide (x0<=x)&&decide (x<x1))&&(decide (y0<=y)&&decide (y<y1))))=true:=hq3;simpa using this
theorem aaF{a0 a1 b0 b1:Int}(h0: -268500000<=a0/\a0<=268500000)(h1: -268500000<=a1/\a1<=268500000)(h2: -268500000<=b0/\b0<=268500000)(h3: -268500000<=b1/\b1<=268500000)(cQ:¬(a0=b0/\a1=b1)):kE (wy a0 a1 b0 b1):=by
 have hp:(kh 207).gN [.i a0,.i a1,.i b0,.i b1]:=by
   rw[VM];refine⟨⟨h0,h1,h2,h3,trivial⟩,fun p hp=>?_⟩;obtain rfl:p=_:=lg.1 hp;have:(decide (a0=b0)&&decide (a1=b1))=false:=by
     rw[NY,tZ,tZ];exact Classical.not_and_iff_not_or_not.1 cQ
   show(!(decide (a0=b0)&&decide (a1=b1)))=true;rw[this];rfl
 obtain⟨_,hq,xo⟩:=oT (k:=207) (by decide) hp;rw[VM]at hq xo;unfold wy;generalize hg:gv 207 [.i a0,.i a1,.i b0,.i b1]=rs at hq;rw[hg]at xo
 match rs,hq with
 | [d],hq=>
   obtain⟨r,rfl,bj⟩:=KB hq.1;have NH:=xo _ (lg.2 rfl);refine⟨bj,fun e=>?_⟩;have e':(decide (r.getD 2 0=r.getD 0 0))=true:=gQ e;have:(!(decide (r.getD 2 0=r.getD 0 0)))=true:=NH;rw[e']at this;cases this
def Bn(row:List Int):Prop:=cA [(0,4000000),(-64,100),(-64,100)] 0 row
section
variable {x0 y0 x1 y1:Int}(h4: -64<=x0/\x0<=100)(h5: -64<=y0/\y0<=100)(h6: -64<=x1/\x1<=100)(h7: -64<=y1/\y1<=100)
theorem QU{x0:Int}{y0:Int}{x1:Int}{y1:Int}(h4: -64<=x0/\x0<=100)(h5: -64<=y0/\y0<=100)(h6: -64<=x1/\x1<=100)(h7: -64<=y1/\y1<=100){k x y:Int}(hk:0<=k/\k<=4000000)(hx:gh x)(hy:gh y)(h:np x0 y0 x1 y1 x y=true):Bn [k,x,y]:=by
 obtain⟨⟨e1,e2⟩,e3,e4⟩:=aaE ⟨by omega,by omega⟩ ⟨by omega,by omega⟩ ⟨by omega,by omega⟩ ⟨by omega,by omega⟩ hx hy h;exact⟨hk,⟨by show -64<=x;omega,by show x<=100;omega⟩,⟨by show -64<=y;omega,by show y<=100;omega⟩,trivial⟩
theorem V7{x0:Int}{y0:Int}{x1:Int}{y1:Int}(h4: -64<=x0/\x0<=100)(h5: -64<=y0/\y0<=100)(h6: -64<=x1/\x1<=100)(h7: -64<=y1/\y1<=100){r:List Int}(hZ:kE r):(gd r x0 y0 x1 y1).length<=1/\∀row∈gd r x0 y0 x1 y1,Bn row:=by
 have am1: -1200000<=qq r 10/\qq r 10<=1200000:=hZ.in_.2.2.2.2.2.2.2.2.2.2.1;have am2: -1200000<=qq r 11/\qq r 11<=1200000:=hZ.in_.2.2.2.2.2.2.2.2.2.2.2.1;obtain⟨hpx,hpy⟩:=KC (t:=qb r 4) (u:=qq r 10) (v:=qq r 11) ⟨by omega,by omega⟩ ⟨by omega,by omega⟩;unfold gd;by_cases h8:qb r 8=true;rw[if_pos h8];by_cases hh:np x0 y0 x1 y1 (px (qb r 4) (qq r 10) (qq r 11)) (py (qb r 4) (qq r 10) (qq r 11))=true;rw[if_pos hh];exact⟨fu _,fun row hm=>by rw[lg.1 hm];exact QU h4 h5 h6 h7 ⟨by omega,by omega⟩ hpx hpy hh⟩;rw[if_neg hh];exact⟨Nat.zero_le _,fun row hm=>by cases hm⟩;rw[if_neg h8];exact⟨Nat.zero_le _,fun row hm=>by cases hm⟩
theorem V8{x0:Int}{y0:Int}{x1:Int}{y1:Int}(h4: -64<=x0/\x0<=100)(h5: -64<=y0/\y0<=100)(h6: -64<=x1/\x1<=100)(h7: -64<=y1/\y1<=100){r:List Int}(hZ:kE r){ahead bg en:Int}(ha:0<=ahead/\ahead<=1)(hb:0<=bg/\bg<=2500000)(hu: -8388608<=iz r bg/\iz r bg<=8388608)(hm:0<=kY bg en/\kY bg en<=164) :
   (l6 r x0 y0 x1 y1 ahead bg en).length<=164/\∀row∈l6 r x0 y0 x1 y1 ahead bg en,Bn row:=by
 unfold l6;have hlen:(ik r (iz r bg) (kY bg en).toNat).length=(kY bg en).toNat:=by simp[ik]
 constructor;have:=wK (qb r 4) x0 y0 x1 y1 (wrap64 (ahead+bg)) (ik r (iz r bg) (kY bg en).toNat);omega;intro row bj;unfold dM at bj;obtain⟨i,hi,bj⟩:=List.mem_flatMap.1 bj;have hi:=lx.1 hi;unfold gg at bj;have Lb:(ik r (iz r bg) (kY bg en).toNat)[i]?=some ((ik r (iz r bg) (kY bg en).toNat).getD i (0,0)):=by
   rw[cq,dG hi];rfl
 obtain⟨Ms,TJ⟩:=QK hu (MU hZ hu) Lb;generalize(ik r (iz r bg) (kY bg en).toNat).getD i (0,0)=p at *;obtain⟨hpx,hpy⟩:=KC (t:=qb r 4) Ms TJ;by_cases hh:np x0 y0 x1 y1 (px (qb r 4) p.1 p.2) (py (qb r 4) p.1 p.2)=true;rw[if_pos hh]at bj;rw[lg.1 bj];have e1:wrap64 (ahead+bg)=ahead+bg:=fw (by omega) (by omega);have e2:wrap64 (ahead+bg+(i:Int))=ahead+bg+i:=fw (by omega) (by omega);rw[e1,e2];exact QU h4 h5 h6 h7 ⟨by omega,by omega⟩ hpx hpy hh;rw[if_neg hh]at bj;cases bj
theorem MV{x0:Int}{y0:Int}{x1:Int}{y1:Int}(h4: -64<=x0/\x0<=100)(h5: -64<=y0/\y0<=100)(h6: -64<=x1/\x1<=100)(h7: -64<=y1/\y1<=100){a0 a1 b0 b1:Int}(h0: -268500000<=a0/\a0<=268500000)(h1: -268500000<=a1/\a1<=268500000)(h2: -268500000<=b0/\b0<=268500000)(h3: -268500000<=b1/\b1<=268500000) :
   (jl a0 a1 b0 b1 x0 y0 x1 y1).length<=200/\∀row∈jl a0 a1 b0 b1 x0 y0 x1 y1,Bn row:=by
 unfold jl;by_cases hq:a0=b0/\a1=b1\/my x0 y0 x1 y1=false;rw[if_pos hq];exact⟨Nat.zero_le _,fun row hm=>by cases hm⟩;rw[if_neg hq];have hZ:=aaF h0 h1 h2 h3 fun h=>hq (Or.inl h);generalize wy a0 a1 b0 b1=r at *;obtain⟨a1,a2⟩:=V7 h4 h5 h6 h7 hZ;have aaB: -64<=kD r x0 y0/\kD r x0 y0<=100:=by unfold kD;split<;>omega
 have aaC: -64<=kD r x1 y1/\kD r x1 y1<=100:=by unfold kD;split<;>omega
 have hm:(nq r x0 y0 x1 y1 (if qb r 8 then 1 else 0)).length<=164/\∀row∈nq r x0 y0 x1 y1 (if qb r 8 then 1 else 0),Bn row:=by
   unfold nq;by_cases V5:By r (kD r x0 y0) (kD r x1 y1)<vn r (kD r x0 y0) (kD r x1 y1);rw[if_pos V5];exact⟨Nat.zero_le _,fun row hm=>by cases hm⟩;rw[if_neg V5];obtain⟨⟨b1,b2⟩,b3⟩:=Dk hZ (KH hZ).1 (KH hZ).2 (KG hZ).1 (KG hZ).2 aaB aaC V5;exact V8 h4 h5 h6 h7 hZ (by split<;>omega) b3 b1 b2
 obtain⟨m1,m2⟩:=hm;refine⟨by rw[eY];omega,fun row bj=>?_⟩;rcases lQ.1 bj with h|h;exact a2 row h;exact m2 row h
end
theorem Xi:lZ Tryz.prog kH 169=none:=by kernel_rfl
theorem aaG:kc 169=⟨[Pc,Pc,Pc,Pc,.i (-64) 100,.i (-64) 100,.i (-64) 100,.i (-64) 100],[],[.l 0 (some 200) [(0,4000000),(-64,100),(-64,100)]],[]⟩:=by kernel_rfl
theorem anb{X:bH}(hX:X 169=AX):mb (lZ Tryz.prog kH) X 169 (kc 169).gN (kc 169).ij:=by
 rw[aaG];rintro ds ⟨ha,_⟩
 match ds,ha with
 | [.i a0,.i a1,.i b0,.i b1,.i x0,.i y0,.i x1,.i y1],ha=>
   obtain⟨h0,h1,h2,h3,h4,h5,h6,h7,_⟩:=ha;have h0: -268500000<=a0/\a0<=268500000:=h0;have h1: -268500000<=a1/\a1<=268500000:=h1;have h2: -268500000<=b0/\b0<=268500000:=h2;have h3: -268500000<=b1/\b1<=268500000:=h3;have h4: -64<=x0/\x0<=100:=h4;have h5: -64<=y0/\y0<=100:=h5;have h6: -64<=x1/\x1<=100:=h6;have h7: -64<=y1/\y1<=100:=h7;obtain⟨l1,l2⟩:=MV h4 h5 h6 h7 h0 h1 h2 h3;refine⟨[.l (jl a0 a1 b0 b1 x0 y0 x1 y1)],ji Xi ?_,⟨⟨by omega,fun y e=>by cases e;omega,l2⟩,trivial⟩,fun p hp=>by cases hp⟩;rw[hX];simp only[AX];rw[if_pos];simp only[ao,QS,QT];exact⟨⟨⟨h0,h1⟩,h2,h3⟩,⟨h4,h5⟩,h6,h7⟩
noncomputable abbrev XF:bH:=XX AX
theorem adA(hr:gp):AF Tryz.prog Wd (TT Tryz.prog) XF Xd kI:=afm _ hr (aaD hr) V6
theorem h7F:oc (TT Tryz.prog) XF kc (ord.take 7):=by
 intro j hj;have hj:j=283\/j=140\/j=243\/j=266\/j=87\/j=146\/j=169:=by simpa[ord]using hj
 rcases hj with rfl|rfl|rfl|rfl|rfl|rfl|rfl;exact ajI rfl;exact ajF rfl;exact ajG rfl;exact ajH rfl;exact g87 rfl;exact ajK rfl;exact anb rfl
end
end Go.Proofs.YtohebioanhliiaaGreatDoor.aF

/- awake is true; all functions come to an end. -/
import Derived.Test.YtohebioanhliiaaGreatDoorBH2
import Derived.Test.YtohebioanhliiaaGreatDoorBG4
import Derived.Test.YtohebioanhliiaaGreatDoorBC1
import Derived.Test.YtohebioanhliiaaGreatDoorBC2
import Derived.Test.YtohebioanhliiaaGreatDoorBE2
set_option maxRecDepth 100000
set_option linter.unusedVariables false
namespace Go.Proofs.YtohebioanhliiaaGreatDoor.aw
open Go.Sx Go.RowKit Go
namespace Aw
abbrev oP:List Int:=[0,128,1024,128,0,1,0,4,1,1,-1,0]
theorem SQ:kt 0 0 4 1=true:=by unfold kt;rw[rH (Wv:Gv X0 Nq)];rfl
theorem abD:sM 0 128 1024 128=oP:=by unfold sM;rw[rH (afW:Gv X0 aa3)];rfl
theorem WT:iN oP=4:=by unfold iN;rw[rH (afY:Gv X0 aa5)];rfl
theorem C6:eo oP=1:=by unfold eo;rw[rH (afZ:Gv X0 aa6)];rfl
theorem Ir:db oP 0=(131071,262144):=by unfold db;rw[rH (aa7:Gv X0 Ww)];rfl
theorem Ny:iU oP 0=0:=by unfold iU;rw[rH (af0:Gv X0 aa8)];rfl
theorem WU:k5 0 0 4 1 (-1) 0=false:=by unfold k5;rw[rH (afX:Gv X0 aa4)];rfl
theorem WV:k5 0 0 4 1 0 0=true:=by unfold k5;rw[rH (aa9:Gv X0 SK)];rfl
theorem WW:k5 0 0 4 1 1 0=true:=by unfold k5;rw[rH (aa':Gv X0 SL)];rfl
theorem WX:k5 0 0 4 1 2 0=true:=by unfold k5;rw[rH (abb:Gv X0 SM)];rfl
theorem WY:du oP 0 0 4 1=[]:=by
 unfold du;rw[if_pos (by decide),show px (qb oP 4) (qq oP 10) (qq oP 11) = -1 by decide,show py (qb oP 4) (qq oP 10) (qq oP 11)=0 by decide,WU];rfl
theorem agL:qc oP (dN oP 0 0) (dN oP 4 1)=0:=by
 unfold qc;rw[C6];kernel_rfl
theorem agM:uO oP (dN oP 0 0) (dN oP 4 1)=2:=by
 unfold uO nR;rw[C6,WT];kernel_rfl
theorem f_u:fO oP 0=0:=by
 unfold fO;rw[C6];kernel_rfl
theorem UC:iG oP 0 0=(0,0,131071):=by
 unfold iG;rw[Ny,Ir];kernel_rfl
theorem Nz{i:Nat}{u v t:Int}(h:iG oP 0 i=(u,v,t)):iG oP 0 (i+1)=(wrap64 (u+1),up1 262144 (wrap64 ((wrap64 (256*wrap64 (qq oP 3-qq oP 1))).tdiv 262144)) ((wrap64 (256*wrap64 (qq oP 3-qq oP 1))).tmod 262144) (v,t)):=by
 rw[iG,h,C6,Ir]
theorem UD:iG oP 0 1=(1,0,131071):=by rw[Nz UC];kernel_rfl
theorem abE:iG oP 0 2=(2,0,131071):=by rw[Nz UD];kernel_rfl
theorem abF:fz oP 0 3=[(0,0),(1,0),(2,0)]:=by
 unfold fz;rw[show List.range 3=[0,1,2]by decide];simp only[jt,mJ,UC,UD,abE]
theorem WZ:jK oP 0 0 4 1 1 0 2=[[1,0,0],[2,1,0],[3,2,0]]:=by
 unfold jK;rw[f_u,show(gU 0 2).toNat=3 by kernel_rfl,abF];unfold c8;rw[show([((0:Int),(0:Int)),(1,0),(2,0)]:List (Int×Int)).length=3 from rfl,show List.range 3=[0,1,2]by decide];have hp:∀u:Int,px (qb oP 4) u 0=u/\py (qb oP 4) u 0=0:=fun u=>by
   rw[show qb oP 4=false by decide];exact⟨rfl,rfl⟩
 have e0:fm (qb oP 4) 0 0 4 1 (wrap64 (1+0)) 0 (0,0)=[[1,0,0]]:=by
   unfold fm;rw[(hp 0).1,(hp 0).2,WV];kernel_rfl
 have e1:fm (qb oP 4) 0 0 4 1 (wrap64 (1+0)) 1 (1,0)=[[2,1,0]]:=by
   unfold fm;rw[(hp 1).1,(hp 1).2,WW];kernel_rfl
 have e2:fm (qb oP 4) 0 0 4 1 (wrap64 (1+0)) 2 (2,0)=[[3,2,0]]:=by
   unfold fm;rw[(hp 2).1,(hp 2).2,WX];kernel_rfl
 simp only[List.flatMap_cons,List.flatMap_nil];show fm (qb oP 4) 0 0 4 1 (wrap64 (1+0)) 0 (0,0)++(fm (qb oP 4) 0 0 4 1 (wrap64 (1+0)) 1 (1,0)++(fm (qb oP 4) 0 0 4 1 (wrap64 (1+0)) 2 (2,0)++[]))=_;rw[e0,e1,e2];rfl
theorem NA:gG 0 128 1024 128 0 0 4 1=[[1,0,0],[2,1,0],[3,2,0]]:=by
 unfold gG;rw[SQ,if_neg (by decide),abD,WY];unfold gH;rw[agL,agM,if_neg (by decide),show(if qb oP 8=true then(1:Int)else 0)=1 by decide,WZ];rfl
theorem wF:Gv XF C5:=im NB (by
 show vS [.i 0,.i 128,.i 1024,.i 128,.i 0,.i 0,.i 4,.i 1]=some [.l [[1,0,0],[2,1,0],[3,2,0]]];simp only[vS,NA];rw[if_pos (by decide)])
theorem zq:cm (TT Tryz.prog) XF 10 [] [.b true]:=agK wF
end Aw
end Go.Proofs.YtohebioanhliiaaGreatDoor.aw
namespace Go.Proofs.YtohebioanhliiaaGreatDoor.aw
open Go.Sx Go
theorem zC:U0 XF:=⟨fun k s ds rs hs ⟨n,hn⟩=>rj (aco Iq) hs hn,fun ds=>rfl⟩
theorem uP:nO (TT Tryz.prog) XF kc (ord.take 125):=acp h7F ahC ahD ahE (acq rfl)
end Go.Proofs.YtohebioanhliiaaGreatDoor.aw

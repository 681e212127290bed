/- awake is true; all functions come to an end. -/
import Derived.Test.YtohebioanhliiaaGreatDoorJH2
import Derived.Test.YtohebioanhliiaaGreatDoorJG4
import Derived.Test.YtohebioanhliiaaGreatDoorJC1
import Derived.Test.YtohebioanhliiaaGreatDoorJC2
import Derived.Test.YtohebioanhliiaaGreatDoorJE2
set_option maxRecDepth 100000
set_option linter.unusedVariables false
namespace Go.Proofs.YtohebioanhliiaaGreatDoor.aF
open Go.Sx Go.RowKit Go
namespace Aw
abbrev qp:List Int:=[0,128,1024,128,0,1,0,4,1,1,-1,0]
theorem U3:my 0 0 4 1=true:=by unfold my;rw[te (Zb:Gv X0 Pz)];rfl
theorem ade:wy 0 128 1024 128=qp:=by unfold wy;rw[te (aiq:Gv X0 acF)];rfl
theorem Zw:kX qp=4:=by unfold kX;rw[te (ais:Gv X0 acH)];rfl
theorem EI:fq qp=1:=by unfold fq;rw[te (ait:Gv X0 acI)];rfl
theorem J2:dT qp 0=(131071,262144):=by unfold dT;rw[te (acJ:Gv X0 Zc)];rfl
theorem PH:jJ qp 0=0:=by unfold jJ;rw[te (aiu:Gv X0 acK)];rfl
theorem Zx:np 0 0 4 1 (-1) 0=false:=by unfold np;rw[te (air:Gv X0 acG)];rfl
theorem Zy:np 0 0 4 1 0 0=true:=by unfold np;rw[te (acL:Gv X0 UX)];rfl
theorem Zz:np 0 0 4 1 1 0=true:=by unfold np;rw[te (acM:Gv X0 UY)];rfl
theorem ZA:np 0 0 4 1 2 0=true:=by unfold np;rw[te (acN:Gv X0 UZ)];rfl
theorem ZB:gd qp 0 0 4 1=[]:=by
 unfold gd;rw[if_pos (by decide),show px (qb qp 4) (qq qp 10) (qq qp 11) = -1 by decide,show py (qb qp 4) (qq qp 10) (qq qp 11)=0 by decide,Zx];rfl
theorem aje:vn qp (kD qp 0 0) (kD qp 4 1)=0:=by
 unfold vn;rw[EI];kernel_rfl
theorem ajf:By qp (kD qp 0 0) (kD qp 4 1)=2:=by
 unfold By nR;rw[EI,Zw];kernel_rfl
theorem f_u:iz qp 0=0:=by
 unfold iz;rw[EI];kernel_rfl
theorem Xg:jw qp 0 0=(0,0,131071):=by
 unfold jw;rw[PH,J2];kernel_rfl
theorem PI{i:Nat}{u v t:Int}(h:jw qp 0 i=(u,v,t)):jw qp 0 (i+1)=(wrap64 (u+1),up1 262144 (wrap64 ((wrap64 (256*wrap64 (qq qp 3-qq qp 1))).tdiv 262144)) ((wrap64 (256*wrap64 (qq qp 3-qq qp 1))).tmod 262144) (v,t)):=by
 rw[jw,h,EI,J2]
theorem Xh:jw qp 0 1=(1,0,131071):=by rw[PI Xg];kernel_rfl
theorem adf:jw qp 0 2=(2,0,131071):=by rw[PI Xh];kernel_rfl
theorem adg:ik qp 0 3=[(0,0),(1,0),(2,0)]:=by
 unfold ik;rw[show List.range 3=[0,1,2]by decide];simp only[jK,nN,Xg,Xh,adf]
theorem ZC:l6 qp 0 0 4 1 1 0 2=[[1,0,0],[2,1,0],[3,2,0]]:=by
 unfold l6;rw[f_u,show(kY 0 2).toNat=3 by kernel_rfl,adg];unfold dM;rw[show([((0:Int),(0:Int)),(1,0),(2,0)]:List (Int×Int)).length=3 from rfl,show List.range 3=[0,1,2]by decide];have hp:∀u:Int,px (qb qp 4) u 0=u/\py (qb qp 4) u 0=0:=fun u=>by
   rw[show qb qp 4=false by decide];exact⟨rfl,rfl⟩
 have e0:gg (qb qp 4) 0 0 4 1 (wrap64 (1+0)) 0 (0,0)=[[1,0,0]]:=by
   unfold gg;rw[(hp 0).1,(hp 0).2,Zy];kernel_rfl
 have e1:gg (qb qp 4) 0 0 4 1 (wrap64 (1+0)) 1 (1,0)=[[2,1,0]]:=by
   unfold gg;rw[(hp 1).1,(hp 1).2,Zz];kernel_rfl
 have e2:gg (qb qp 4) 0 0 4 1 (wrap64 (1+0)) 2 (2,0)=[[3,2,0]]:=by
   unfold gg;rw[(hp 2).1,(hp 2).2,ZA];kernel_rfl
 simp only[List.flatMap_cons,List.flatMap_nil];show gg (qb qp 4) 0 0 4 1 (wrap64 (1+0)) 0 (0,0)++(gg (qb qp 4) 0 0 4 1 (wrap64 (1+0)) 1 (1,0)++(gg (qb qp 4) 0 0 4 1 (wrap64 (1+0)) 2 (2,0)++[]))=_;rw[e0,e1,e2];rfl
theorem PJ:jl 0 128 1024 128 0 0 4 1=[[1,0,0],[2,1,0],[3,2,0]]:=by
 unfold jl;rw[U3,if_neg (by decide),ade,ZB];unfold nq;rw[aje,ajf,if_neg (by decide),show(if qb qp 8=true then(1:Int)else 0)=1 by decide,ZC];rfl
theorem wF:Gv XF EH:=ji Xi (by
 show AX [.i 0,.i 128,.i 1024,.i 128,.i 0,.i 0,.i 4,.i 1]=some [.l [[1,0,0],[2,1,0],[3,2,0]]];simp only[AX,PJ];rw[if_pos (by decide)])
theorem Gs:cK (TT Tryz.prog) XF 10 [] [.b true]:=ajd wF
end Aw
end Go.Proofs.YtohebioanhliiaaGreatDoor.aF
namespace Go.Proofs.YtohebioanhliiaaGreatDoor.aF
open Go.Sx Go
theorem bX:GO XF:=⟨fun k s ds rs hs ⟨n,hn⟩=>sX (adA J1) hs hn,fun ds=>rfl⟩
theorem IF:oc (TT Tryz.prog) XF kc (ord.take 177):=adB h7F ajL ajM ajN (adC rfl) (ajO bX) ajP ajQ ajR ajS ajT ajU
theorem Qb:oc (TT Tryz.prog) XF kc (ord.take 125):=IF.mono (by kernel_rfl)
theorem adD:Qc (fun k=>cK (TT Tryz.prog) XF k):=Vs IF (by decide) (by decide)
theorem adE:(kc 18).res=[.l 0 (some 512000000000) mG,.b]:=by kernel_rfl
end Go.Proofs.YtohebioanhliiaaGreatDoor.aF

/- awake is true; all functions come to an end. -/
import Derived.Test.YtohebioanhliiaaGreatDoorGH1
import Derived.Test.YtohebioanhliiaaGreatDoorGG4
import Derived.Test.YtohebioanhliiaaGreatDoorGE2
set_option maxRecDepth 100000
set_option linter.unusedVariables false
namespace Go.Proofs.YtohebioanhliiaaGreatDoor.av
open Go.Sx Go.RowKit Go
namespace Aw
abbrev rA:List Int:=[0,128,1024,128,0,1,0,4,1,1,-1,0]
theorem WV:mP 0 0 4 1=true:=by unfold mP;rw[uw (w24:Gv X0 r24)];rfl
theorem ad3:xW 0 128 1024 128=rA:=by unfold xW;rw[uw (aiH:Gv X0 adU)];rfl
theorem aaI:lO rA=4:=by unfold lO;rw[uw (aiJ:Gv X0 adW)];rfl
theorem F5:fE rA=1:=by unfold fE;rw[uw (aiK:Gv X0 adX)];rfl
theorem L6:dX rA 0=(131071,262144):=by unfold dX;rw[uw (aiL:Gv X0 adY)];rfl
theorem Ro:jX rA 0=0:=by unfold jX;rw[uw (aiM:Gv X0 adZ)];rfl
theorem aaJ:nH 0 0 4 1 (-1) 0=false:=by unfold nH;rw[uw (aiI:Gv X0 adV)];rfl
theorem aaK:nH 0 0 4 1 0 0=true:=by unfold nH;rw[uw (aiN:Gv X0 ad0)];rfl
theorem aaL:nH 0 0 4 1 1 0=true:=by unfold nH;rw[uw (aiO:Gv X0 ad1)];rfl
theorem aaM:nH 0 0 4 1 2 0=true:=by unfold nH;rw[uw (aiP:Gv X0 ad2)];rfl
theorem aaN:gu rA 0 0 4 1=[]:=by
 unfold gu;rw[if_pos (by decide),show px (qb rA 4) (qq rA 10) (qq rA 11) = -1 by decide,show py (qb rA 4) (qq rA 10) (qq rA 11)=0 by decide,aaJ];rfl
theorem aiR:wX rA (lq rA 0 0) (lq rA 4 1)=0:=by
 unfold wX;rw[F5];kernel_rfl
theorem aiS:CZ rA (lq rA 0 0) (lq rA 4 1)=2:=by
 unfold CZ nR;rw[F5,aaI];kernel_rfl
theorem f_u:iO rA 0=0:=by
 unfold iO;rw[F5];kernel_rfl
theorem YZ:jK rA 0 0=(0,0,131071):=by
 unfold jK;rw[Ro,L6];kernel_rfl
theorem Rp{i:Nat}{u v t:Int}(h:jK rA 0 i=(u,v,t)):jK rA 0 (i+1)=(wrap64 (u+1),up1 262144 (wrap64 ((wrap64 (256*wrap64 (qq rA 3-qq rA 1))).tdiv 262144)) ((wrap64 (256*wrap64 (qq rA 3-qq rA 1))).tmod 262144) (v,t)):=by
 rw[jK,h,F5,L6]
theorem Y0:jK rA 0 1=(1,0,131071):=by rw[Rp YZ];kernel_rfl
theorem ad4:jK rA 0 2=(2,0,131071):=by rw[Rp Y0];kernel_rfl
theorem ad5:iE rA 0 3=[(0,0),(1,0),(2,0)]:=by
 unfold iE;rw[show List.range 3=[0,1,2]by decide];simp only[kD,rM,YZ,Y0,ad4]
theorem aaO:mB rA 0 0 4 1 1 0 2=[[1,0,0],[2,1,0],[3,2,0]]:=by
 unfold mB;rw[f_u,show(lP 0 2).toNat=3 by kernel_rfl,ad5];unfold dO;rw[show([((0:Int),(0:Int)),(1,0),(2,0)]:List (Int×Int)).length=3 from rfl,show List.range 3=[0,1,2]by decide];have hp:∀u:Int,px (qb rA 4) u 0=u/\py (qb rA 4) u 0=0:=fun u=>by
   rw[show qb rA 4=false by decide];exact⟨rfl,rfl⟩
 have e0:gy (qb rA 4) 0 0 4 1 (wrap64 (1+0)) 0 (0,0)=[[1,0,0]]:=by
   unfold gy;rw[(hp 0).1,(hp 0).2,aaK];kernel_rfl
 have e1:gy (qb rA 4) 0 0 4 1 (wrap64 (1+0)) 1 (1,0)=[[2,1,0]]:=by
   unfold gy;rw[(hp 1).1,(hp 1).2,aaL];kernel_rfl
 have e2:gy (qb rA 4) 0 0 4 1 (wrap64 (1+0)) 2 (2,0)=[[3,2,0]]:=by
   unfold gy;rw[(hp 2).1,(hp 2).2,aaM];kernel_rfl
 simp only[List.flatMap_cons,List.flatMap_nil];show gy (qb rA 4) 0 0 4 1 (wrap64 (1+0)) 0 (0,0)++(gy (qb rA 4) 0 0 4 1 (wrap64 (1+0)) 1 (1,0)++(gy (qb rA 4) 0 0 4 1 (wrap64 (1+0)) 2 (2,0)++[]))=_;rw[e0,e1,e2];rfl
theorem Rq:jB 0 128 1024 128 0 0 4 1=[[1,0,0],[2,1,0],[3,2,0]]:=by
 unfold jB;rw[WV,if_neg (by decide),ad3,aaN];unfold nI;rw[aiR,aiS,if_neg (by decide),show(if qb rA 8=true then(1:Int)else 0)=1 by decide,aaO];rfl
theorem wF:Gv XF Rn:=jy Y1 (by
 show Ce [.i 0,.i 128,.i 1024,.i 128,.i 0,.i 0,.i 4,.i 1]=some [.l [[1,0,0],[2,1,0],[3,2,0]]];simp only[Ce,Rq];rw[if_pos (by decide)])
theorem H6:eR (TT PP) XF 10 [] [.b true]:=aiQ wF
end Aw
end Go.Proofs.YtohebioanhliiaaGreatDoor.av
namespace Go.Proofs.YtohebioanhliiaaGreatDoor.av
open Go.Sx Go
theorem bD:Zn XF:=⟨fun k s ds rs hs ⟨n,hn⟩=>ud (ae6 L4) hs hn,fun ds=>rfl⟩
theorem AS:sr (TT PP) XF kc (ord.take 125):=ae7 h7F ajM ajN ajO (ae8 rfl)
end Go.Proofs.YtohebioanhliiaaGreatDoor.av

/- awake is true; all functions come to an end. -/
import Derived.Test.YtohebioanhliiaaGreatDoorKH2
import Derived.Test.YtohebioanhliiaaGreatDoorKG4
import Derived.Test.YtohebioanhliiaaGreatDoorKC1
import Derived.Test.YtohebioanhliiaaGreatDoorKC2
import Derived.Test.YtohebioanhliiaaGreatDoorKE2
set_option maxRecDepth 100000
set_option linter.unusedVariables false
namespace Go.Proofs.YtohebioanhliiaaGreatDoor.aD
open Go.Sx Go.RowKit Go
namespace Aw
abbrev oA:List Int:=[0,128,1024,128,0,1,0,4,1,1,-1,0]
theorem RQ:kV 0 0 4 1=true:=by unfold kV;rw[qW (VB:Gv X0 MF)];rfl
theorem aaS:ui 0 128 1024 128=oA:=by unfold ui;rw[qW (afS:Gv X0 aak)];rfl
theorem VX:jQ oA=4:=by unfold jQ;rw[qW (afU:Gv X0 aam)];rfl
theorem Cq:eT oA=1:=by unfold eT;rw[qW (afV:Gv X0 aan)];rfl
theorem Hv:dy oA 0=(131071,262144):=by unfold dy;rw[qW (aao:Gv X0 VC)];rfl
theorem MO:iO oA 0=0:=by unfold iO;rw[qW (afW:Gv X0 aap)];rfl
theorem VY:lO 0 0 4 1 (-1) 0=false:=by unfold lO;rw[qW (afT:Gv X0 aal)];rfl
theorem VZ:lO 0 0 4 1 0 0=true:=by unfold lO;rw[qW (aaq:Gv X0 RJ)];rfl
theorem V0:lO 0 0 4 1 1 0=true:=by unfold lO;rw[qW (aar:Gv X0 RK)];rfl
theorem V2:lO 0 0 4 1 2 0=true:=by unfold lO;rw[qW (aas:Gv X0 RL)];rfl
theorem V3:fw oA 0 0 4 1=[]:=by
 unfold fw;rw[if_pos (by decide),show px (qb oA 4) (qq oA 10) (qq oA 11) = -1 by decide,show py (qb oA 4) (qq oA 10) (qq oA 11)=0 by decide,VY]
 rfl
theorem agH:ti oA (jA oA 0 0) (jA oA 4 1)=0:=by
 unfold ti;rw[Cq];kernel_rfl
theorem agI:zl oA (jA oA 0 0) (jA oA 4 1)=2:=by
 unfold zl nR;rw[Cq,VX];kernel_rfl
theorem f_u:gB oA 0=0:=by
 unfold gB;rw[Cq];kernel_rfl
theorem TO:iE oA 0 0=(0,0,131071):=by
 unfold iE;rw[MO,Hv];kernel_rfl
theorem MP{i:Nat}{u v t:Int}(h:iE oA 0 i=(u,v,t)):iE oA 0 (i+1)=(wrap64 (u+1),up1 262144 (wrap64 ((wrap64 (256*wrap64 (qq oA 3-qq oA 1))).tdiv 262144)) ((wrap64 (256*wrap64 (qq oA 3-qq oA 1))).tmod 262144) (v,t)):=by
 rw[iE,h,Cq,Hv]
theorem TP:iE oA 0 1=(1,0,131071):=by rw[MP TO];kernel_rfl
theorem aaT:iE oA 0 2=(2,0,131071):=by rw[MP TP];kernel_rfl
theorem aaU:gm oA 0 3=[(0,0),(1,0),(2,0)]:=by
 unfold gm;rw[show List.range 3=[0,1,2]by decide]
 simp only[List.map_cons,List.map_nil,TO,TP,aaT]
theorem V4:kE oA 0 0 4 1 1 0 2=[[1,0,0],[2,1,0],[3,2,0]]:=by
 unfold kE;rw[f_u,show(jR 0 2).toNat=3 by kernel_rfl,aaU]
 unfold dw;rw[show([((0:Int),(0:Int)),(1,0),(2,0)]:List (Int×Int)).length=3 from rfl,show List.range 3=[0,1,2]by decide]
 have hp:∀u:Int,px (qb oA 4) u 0=u/\py (qb oA 4) u 0=0:=fun u=>by
   rw[show qb oA 4=false by decide];exact⟨rfl,rfl⟩
 have e0:fx (qb oA 4) 0 0 4 1 (wrap64 (1+0)) 0 (0,0)=[[1,0,0]]:=by
   unfold fx;rw[(hp 0).1,(hp 0).2,VZ];kernel_rfl
 have e1:fx (qb oA 4) 0 0 4 1 (wrap64 (1+0)) 1 (1,0)=[[2,1,0]]:=by
   unfold fx;rw[(hp 1).1,(hp 1).2,V0];kernel_rfl
 have e2:fx (qb oA 4) 0 0 4 1 (wrap64 (1+0)) 2 (2,0)=[[3,2,0]]:=by
   unfold fx;rw[(hp 2).1,(hp 2).2,V2];kernel_rfl
 simp only[List.flatMap_cons,List.flatMap_nil];show fx (qb oA 4) 0 0 4 1 (wrap64 (1+0)) 0 (0,0)++(fx (qb oA 4) 0 0 4 1 (wrap64 (1+0)) 1 (1,0)++(fx (qb oA 4) 0 0 4 1 (wrap64 (1+0)) 2 (2,0)++[]))=_;rw[e0,e1,e2];rfl
theorem MQ:iq 0 128 1024 128 0 0 4 1=[[1,0,0],[2,1,0],[3,2,0]]:=by
 unfold iq;rw[RQ,if_neg (by decide),aaS,V3]
 unfold lP;rw[agH,agI,if_neg (by decide),show(if qb oA 8=true then(1:Int)else 0)=1 by decide,V4]
 rfl
theorem wF:Gv XF Cp:=il TQ (by
 show yD [.i 0,.i 128,.i 1024,.i 128,.i 0,.i 0,.i 4,.i 1]=some [.l [[1,0,0],[2,1,0],[3,2,0]]];simp only[yD,MQ];rw[if_pos (by decide)])
theorem MR:bK (TT Tryz.prog) XF 10 [] [.b true]:=agG wF
end Aw
end Go.Proofs.YtohebioanhliiaaGreatDoor.aD
namespace Go.Proofs.YtohebioanhliiaaGreatDoor.aD
open Go.Sx Go
theorem Gf:oq XF:=⟨fun k s ds rs hs ⟨n,hn⟩=>qL (abp Hu) hs hn,fun ds=>rfl⟩
theorem Nt:mE (TT Tryz.prog) XF kc (ord.take 177):=abq h7F ahl ahm ahn (abr rfl) (aho Gf) ahp ahq ahr ahs aht ahu
theorem WU:mE (TT Tryz.prog) XF kc (ord.take 125):=Nt.mono (by kernel_rfl)
theorem abt:Nu (fun k=>bK (TT Tryz.prog) XF k):=Sr Nt (by decide) (by decide)
theorem abu:(kc 18).res=[.l 0 (some 512000000000) na,.b]:=by kernel_rfl
theorem J0{ds:List DV}(hp:Bc ds):∃rs,bK (TT Tryz.prog) XF 17 ds rs/\rs.length=95/\∃b,rs.getD 94 (.i 0) = .b b/\(b=true->eZ (rs.take 94)):=by
 obtain⟨rs,h1,h2,b,h3,h4⟩:=g17 abt ds hp;obtain⟨l,e,_⟩:=hp;exact⟨rs,h1,h2,b,h3,fun hb=>(h4 l e hb).ok⟩
end Go.Proofs.YtohebioanhliiaaGreatDoor.aD

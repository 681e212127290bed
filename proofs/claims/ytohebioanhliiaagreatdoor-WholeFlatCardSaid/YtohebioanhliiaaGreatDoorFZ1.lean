/- awake is true; all functions come to an end. -/
import Derived.Test.YtohebioanhliiaaGreatDoorFH1
import Derived.Test.YtohebioanhliiaaGreatDoorFG4
import Derived.Test.YtohebioanhliiaaGreatDoorFE2
set_option maxRecDepth 100000
set_option linter.unusedVariables false
namespace Go.Proofs.YtohebioanhliiaaGreatDoor.aN
open Go.Sx Go.RowKit Go
namespace Aw
abbrev ri:List Int:=[0,128,1024,128,0,1,0,4,1,1,-1,0]
theorem VJ:nw 0 0 4 1=true:=by unfold nw;rw[tY (w24:Gv X0 r24)];rfl
theorem adq:xv 0 128 1024 128=ri:=by unfold xv;rw[tY (aiA:Gv X0 adh)];rfl
theorem Z1:lW ri=4:=by unfold lW;rw[tY (aiC:Gv X0 adj)];rfl
theorem Fu:fQ ri=1:=by unfold fQ;rw[tY (aiD:Gv X0 adk)];rfl
theorem KN:eJ ri 0=(131071,262144):=by unfold eJ;rw[tY (aiE:Gv X0 adl)];rfl
theorem Qf:ka ri 0=0:=by unfold ka;rw[tY (aiF:Gv X0 adm)];rfl
theorem Z2:og 0 0 4 1 (-1) 0=false:=by unfold og;rw[tY (aiB:Gv X0 adi)];rfl
theorem Z3:og 0 0 4 1 0 0=true:=by unfold og;rw[tY (aiG:Gv X0 adn)];rfl
theorem Z4:og 0 0 4 1 1 0=true:=by unfold og;rw[tY (aiH:Gv X0 ado)];rfl
theorem Z5:og 0 0 4 1 2 0=true:=by unfold og;rw[tY (aiI:Gv X0 adp)];rfl
theorem Z6:gN ri 0 0 4 1=[]:=by
 unfold gN;rw[if_pos (by decide),show px (qb ri 4) (qq ri 10) (qq ri 11) = -1 by decide,show py (qb ri 4) (qq ri 10) (qq ri 11)=0 by decide,Z2];rfl
theorem aiK:wo ri (lF ri 0 0) (lF ri 4 1)=0:=by
 unfold wo;rw[Fu];kernel_rfl
theorem aiL:Cf ri (lF ri 0 0) (lF ri 4 1)=2:=by
 unfold Cf nR;rw[Fu,Z1];kernel_rfl
theorem f_u:iW ri 0=0:=by
 unfold iW;rw[Fu];kernel_rfl
theorem X8:jQ ri 0 0=(0,0,131071):=by
 unfold jQ;rw[Qf,KN];kernel_rfl
theorem Qg{i:Nat}{u v t:Int}(h:jQ ri 0 i=(u,v,t)):jQ ri 0 (i+1)=(wrap64 (u+1),up1 262144 (wrap64 ((wrap64 (256*wrap64 (qq ri 3-qq ri 1))).tdiv 262144)) ((wrap64 (256*wrap64 (qq ri 3-qq ri 1))).tmod 262144) (v,t)):=by
 rw[jQ,h,Fu,KN]
theorem X9:jQ ri 0 1=(1,0,131071):=by rw[Qg X8];kernel_rfl
theorem adr:jQ ri 0 2=(2,0,131071):=by rw[Qg X9];kernel_rfl
theorem ads:iL ri 0 3=[(0,0),(1,0),(2,0)]:=by
 unfold iL;rw[show List.range 3=[0,1,2]by decide];simp only[kQ,pj,X8,X9,adr]
theorem Z7:mO ri 0 0 4 1 1 0 2=[[1,0,0],[2,1,0],[3,2,0]]:=by
 unfold mO;rw[f_u,show(lX 0 2).toNat=3 by kernel_rfl,ads];unfold eG;rw[show([((0:Int),(0:Int)),(1,0),(2,0)]:List (Int×Int)).length=3 from rfl,show List.range 3=[0,1,2]by decide];have hp:∀u:Int,px (qb ri 4) u 0=u/\py (qb ri 4) u 0=0:=fun u=>by
   rw[show qb ri 4=false by decide];exact⟨rfl,rfl⟩
 have e0:gO (qb ri 4) 0 0 4 1 (wrap64 (1+0)) 0 (0,0)=[[1,0,0]]:=by
   unfold gO;rw[(hp 0).1,(hp 0).2,Z3];kernel_rfl
 have e1:gO (qb ri 4) 0 0 4 1 (wrap64 (1+0)) 1 (1,0)=[[2,1,0]]:=by
   unfold gO;rw[(hp 1).1,(hp 1).2,Z4];kernel_rfl
 have e2:gO (qb ri 4) 0 0 4 1 (wrap64 (1+0)) 2 (2,0)=[[3,2,0]]:=by
   unfold gO;rw[(hp 2).1,(hp 2).2,Z5];kernel_rfl
 simp only[List.flatMap_cons,List.flatMap_nil];show gO (qb ri 4) 0 0 4 1 (wrap64 (1+0)) 0 (0,0)++(gO (qb ri 4) 0 0 4 1 (wrap64 (1+0)) 1 (1,0)++(gO (qb ri 4) 0 0 4 1 (wrap64 (1+0)) 2 (2,0)++[]))=_;rw[e0,e1,e2];rfl
theorem Qh:jI 0 128 1024 128 0 0 4 1=[[1,0,0],[2,1,0],[3,2,0]]:=by
 unfold jI;rw[VJ,if_neg (by decide),adq,Z6];unfold oh;rw[aiK,aiL,if_neg (by decide),show(if qb ri 8=true then(1:Int)else 0)=1 by decide,Z7];rfl
theorem wF:Gv XF Qe:=jG X' (by
 show Bv [.i 0,.i 128,.i 1024,.i 128,.i 0,.i 0,.i 4,.i 1]=some [.l [[1,0,0],[2,1,0],[3,2,0]]];simp only[Bv,Qh];rw[if_pos (by decide)])
theorem Qi:cX (TT PP) XF 10 [] [.b true]:=aiJ wF
end Aw
end Go.Proofs.YtohebioanhliiaaGreatDoor.aN
namespace Go.Proofs.YtohebioanhliiaaGreatDoor.aN
open Go.Sx Go
theorem aX:HC XF:=⟨fun k s ds rs hs ⟨n,hn⟩=>tN (adL KM) hs hn,fun ds=>rfl⟩
theorem QL:nj (TT PP) XF kc (ord.take 177):=adM h7F ajf ajg ajh (adN rfl) (aji aX) ajj ajk ajl ajm ajn ajo
theorem aaI:nj (TT PP) XF kc (ord.take 125):=QL.mono (by kernel_rfl)
theorem adO:QM (fun k=>cX (TT PP) XF k):=V9 QL (by decide) (by decide)
theorem adP:(kc 18).res=[.l 0 (some 512000000000) oY,.b]:=by kernel_rfl
end Go.Proofs.YtohebioanhliiaaGreatDoor.aN

/- awake: its calls, reckoned by the kernel. -/
import Derived.Test.YtohebioanhliiaaGreatDoorGB2
set_option linter.unusedVariables false
set_option maxRecDepth 100000
namespace Go.Sx
def evT(T:Nat->Option ir)(tb:List kC)(N:Nat):Nat->Nat->List DV->Option (List DV)
 |0,_,_=>none
 | .succ d,k,ds=>match H5 k ds tb with
   |some rs=>some rs
   | none=>match T k with
     |some e=>e.tree.oX (fun g ys=>evT T tb N d (e.key g) ys) N [] (Cc [] 0 ds) (fun _ _=>none)
     |none=>none
theorem aa3{T:Nat->Option ir}{X:bY}{tb:List kC}(QN:Oq T X tb){N:Nat}:∀d,∃n,∀k ds rs,evT T tb N d k ds=some rs->ev T X n k ds=some rs:=by
 obtain⟨m,hm⟩:=QN.fuel;intro d;induction d with
 |zero=>exact⟨0,fun k ds rs h=>by cases h⟩
 | succ d ih=>
   obtain⟨n,hn⟩:=ih;refine⟨max m (max n N)+1,fun k ds rs h=>?_⟩;unfold evT at h;split at h;rename_i r hr;cases h;exact gT m _ _ _ (by omega) _ (hm _ (Oo hr));split at h;rename_i e hk;rw[WM,Cd]at h;simp only[ev,hk];exact ou (C:=fun g ys=>evT T tb N d (e.key g) ys) (fun f ys r hr=>gT n _ _ _ (by omega) _ (hn _ _ _ hr)) (by omega) vN.refl (fun _ _ _ h=>h) rs h;cases h
def L5(T:Nat->Option ir)(d k:Nat)(tb:List kC)(N:Nat)(ds rs:List DV):Bool:=eqO (evT T tb N d k ds) rs
theorem zf{T:Nat->Option ir}{X:bY}{tb:List kC}(QN:Oq T X tb){d k N:Nat}{ds rs:List DV}(h:L5 T d k tb N ds rs=true):eR T X k ds rs:=by
 obtain⟨n,hn⟩:=aa3 QN (N:=N) d;exact⟨n,hn _ _ _ (aaF h)⟩
end Go.Sx
namespace Go.Proofs.YtohebioanhliiaaGreatDoor.av
open Go.Sx Go
namespace Aw
abbrev Gv(X:bY)(x:kC):Prop:=eR (TT PP) X x.1 x.2.1 x.2.2
def rB(P:Program)(tb:List kC)(x:kC):Bool:=L5 (TT P) 40 x.1 tb 2000 x.2.1 x.2.2
theorem gr{X:bY}{x:kC}(tb:List kC)(h:Oq (TT PP) X tb)(hb:rB PP tb x=true):Gv X x:=zf h hb
variable {X:bY}
abbrev r24:kC:=(65,[.i 0,.i 0,.i 4,.i 1],[.b true])
theorem w24:Gv X r24:=gr [] trivial (by kernel_rfl)
abbrev adU:kC:=(207,[.i 0,.i 128,.i 1024,.i 128],[.l [[0,128,1024,128,0,1,0,4,1,1,(-1),0]]])
theorem aiH:Gv X adU:=gr [] trivial (by kernel_rfl)
abbrev adV:kC:=(168,[.i 0,.i 0,.i 4,.i 1,.i (-1),.i 0],[.b false])
theorem aiI:Gv X adV:=gr [] trivial (by kernel_rfl)
abbrev adW:kC:=(210,[.l [[0,128,1024,128,0,1,0,4,1,1,(-1),0]]],[.i 4])
theorem aiJ:Gv X adW:=gr [] trivial (by kernel_rfl)
abbrev adX:kC:=(211,[.l [[0,128,1024,128,0,1,0,4,1,1,(-1),0]]],[.i 1])
theorem aiK:Gv X adX:=gr [] trivial (by kernel_rfl)
abbrev adY:kC:=(250,[.l [[0,128,1024,128,0,1,0,4,1,1,(-1),0]],.i 0],[.i 131071,.i 262144])
theorem aiL:Gv X adY:=gr [] trivial (by kernel_rfl)
abbrev adZ:kC:=(251,[.l [[0,128,1024,128,0,1,0,4,1,1,(-1),0]],.i 0],[.i 0])
theorem aiM:Gv X adZ:=gr [] trivial (by kernel_rfl)
abbrev ad0:kC:=(168,[.i 0,.i 0,.i 4,.i 1,.i 0,.i 0],[.b true])
theorem aiN:Gv X ad0:=gr [] trivial (by kernel_rfl)
abbrev ad1:kC:=(168,[.i 0,.i 0,.i 4,.i 1,.i 1,.i 0],[.b true])
theorem aiO:Gv X ad1:=gr [] trivial (by kernel_rfl)
abbrev ad2:kC:=(168,[.i 0,.i 0,.i 4,.i 1,.i 2,.i 0],[.b true])
theorem aiP:Gv X ad2:=gr [] trivial (by kernel_rfl)
abbrev Rn:kC:=(169,[.i 0,.i 128,.i 1024,.i 128,.i 0,.i 0,.i 4,.i 1],[.l [[1,0,0],[2,1,0],[3,2,0]]])
def zD(n:Nat):List DV:=List.replicate n (.i 0)
def Et(w h:Int)(C:List (List Int))(op:Bool)(mode:Int)(vs:List (List Int)):List DV:=
 let u:DV:=.l [(List.range 16).map fun i=>if Nat.beq (i%5) 0 then 65536 else 0]
 [.i 0,.i w,.i h,.l C,.l (C.map fun _=>[16777215])]++zD 4++[.i 16777215,.i 0,.i 0,.i w,.i h,.i 0,u,u]++(List.replicate 6 (.i 3::zD 4)).flatten++List.replicate 6 (.b false)++List.replicate 4 (.i 255)
   ++ [.b true,.b op,.i mode,.l vs,.l (vs.map fun _=>[1]),.i 1,.b false,.b false,.i 65535,.i 1,.i 0,.i 1,.i 0,.i 0,.i 0,.b true,.i 0,.b false,.i 0,.i 0]++List.replicate 3 (.b false)++zD 4++[.b false,.i 1,.b true,.b false,.i 1,.i 0]++List.replicate 4 (.b true)
def cD(op:Int)(a:List Int):List DV:=[.i op,.l (a.map fun x=>[x])]
def vD(x:Int):List Int:=[x,0,0,1,255,255,255,255]
def oD(c:Int):List (List Int):=[[c],[c],[c],[0]]
abbrev q0:List DV:=Et 0 0 [] false 0 []
abbrev q1:List DV:=Et 4 1 (oD 0) false 0 []
abbrev q2:List DV:=Et 4 1 (oD 0) true 1 []
abbrev q3:List DV:=Et 4 1 (oD 0) true 1 [vD (-1)]
abbrev q4:List DV:=Et 4 1 (oD 0) true 1 [vD (-1),vD 1]
abbrev q5:List DV:=Et 4 1 (oD 4294967295) false 0 []
abbrev a1:kC:=(24,q0++cD 1 [4,1],q1)
abbrev a2:kC:=(24,q1++cD 16 [1],q2)
abbrev a3:kC:=(24,q2++cD 17 [-1,0,0,1],q3)
abbrev a4:kC:=(24,q3++cD 17 [1,0,0,1],q4)
abbrev a5:kC:=(18,q4,[.l ([0,1,2].map fun x=>[x,0,8388607,255,255,255,255,64]),.b true])
abbrev a6:kC:=(24,q4++cD 18 [],q5)
theorem b1:Gv X a1:=gr [] trivial (by kernel_rfl)
theorem b2:Gv X a2:=gr [] trivial (by kernel_rfl)
theorem b3:Gv X a3:=gr [] trivial (by kernel_rfl)
theorem b4:Gv X a4:=gr [] trivial (by kernel_rfl)
theorem b5(h:Gv X Rn):Gv X a5:=gr [Rn] ⟨h,trivial⟩ (by kernel_rfl)
theorem b6(h:Gv X Rn):Gv X a6:=gr [a5] ⟨b5 h,trivial⟩ (by kernel_rfl)
theorem aiQ(h:Gv X Rn):Gv X (10,[],[.b true]):=gr [a1,a2,a3,a4,a6] ⟨b1,b2,b3,b4,b6 h,trivial⟩ (by kernel_rfl)
end Aw
end Go.Proofs.YtohebioanhliiaaGreatDoor.av

/- Points have at most as many fragments as their size and two, squared. -/
import Derived.Test.YtohebioanhliiaaGreatDoorBZ1
import Derived.Test.YtohebioanhliiaaGreatDoorBC2
import Derived.Test.YtohebioanhliiaaGreatDoorBA4
set_option maxRecDepth 100000
set_option linter.unusedVariables false
set_option linter.unusedSimpArgs false
namespace Go.Proofs.YtohebioanhliiaaGreatDoor.aw
section
open Go.Sx Go
variable {X:bD}
def oE(s:List (FuncId×Nat)):Bool:=s.all fun p=>Nat.beq p.2 999999
theorem X9{k:Nat}{t:ar}{s:List (FuncId×Nat)}(h:oE s=true)(g:FuncId):(⟨k,t,s⟩:gb).key g=g\/(⟨k,t,s⟩:gb).key g=999999:=by
 show(match s.find? (fun p=>p.1==g)with
   |some p=>p.2
   |none=>g)=g\/(match s.find? (fun p=>p.1==g)with
   |some p=>p.2
   |none=>g)=999999
 cases hf:s.find? (fun p=>p.1==g)with
 |none=>exact .inl rfl
 |some p=>exact .inr (vz (k7.1 h p (B2 hf)))
theorem rJ(hX:U0 X){k:Nat}{t:ar}{s:List (FuncId×Nat)}(h:oE s=true){g:FuncId}{ds rs:List DV}(hg:cm (TT Tryz.prog) X ((⟨k,t,s⟩:gb).key g) ds rs):cm (TT Tryz.prog) X g ds rs:=by
 rcases X9 (k:=k) (t:=t) h g with e|e;rwa[e]at hg;rw[e]at hg;exact(Oq hX.no hg).elim
section
variable {E:Nat->List DV->List DV->Prop}{R:List DV->Prop}{Ps:List (Int->Prop)}{U:aA}{F:Nat->List DV->Prop}{t t':ar}
theorem aP{p:BE}(ht:p.ae U=true->t.par E R Ps U F):(ar.ev (.aG p) t).par E R Ps U F:=ht
theorem ET{id:Nat}{op:cT}(ht:t.par E R Ps (U.set id (.l (op.ae U))) F):(ar.ev (.cu id op) t).par E R Ps U F:=ht
theorem rF{id:Nat}{entry:List DE}{ks:List CT}{base:Nat}{body:ar}(inv:List DV->Prop)(h0:inv (entry.map (DE.ae U)))
   (hb:∀ds,inv ds->body.par E R Ps (U.ay base ds) (oN F id inv)):(ar.loop id entry ks base body).par E R Ps U F:=⟨inv,h0,hb⟩
theorem nc{id:Nat}{bO:List DE}{G:List DV->Prop}(h:G (bO.map (DE.ae U))):(ar.again id bO).par E R Ps U (oN F id G):=by
 simpa[ar.par,oN]using h
theorem iV{a b:IE}(h1:a.ae U<b.ae U->t.par E R Ps U F)(h2:b.ae U<=a.ae U->t'.par E R Ps U F):(ar.ite (.lt a b) t t').par E R Ps U F:=
 iB (fun h=>h1 (qt h)) (fun h=>h2 (Int.not_lt.1 (T3 h)))
theorem ahj{c:BE}(hc:c.ae U=false)(h:t'.par E R Ps U F):(ar.ite c t t').par E R Ps U F:=iB (fun h'=>by rw[hc]at h';cases h') (fun _=>h)
end
theorem EW(e:aA)(b:Nat)(ds:List DV):∃e':aA,e'=e.ay b ds/\(∀k,k<b->e' k=e k)/\∀j,j<ds.length->e' (b+j)=ds.getD j (.i 0):=
 ⟨_,rfl,fun k hk=>aA.bn hk,fun j hj=>G0 hj⟩
end
section
open Go.Sx Go
abbrev Gf(k:Nat)(ds rs:List DV):Prop:=cm (TT Tryz.prog) XF k ds rs
end
section
open Go.Sx Go
section
variable {E:Nat->List DV->List DV->Prop}{R:List DV->Prop}{Ps:List (Int->Prop)}{U:aA}{F:Nat->List DV->Prop}
theorem zA{id rY:Nat}{bO:List DE}{G G':List DV->Prop}(ck:Nat.beq id rY=false)(h:G (bO.map (DE.ae U))):(ar.again id bO).par E R Ps U (oN (oN F id G) rY G'):=by
 show oN (oN F id G) rY G' id (bO.map (DE.ae U));unfold oN;rw[if_neg (fun e=>by rw[e,Nat.beq_refl]at ck;cases ck),if_pos rfl];exact h
end
abbrev k8:List CK:=iH
def S2(b g:Nat)(az:List DE):ar:=
.loop 104003 [.nil,.i (.v 1)] [.s 74 k8,.c i6] b (
.ite (.lt (.v (b+1)) (.v 3)) (
.loop 104006 [.l b,.i (.v 0)] [.s 74 k8,.c i6] (b+2) (
.ite (.lt (.v (b+3)) (.v 2)) (
.ev (.call g (.c true) (.i (.v (b+3)) :: .i (.v (b+1))::az) [.agg [.c i6,.c i6,.c i6,.c i6,.c i6,.c i6,.c i6,.c i6]] (b+4)) (
.ite (.lt (.c 0) (.v (b+11))) (
.ev (.cu (b+13) (.lit [[.inl (.v (b+4)),.inl (.v (b+5)),.inl (.v (b+6)),.inl (.v (b+7)),.inl (.v (b+8)),.inl (.v (b+9)),.inl (.v (b+10)),.inl (.v (b+11))]])) (
.ev (.aG (.le (.add (.len (b+2)) (.len (b+13))) (.c 2199023255552))) (
.ev (.cu (b+14) (.app (b+2) (b+13))) (
.ev (.aG (r6 (.add (.v (b+3)) (.c 1)))) (
.again 104006 [.l (b+14),.i (.add (.v (b+3)) (.c 1))]))))) (
.ev (.aG (r6 (.add (.v (b+3)) (.c 1)))) (
.again 104006 [.l (b+2),.i (.add (.v (b+3)) (.c 1))])))) (
.ev (.aG (r6 (.add (.v (b+1)) (.c 1)))) (
.again 104003 [.l (b+2),.i (.add (.v (b+1)) (.c 1))])))) (
.ret [.l b]))
theorem S3:TT Tryz.prog 104106=some ⟨104,S2 8 106 [.l 4,.l 5,.l 6],(rowOf 104106).sub⟩:=by kernel_rfl
theorem S4:TT Tryz.prog 104150=some ⟨104,S2 7 150 [.l 4,.l 5],(rowOf 104150).sub⟩:=by kernel_rfl
def cl(z W:Int):Int:=max 0 (min z W)
theorem UI{z W:Int}(h:0<=z)(h':z<W):cl (z+1) W=cl z W+1:=by unfold cl;omega
theorem UJ{z W:Int}:cl z W<=cl (z+1) W:=by unfold cl;omega
theorem UK{z W:Int}:0<=cl z W:=by unfold cl;omega
theorem UL{z W:Int}(h:0<=W):cl z W<=W:=by unfold cl;omega
theorem Iw{E:Nat->List DV->List DV->Prop}{R:List DV->Prop}{e:aA}{b g:Nat}{az:List DE}(hb:7<=b){X0 Y0 W H:Int}(hW:0<=W)(hH:0<=H)
   (hg:∀x y (e':aA),(∀k,k<b->e' k=e k)->(e 0).int<=x->x<(e 2).int->(e 1).int<=y->y<(e 3).int->∀rs,E g (.i x :: .i y::az.map (DE.ae e')) rs->0<((e'.ay (b+4) rs) (b+11)).int->(X0<=x/\x<X0+W)/\Y0<=y/\y<Y0+H)
   (hR:∀out:List (List Int),(out.length:Int)<=W*H->R [.l out]):(S2 b g az).par E R [] e (fun _ _=>True):=by
 unfold S2;refine rF (fun vs=>∃(out:List (List Int)) (y:Int),vs=[.l out,.i y]/\(e 1).int<=y/\(out.length:Int)<=W*cl (y-Y0) H) ⟨[],(e 1).int,rfl,Int.le_refl _,qR hW UK⟩ ?_;rintro _ ⟨out,y,rfl,hy,ho⟩;obtain⟨e1,zw,o1,v1⟩:=EW e b [.l out,.i y];have Z0:e1 b = .l out:=v1 0 (by simp);have v1b:e1 (b+1) = .i y:=v1 1 (by simp);rw[<- zw];refine iV (fun cF=>?_) (fun _=>eA (by
   show R [.l (e1 b).list];rw[Z0];exact hR out (Int.le_trans ho (nG (UL hH) hW))))
 have cF:(e1 (b+1)).int<(e1 3).int:=cF;rw[v1b,o1 3 (by omega)]at cF;have cF:y<(e 3).int:=cF;refine rF (fun vs=>∃(out:List (List Int)) (x:Int),vs=[.l out,.i x]/\(e 0).int<=x/\(out.length:Int)<=W*cl (y-Y0) H+if Y0<=y/\y<Y0+H then cl (x-X0) W else 0) ⟨out,(e 0).int,?_,Int.le_refl _,?_⟩ ?_;show [DV.l (e1 b).list,DV.i (e1 0).int]=_;rw[Z0,o1 0 (by omega)];rfl;have:=@UK ((e 0).int-X0) W;split<;>omega;rintro _ ⟨rI,x,rfl,hx,Z1⟩;obtain⟨e2,Ji,o2,v2⟩:=EW e1 (b+2) [.l rI,.i x];have Z2:e2 (b+2) = .l rI:=v2 0 (by simp);have XA:e2 (b+3) = .i x:=v2 1 (by simp);have v2c:e2 (b+1) = .i y:=by rw[o2 _ (by omega),v1b]
 have o20:∀k,k<b->e2 k=e k:=fun k hk=>by rw[o2 _ (by omega),o1 _ hk]
 rw[<- Ji];refine iV (fun K9=>?_) (fun hgx=>aP fun _=>zA rfl ⟨rI,y+1,?_,by omega,?_⟩);have K9:(e2 (b+3)).int<(e2 2).int:=K9;rw[XA,o20 2 (by omega)]at K9;have K9:x<(e 2).int:=K9;refine ej fun rs hE=>?_;have hE:E g (.i x :: .i y::az.map (DE.ae e2)) rs:=by
   have:(DE.i (.v (b+3))::DE.i (.v (b+1))::az).map (DE.ae e2) = .i x :: .i y::az.map (DE.ae e2):=by
     show DV.i (e2 (b+3)).int::DV.i (e2 (b+1)).int::_=_;rw[XA,v2c];rfl
   rw[<- this];exact hE
 have XB:=hg x y e2 o20 hx K9 hy cF rs hE;obtain⟨e3,KA⟩:∃e3,e3=e2.ay (b+4) rs:=⟨_,rfl⟩;have o3:∀k,k<b+4->e3 k=e2 k:=fun k hk=>by rw[KA,aA.bn hk]
 rw[<- KA]at XB ⊢;have grow:cl (x-X0) W<=cl (x+1-X0) W:=by
   have:=@UJ (x-X0) W;rwa[show x-X0+1=x+1-X0 by omega]at this
 refine iV (fun hc=>?_) (fun _=>aP fun _=>nc ⟨rI,x+1,?_,by omega,?_⟩);have hc:0<(e3 (b+11)).int:=hc;obtain⟨⟨x0,x1⟩,y0,y1⟩:=XB hc;refine ET (aP fun _=>ET (aP fun _=>?_));refine nc ⟨rI++[[(e3 (b+4)).int,(e3 (b+5)).int,(e3 (b+6)).int,(e3 (b+7)).int,(e3 (b+8)).int,(e3 (b+9)).int,(e3 (b+10)).int,(e3 (b+11)).int]],x+1,?_,by omega,?_⟩;have a1:∀(e:aA) (k:Nat) (d:DV),e.set k d k=d:=fun e k d=>by simp[aA.set]
 have a2:∀(e:aA) (k j:Nat) (d:DV),j≠k->e.set k d j=e j:=fun e k j d h=>by simp[aA.set,h]
 simp only[jt,mJ,DE.ae,IE.ae,cT.ae,bV,a1];rw[a2 _ _ _ _ (show b+3≠b+14 by omega),a2 _ _ _ _ (show b+3≠b+13 by omega),a2 _ _ _ _ (show b+2≠b+13 by omega),o3 (b+3) (by omega),o3 (b+2) (by omega),Z2,XA];rfl;rw[dG,if_pos ⟨y0,y1⟩];rw[if_pos ⟨y0,y1⟩]at Z1;have:=UI (z:=x-X0) (W:=W) (by omega) (by omega);rw[show x-X0+1=x+1-X0 by omega]at this;simp only[tY,List.length_nil];omega;show [DV.l (e3 (b+2)).list,DV.i ((e3 (b+3)).int+1)]=_;rw[o3 _ (by omega),o3 _ (by omega),Z2,XA];rfl;split;rename_i h;rw[if_pos h]at Z1;omega;rename_i h;rw[if_neg h]at Z1;omega;show [DV.l (e2 (b+2)).list,DV.i ((e2 (b+1)).int+1)]=_;rw[Z2,v2c];rfl;by_cases h:Y0<=y/\y<Y0+H;rw[if_pos h]at Z1;have h1:=UI (z:=y-Y0) (W:=H) (by omega) (by omega);rw[show y-Y0+1=y+1-Y0 by omega]at h1;have h2:=UL (z:=x-X0) hW;rw[h1,Int.mul_add,Int.mul_one];omega;rw[if_neg h]at Z1;have h1:=@UJ (y-Y0) H;rw[show y-Y0+1=y+1-Y0 by omega]at h1;have:=nG h1 hW;omega
end
section
open Go.Sx Go
def t42:ar:=
.ev (.call 65 (.c true) (iv 0 4) [oB] 11) (
.ev (.call 65 (.v 11) (iv 4 4) [oB] 12) (
.ite (.or (.not (.v 11)) (.not (.v 12))) (
.ret [.i (.c 0),.i (.c 0),.i (.c 0),.i (.c 0)]) (
.ev (.call 65 (.c true) [.i (.max (.v 0) (.v 4)),.i (.max (.v 1) (.v 5)),.i (.min (.v 2) (.v 6)),.i (.min (.v 3) (.v 7))] [oB] 14) (
.ite (.not (.v 14)) (
.ret [.i (.c 0),.i (.c 0),.i (.c 0),.i (.c 0)]) (
.ret [.i (.max (.v 0) (.v 4)),.i (.max (.v 1) (.v 5)),.i (.min (.v 2) (.v 6)),.i (.min (.v 3) (.v 7))])))))
theorem T42:TT Tryz.prog 42=some ⟨42,t42,(rowOf 42).sub⟩:=by kernel_rfl
def zB:IE:=.emod (.add (.v 7) (.c 1)) 2
def t105:ar:=
.ev (.call 102 (.c true) [.i (.v 0),.i (.v 1),.i (.v 2),.i (.v 3),.i (.v 4),.i (.v 5),.i (.v 6),.i (.v 7),.i (.c 0)] [oB] 10) (
.ite (.not (.v 10)) (
.ret [.i (.c 0),.i (.c 0),.i (.c 0),.i (.c 0)]) (
.ev (.aG (r6 (.add (.v 7) (.c 1)))) (
.ev (.aG (r6 (.mul zB (.c 128)))) (
.ev (.aG (r6 (.add (.v 0) (.mul zB (.c 128))))) (
.ev (.aG (r6 (.sub (.ediv (.add (.v 0) (.mul zB (.c 128))) 256) (.ediv (.v 7) 2)))) (
.ev (.aG (r6 (.add (.v 1) (.mul zB (.c 128))))) (
.ev (.aG (r6 (.sub (.ediv (.add (.v 1) (.mul zB (.c 128))) 256) (.ediv (.v 7) 2)))) (
.ev (.aG (r6 (.add (.sub (.ediv (.add (.v 0) (.mul zB (.c 128))) 256) (.ediv (.v 7) 2)) (.v 7)))) (
.ev (.aG (r6 (.add (.sub (.ediv (.add (.v 1) (.mul zB (.c 128))) 256) (.ediv (.v 7) 2)) (.v 7)))) (
.ret [.i (.sub (.ediv (.add (.v 0) (.mul zB (.c 128))) 256) (.ediv (.v 7) 2)),.i (.sub (.ediv (.add (.v 1) (.mul zB (.c 128))) 256) (.ediv (.v 7) 2)),.i (.add (.sub (.ediv (.add (.v 0) (.mul zB (.c 128))) 256) (.ediv (.v 7) 2)) (.v 7)),.i (.add (.sub (.ediv (.add (.v 1) (.mul zB (.c 128))) 256) (.ediv (.v 7) 2)) (.v 7))]))))))))))
theorem ag3:TT Tryz.prog 105=some ⟨105,t105,(rowOf 105).sub⟩:=by kernel_rfl
def UM:IE:=.sub (.add (.add (.mul (.v 8) (.c 256)) (.mul (.v 12) (.c 32))) (.c 16)) (.v 1)
def Z3:IE:=.sub (.add (.add (.mul (.v 7) (.c 256)) (.mul (.v 14) (.c 32))) (.c 16)) (.v 0)
def t151:ar:=
.loop 151003 [.i (.c 0),.i (.c 0)] [.c i6,.c i6] 11 (
.ite (.lt (.v 12) (.c 8)) (
.ev (.aG (r6 (.mul (.v 8) (.c 256)))) (
.ev (.aG (r6 (.mul (.v 12) (.c 32)))) (
.ev (.aG (r6 (.add (.mul (.v 8) (.c 256)) (.mul (.v 12) (.c 32))))) (
.ev (.aG (r6 (.add (.add (.mul (.v 8) (.c 256)) (.mul (.v 12) (.c 32))) (.c 16)))) (
.ev (.aG (r6 UM)) (
.ev (.aG (r6 (.mul UM UM))) (
.ev (.aG (r6 (.sub (.v 9) (.mul UM UM)))) (
.loop 151008 [.i (.v 11),.i (.c 0)] [.c i6,.c i6] 13 (
.ite (.lt (.v 14) (.c 8)) (
.ev (.aG (r6 (.mul (.v 7) (.c 256)))) (
.ev (.aG (r6 (.mul (.v 14) (.c 32)))) (
.ev (.aG (r6 (.add (.mul (.v 7) (.c 256)) (.mul (.v 14) (.c 32))))) (
.ev (.aG (r6 (.add (.add (.mul (.v 7) (.c 256)) (.mul (.v 14) (.c 32))) (.c 16)))) (
.ev (.aG (r6 Z3)) (
.ev (.aG (r6 (.mul Z3 Z3))) (
.ite (.lt (.mul Z3 Z3) (.sub (.v 9) (.mul UM UM))) (
.ev (.aG (r6 (.add (.v 13) (.c 1)))) (
.ev (.aG (r6 (.add (.v 14) (.c 1)))) (
.again 151008 [.i (.add (.v 13) (.c 1)),.i (.add (.v 14) (.c 1))]))) (
.ev (.aG (r6 (.add (.v 14) (.c 1)))) (
.again 151008 [.i (.v 13),.i (.add (.v 14) (.c 1))]))))))))) (
.ev (.aG (r6 (.add (.v 12) (.c 1)))) (
.again 151003 [.i (.v 13),.i (.add (.v 12) (.c 1))]))))))))))) (
.ret [.i (.v 11)]))
theorem ag4:TT Tryz.prog 151=some ⟨151,t151,(rowOf 151).sub⟩:=by kernel_rfl
def t150:ar:=
.ev (.aG (.lt (.c 0) (.len 2))) (
.ev (.aG (.lt (.c 2) (.len 2))) (
.ev (.aG (.le (.c 7) (.len 2))) (
.ev (.aG (.lt (.c 0) (.len 3))) (
.ev (.aG (r6 (.mul (.get 3 (.c 0) 0) (.get 3 (.c 0) 0)))) (
.ev (.call 151 (.c true) [.i (.get 2 (.c 0) 0),.i (.get 2 (.c 1) 0),.i (.get 2 (.c 2) 0),.i (.get 2 (.c 3) 0),.i (.get 2 (.c 4) 0),.i (.get 2 (.c 5) 0),.i (.get 2 (.c 6) 0),.i (.v 0),.i (.v 1),.i (.mul (.get 3 (.c 0) 0) (.get 3 (.c 0) 0))] [oI] 6149) (
.ret [.i (.v 0),.i (.v 1),.i (.get 2 (.c 2) 0),.i (.get 2 (.c 3) 0),.i (.get 2 (.c 4) 0),.i (.get 2 (.c 5) 0),.i (.get 2 (.c 6) 0),.i (.v 6149)]))))))
theorem ag5:TT Tryz.prog 150=some ⟨150,t150,(rowOf 150).sub⟩:=by kernel_rfl
def t103:ar:=
.ev (.aG (r6 (.mul (.v 7) (.c 128)))) (
.ev (.aG (r6 (.sub (.v 0) (.mul (.v 7) (.c 128))))) (
.ev (.aG (r6 (.sub (.ediv (.sub (.v 0) (.mul (.v 7) (.c 128))) 256) (.c 1)))) (
.ev (.aG (r6 (.sub (.v 1) (.mul (.v 7) (.c 128))))) (
.ev (.aG (r6 (.sub (.ediv (.sub (.v 1) (.mul (.v 7) (.c 128))) 256) (.c 1)))) (
.ev (.aG (r6 (.add (.v 0) (.mul (.v 7) (.c 128))))) (
.ev (.aG (r6 (.add (.ediv (.add (.v 0) (.mul (.v 7) (.c 128))) 256) (.c 2)))) (
.ev (.aG (r6 (.add (.v 1) (.mul (.v 7) (.c 128))))) (
.ev (.aG (r6 (.add (.ediv (.add (.v 1) (.mul (.v 7) (.c 128))) 256) (.c 2)))) (
.ev (.call 42 (.c true) [.i (.sub (.ediv (.sub (.v 0) (.mul (.v 7) (.c 128))) 256) (.c 1)),.i (.sub (.ediv (.sub (.v 1) (.mul (.v 7) (.c 128))) 256) (.c 1)),.i (.add (.ediv (.add (.v 0) (.mul (.v 7) (.c 128))) 256) (.c 2)),.i (.add (.ediv (.add (.v 1) (.mul (.v 7) (.c 128))) 256) (.c 2)),.i (.v 8),.i (.v 9),.i (.v 10),.i (.v 11)] [.agg [.c i6,.c i6,.c i6,.c i6]] 16) (
.ev (.call 104 (.c true) [.i (.v 16),.i (.v 17),.i (.v 18),.i (.v 19),.rows [(.v 0),(.v 1),(.v 2),(.v 3),(.v 4),(.v 5),(.v 6)],.rows [(.mul (.v 7) (.c 128))]] [.one (.s 74 k8)] 20) (
.ret [.l 20])))))))))))
theorem ag6:TT Tryz.prog 103=some ⟨103,t103,(rowOf 103).sub⟩:=by kernel_rfl
def GZ:ar:=
.ite (.or (.not (.v 17)) (.not (.v 18))) (
.ret [.nil]) (
.ite (.eq (.v 8) (.c 1)) (
.ev (.call 103 (.c true) (iv 0 8++iv 9 4) [.one (.s 74 k8)] 19) (
.ret [.l 19])) (
.ev (.call 105 (.c true) (iv 0 8) [.agg [.c i6,.c i6,.c i6,.c i6]] 1043) (
.ev (.call 42 (.c true) (iv 1043 4++iv 9 4) [.agg [.c i6,.c i6,.c i6,.c i6]] 2067) (
.ev (.call 104 (.c true) [.i (.v 2067),.i (.v 2068),.i (.v 2069),.i (.v 2070),.rows [(.v 0),(.v 1),(.v 2),(.v 3),(.v 4),(.v 5),(.v 6)],.rows [(.v 8)],.rows [(.v 7)]] [.one (.s 74 k8)] 3091) (
.ret [.l 3091])))))
def t69:ar:=
.ev (.call 102 (.c true) (iv 0 9) [oB] 17) (
.ev (.call 65 (.v 17) (iv 9 4) [oB] 18) (GZ))
theorem T69:TT Tryz.prog 69=some ⟨69,t69,(rowOf 69).sub⟩:=by kernel_rfl
theorem plB:([42,105,151,150,104150,104106].all fun k=>oE (rowOf k).sub)=true:=by kernel_rfl
theorem UN{k:Nat}(h:k∈[42,105,151,150,104150,104106]):oE (rowOf k).sub=true:=k7.1 plB k h
theorem UO{a b c d p q r s:Int}{rs:List DV}(hg:Gf 42 [.i a,.i b,.i c,.i d,.i p,.i q,.i r,.i s] rs):∃x0 y0 x1 y1,rs=[.i x0,.i y0,.i x1,.i y1]/\(∀x,x0<=x->x<x1->a<=x/\x<c)/\∀y,y0<=y->y<y1->b<=y/\y<d:=by
 refine cR (R:=fun rs=>∃x0 y0 x1 y1,rs=[DV.i x0,.i y0,.i x1,.i y1]/\(∀x,x0<=x->x<x1->a<=x/\x<c)/\∀y,y0<=y->y<y1->b<=y/\y<d) T42 ?_ hg;have z:∃x0 y0 x1 y1,[DV.i 0,.i 0,.i 0,.i 0]=[DV.i x0,.i y0,.i x1,.i y1]/\(∀x,x0<=x->x<x1->a<=x/\x<c)/\∀y,y0<=y->y<y1->b<=y/\y<d:=⟨0,0,0,0,rfl,fun x h h'=>by omega,fun x h h'=>by omega⟩;obtain⟨e,he⟩:∃e,e=bB.ay 0 [DV.i a,.i b,.i c,.i d,.i p,.i q,.i r,.i s]:=⟨_,rfl⟩;have w:∀k,k<8->e k=[DV.i a,.i b,.i c,.i d,.i p,.i q,.i r,.i s].getD k (.i 0):=fun k hk=>by rw[he];exact Dc hk
 rw[<- he];refine ej fun r1 _=>?_;have fin:∀e2:aA,(∀k,k<8->e2 k=e k)->(ar.ite (.or (.not (.v 11)) (.not (.v 12))) (.ret [.i (.c 0),.i (.c 0),.i (.c 0),.i (.c 0)]) (
     .ev (.call 65 (.c true) [.i (.max (.v 0) (.v 4)),.i (.max (.v 1) (.v 5)),.i (.min (.v 2) (.v 6)),.i (.min (.v 3) (.v 7))] [oB] 14) (
     .ite (.not (.v 14)) (.ret [.i (.c 0),.i (.c 0),.i (.c 0),.i (.c 0)]) (.ret [.i (.max (.v 0) (.v 4)),.i (.max (.v 1) (.v 5)),.i (.min (.v 2) (.v 6)),.i (.min (.v 3) (.v 7))])))).par (fun g=>cm (TT Tryz.prog) XF ((⟨42,t42,(rowOf 42).sub⟩:gb).key g)) (fun rs=>∃x0 y0 x1 y1,rs=[DV.i x0,.i y0,.i x1,.i y1]/\(∀x,x0<=x->x<x1->a<=x/\x<c)/\∀y,y0<=y->y<y1->b<=y/\y<d) [] e2 (fun _ _=>True):=fun e2 o2=>by
   refine iB (fun _=>eA z) (fun _=>ej fun r3 _=>iB (fun _=>eA z) (fun _=>eA ?_));have w3:∀k,k<8->e2.ay 14 r3 k=[DV.i a,.i b,.i c,.i d,.i p,.i q,.i r,.i s].getD k (.i 0):=fun k hk=>by rw[aA.bn (by omega),o2 k hk,w k hk]
   refine⟨max a p,max b q,min c r,min d s,?_,fun x h h'=>by omega,fun x h h'=>by omega⟩;simp only[jt,mJ,DE.ae,IE.ae,w3 0 (by omega),w3 1 (by omega),w3 2 (by omega),w3 3 (by omega),w3 4 (by omega),w3 5 (by omega),w3 6 (by omega),w3 7 (by omega)];rfl
 exact xH (fun _ r2 _=>fin _ fun k hk=>by rw[aA.bn (by omega),aA.bn (by omega)]) (fun _=>fin _ fun k hk=>by rw[aA.bn (by omega),aA.bn (by omega)])
theorem ab3{X Y Z a b c d s:Int}(hs:0<=s){rs:List DV}(hg:Gf 105 [.i X,.i Y,.i Z,.i a,.i b,.i c,.i d,.i s] rs):∃x0 y0 x1 y1,rs=[.i x0,.i y0,.i x1,.i y1]/\x1<=x0+s/\y1<=y0+s:=by
 refine cR (R:=fun rs=>∃x0 y0 x1 y1,rs=[DV.i x0,.i y0,.i x1,.i y1]/\x1<=x0+s/\y1<=y0+s) ag3 ?_ hg;refine ej fun r1 _=>iB (fun _=>eA ⟨0,0,0,0,rfl,by omega,by omega⟩) (fun _=>?_);refine aP fun _=>aP fun _=>aP fun _=>aP fun _=>aP fun _=>aP fun _=>aP fun _=>aP fun _=>eA ⟨_,_,_,_,rfl,?_,?_⟩;show _+((bB.ay 0 [DV.i X,.i Y,.i Z,.i a,.i b,.i c,.i d,.i s]).ay 10 r1 7).int<=_;rw[aA.bn (by omega)];exact Int.le_refl _;show _+((bB.ay 0 [DV.i X,.i Y,.i Z,.i a,.i b,.i c,.i d,.i s]).ay 10 r1 7).int<=_;rw[aA.bn (by omega)];exact Int.le_refl _
theorem NS(a:Int):0<=a*a:=by
 rcases Int.le_total 0 a with h|h;exact qR h h;have:=qR (show 0<=-a by omega) (show 0<=-a by omega);rwa[Int.neg_mul_neg]at this
theorem UP{a b:Int}(hb:0<=b)(h:a<=-b):b*b<=a*a:=by
 have:=xo (show b<=-a by omega) (show b<=-a by omega) hb (show 0<=-a by omega);rwa[Int.neg_mul_neg]at this
theorem KB{X Y x y S:Int}{d2 d3 d4 d5 d6:DV}(h:(∀i,0<=i->i<8->S<=(x*256+i*32+16-X)*(x*256+i*32+16-X))\/∀i,0<=i->i<8->S<=(y*256+i*32+16-Y)*(y*256+i*32+16-Y)){rs:List DV}
   (hg:Gf 151 [.i X,.i Y,d2,d3,d4,d5,d6,.i x,.i y,.i S] rs):rs=[.i 0]:=by
 refine cR (R:=fun rs=>rs=[DV.i 0]) ag4 ?_ hg;obtain⟨e,he⟩:∃e,e=bB.ay 0 [DV.i X,.i Y,d2,d3,d4,d5,d6,.i x,.i y,.i S]:=⟨_,rfl⟩;have w0:e 0 = .i X:=by rw[he];rfl
 have w1:e 1 = .i Y:=by rw[he];rfl
 have w7:e 7 = .i x:=by rw[he];rfl
 have w8:e 8 = .i y:=by rw[he];rfl
 have w9:e 9 = .i S:=by rw[he];rfl
 rw[<- he];refine rF (fun vs=>∃k:Int,0<=k/\vs=[.i 0,.i k]) ⟨0,Int.le_refl _,rfl⟩ ?_;rintro _ ⟨k,hk,rfl⟩;obtain⟨e1,zw,o1,v1⟩:=EW e 11 [.i 0,.i k];have v11:e1 11 = .i 0:=v1 0 (by simp);have v12:e1 12 = .i k:=v1 1 (by simp);rw[<- zw];refine iV (fun cF=>?_) (fun _=>eA (by show [DV.i (e1 11).int]=_;rw[v11];rfl));have cF:(e1 12).int<8:=cF;rw[v12]at cF;have cF:k<8:=cF;refine aP fun _=>aP fun _=>aP fun _=>aP fun _=>aP fun _=>aP fun _=>aP fun _=>?_;refine rF (fun vs=>∃i:Int,0<=i/\vs=[.i 0,.i i]) ⟨0,Int.le_refl _,by show [DV.i (e1 11).int,DV.i 0]=_;rw[v11];rfl⟩ ?_;rintro _ ⟨i,hi,rfl⟩;obtain⟨e2,Ji,o2,v2⟩:=EW e1 13 [.i 0,.i i];have v13:e2 13 = .i 0:=v2 0 (by simp);have v14:e2 14 = .i i:=v2 1 (by simp);have u12:e2 12 = .i k:=by rw[o2 _ (by omega),v12]
 have ww:∀j,j<11->e2 j=e j:=fun j hj=>by rw[o2 _ (by omega),o1 _ hj]
 rw[<- Ji];refine iV (fun AN=>?_) (fun _=>aP fun _=>zA rfl ⟨k+1,by omega,?_⟩);have AN:(e2 14).int<8:=AN;rw[v14]at AN;have AN:i<8:=AN;refine aP fun _=>aP fun _=>aP fun _=>aP fun _=>aP fun _=>aP fun _=>?_;refine iV (fun hc=>?_) (fun _=>aP fun _=>nc ⟨i+1,by omega,?_⟩);exfalso;simp only[Z3,UM,IE.ae,v14,u12,ww 0 (by omega),ww 1 (by omega),ww 7 (by omega),ww 8 (by omega),ww 9 (by omega),w0,w1,w7,w8,w9,di]at hc;have n1:0<=(x*256+i*32+16-X)*(x*256+i*32+16-X):=NS _;have n2:0<=(y*256+k*32+16-Y)*(y*256+k*32+16-Y):=NS _;rcases h with h|h;have:=h i hi AN;omega;have:=h k hk cF;omega;show [DV.i (e2 13).int,DV.i ((e2 14).int+1)]=_;rw[v13,v14];rfl;show [DV.i (e2 13).int,DV.i ((e2 12).int+1)]=_;rw[v13,u12];rfl
theorem S5{X Y Z a b c d s x0 y0 x1 y1:Int}(hs:0<=s){rs:List DV}(hg:Gf 103 [.i X,.i Y,.i Z,.i a,.i b,.i c,.i d,.i s,.i x0,.i y0,.i x1,.i y1] rs):∃fr,rs=[.l fr]/\(fr.length:Int)<=(s+2)*(s+2):=by
 refine cR (R:=fun rs=>∃fr,rs=[DV.l fr]/\(fr.length:Int)<=(s+2)*(s+2)) ag6 ?_ hg;obtain⟨e,he⟩:∃e,e=bB.ay 0 [DV.i X,.i Y,.i Z,.i a,.i b,.i c,.i d,.i s,.i x0,.i y0,.i x1,.i y1]:=⟨_,rfl⟩;have w0:e 0 = .i X:=by rw[he];rfl
 have w1:e 1 = .i Y:=by rw[he];rfl
 have w7:e 7 = .i s:=by rw[he];rfl
 have w8:e 8 = .i x0:=by rw[he];rfl
 have w9:e 9 = .i y0:=by rw[he];rfl
 have w10:e 10 = .i x1:=by rw[he];rfl
 have w11:e 11 = .i y1:=by rw[he];rfl
 rw[<- he];have k42:(⟨103,t103,(rowOf 103).sub⟩:gb).key 42=42:=by kernel_rfl
 have XC:(⟨103,t103,(rowOf 103).sub⟩:gb).key 104=104150:=by kernel_rfl
 refine aP fun _=>aP fun _=>aP fun _=>aP fun _=>aP fun _=>aP fun _=>aP fun _=>aP fun _=>aP fun _=>?_;refine ej fun r1 g1=>?_;rw[k42]at g1;simp only[jt,mJ,DE.ae,IE.ae,w0,w1,w7,w8,w9,w10,w11,di]at g1;obtain⟨p,q,r,t,rfl,hx,hy⟩:=UO g1;obtain⟨e2,Ji,o2,v2⟩:=EW e 16 [.i p,.i q,.i r,.i t];rw[<- Ji];refine ej fun r3 g3=>?_;rw[XC]at g3;obtain⟨W,hW⟩:∃W,W=(X-s*128)/256:=⟨_,rfl⟩;obtain⟨H,hH⟩:∃H,H=(Y-s*128)/256:=⟨_,rfl⟩;have hxx:(X+s*128)/256=W+s:=by omega
 have hyy:(Y+s*128)/256=H+s:=by omega
 have NT:((256:Nat):Int)=256:=rfl;rw[NT,<- hW,hxx]at hx;rw[NT,<- hH,hyy]at hy;have key:∃fr,r3=[DV.l fr]/\(fr.length:Int)<=(s+2)*(s+2):=by
   refine cR (R:=fun rs=>∃fr,rs=[DV.l fr]/\(fr.length:Int)<=(s+2)*(s+2)) S4 ?_ g3;have a0:e2 16 = .i p:=v2 0 (by simp);have a1:e2 17 = .i q:=v2 1 (by simp);have a2:e2 18 = .i r:=v2 2 (by simp);have a3:e2 19 = .i t:=v2 3 (by simp);obtain⟨e4,KC⟩:∃e4,e4=bB.ay 0 ([DE.i (.v 16),.i (.v 17),.i (.v 18),.i (.v 19),.rows [(.v 0),(.v 1),(.v 2),(.v 3),(.v 4),(.v 5),(.v 6)],.rows [(.mul (.v 7) (.c 128))]].map (DE.ae e2)):=⟨_,rfl⟩;have z0:e4 0 = .i p:=by rw[KC];show DV.i (e2 16).int=_;rw[a0];rfl
   have z1:e4 1 = .i q:=by rw[KC];show DV.i (e2 17).int=_;rw[a1];rfl
   have z2:e4 2 = .i r:=by rw[KC];show DV.i (e2 18).int=_;rw[a2];rfl
   have z3:e4 3 = .i t:=by rw[KC];show DV.i (e2 19).int=_;rw[a3];rfl
   have z4:∃l4:List (List Int),e4 4 = .l l4/\(l4.getD 0 []).getD 0 0=X/\(l4.getD 1 []).getD 0 0=Y:=by
     refine⟨[[(e2 0).int],[(e2 1).int],[(e2 2).int],[(e2 3).int],[(e2 4).int],[(e2 5).int],[(e2 6).int]],by rw[KC];rfl,?_,?_⟩;show(e2 0).int=X;rw[o2 0 (by omega),w0];rfl;show(e2 1).int=Y;rw[o2 1 (by omega),w1];rfl
   have z5:e4 5 = .l [[s*128]]:=by rw[KC];show DV.l [[(e2 7).int*128]]=_;rw[o2 7 (by omega),w7];rfl
   rw[<- KC];obtain⟨l4,z4,hX,hY⟩:=z4;refine Iw (b:=7) (g:=150) (by omega) (X0:=W) (Y0:=H) (W:=s+2) (H:=s+2) (by omega) (by omega) (fun x y e' oe h0 h1 h2 h3 rs hE hc=>?_) (fun out ho=>⟨out,rfl,ho⟩);rw[z0]at h0;rw[z2]at h1;rw[z1]at h2;rw[z3]at h3;obtain⟨x4,x5⟩:=hx x h0 h1;obtain⟨y4,y5⟩:=hy y h2 h3;have hE:Gf 150 (.i x :: .i y::[DE.l 4,.l 5].map (DE.ae e')) rs:=rJ zC (UN (by simp)) hE;have hE:Gf 150 [.i x,.i y,.l l4,.l [[s*128]]] rs:=by
     have: [DE.l 4,.l 5].map (DE.ae e')=[.l l4,.l [[s*128]]]:=by
       show [DV.l (e' 4).list,DV.l (e' 5).list]=_;rw[oe 4 (by omega),oe 5 (by omega),z4,z5];rfl
     rw[<- this];exact hE
   have none:((∀i,0<=i->i<8->s*128*(s*128)<=(x*256+i*32+16-X)*(x*256+i*32+16-X))\/∀i,0<=i->i<8->s*128*(s*128)<=(y*256+i*32+16-Y)*(y*256+i*32+16-Y))->False:=fun h=>by
     have:∃z,rs=[z,DV.i y]++rs.drop 2/\rs.getD 7 (.i 0) = .i 0/\rs.length=8:=by
       refine cR (R:=fun rs=>∃z,rs=[z,DV.i y]++rs.drop 2/\rs.getD 7 (.i 0) = .i 0/\rs.length=8) ag5 ?_ hE;refine aP fun _=>aP fun _=>aP fun _=>aP fun _=>aP fun _=>ej fun r5 g5=>?_;have g5:=rJ zC (UN (by simp)) g5;have g5:Gf 151 [.i ((l4.getD 0 []).getD 0 0),.i ((l4.getD 1 []).getD 0 0),.i ((l4.getD 2 []).getD 0 0),.i ((l4.getD 3 []).getD 0 0),.i ((l4.getD 4 []).getD 0 0),.i ((l4.getD 5 []).getD 0 0),.i ((l4.getD 6 []).getD 0 0),.i x,.i y,.i (s*128*(s*128))] r5:=g5;rw[hX,hY]at g5;obtain rfl:=KB h g5;exact eA ⟨_,rfl,rfl,rfl⟩
     obtain⟨z,_,h7,hl⟩:=this;have:e'.ay (7+4) rs (7+4+7)=rs.getD 7 (.i 0):=G0 (by omega);have hc:0<(e'.ay (7+4) rs (7+4+7)).int:=hc;rw[this,h7]at hc;exact absurd hc (by simp[DV.int])
   have AY:0<=s*128:=by omega
   refine⟨⟨?_,by omega⟩,?_,by omega⟩;rcases Int.lt_or_le x W with cF|hle;exact(none (.inl fun i i0 i8=>UP AY (by omega))).elim;exact hle;rcases Int.lt_or_le y H with cF|hle;exact(none (.inr fun i i0 i8=>UP AY (by omega))).elim;exact hle
 obtain⟨fr,rfl,Jz⟩:=key;exact eA ⟨fr,rfl,Jz⟩
theorem S0{X Y Z a b c d s k x0 y0 x1 y1:Int}(hs:0<=s){rs:List DV}(hg:Gf 69 [.i X,.i Y,.i Z,.i a,.i b,.i c,.i d,.i s,.i k,.i x0,.i y0,.i x1,.i y1] rs):∃fr,rs=[.l fr]/\(fr.length:Int)<=(s+2)*(s+2):=by
 refine cR (R:=fun rs=>∃fr,rs=[DV.l fr]/\(fr.length:Int)<=(s+2)*(s+2)) T69 ?_ hg;have h0:∃fr,[DV.l []]=[DV.l fr]/\((fr:List (List Int)).length:Int)<=(s+2)*(s+2):=⟨[],rfl,qR (by omega) (by omega)⟩;obtain⟨e,he⟩:∃e,e=bB.ay 0 [DV.i X,.i Y,.i Z,.i a,.i b,.i c,.i d,.i s,.i k,.i x0,.i y0,.i x1,.i y1]:=⟨_,rfl⟩;have w:∀j,j<13->e j=[DV.i X,.i Y,.i Z,.i a,.i b,.i c,.i d,.i s,.i k,.i x0,.i y0,.i x1,.i y1].getD j (.i 0):=fun j hj=>by rw[he];exact Dc hj
 rw[<- he];have ag7:(⟨69,t69,(rowOf 69).sub⟩:gb).key 103=103:=by kernel_rfl
 have ag8:(⟨69,t69,(rowOf 69).sub⟩:gb).key 105=105:=by kernel_rfl
 have k42:(⟨69,t69,(rowOf 69).sub⟩:gb).key 42=42:=by kernel_rfl
 have XC:(⟨69,t69,(rowOf 69).sub⟩:gb).key 104=104106:=by kernel_rfl
 refine ej fun r1 _=>?_;have fin:∀e2:aA,(∀j,j<13->e2 j=e j)->GZ.par (fun g=>cm (TT Tryz.prog) XF ((⟨69,t69,(rowOf 69).sub⟩:gb).key g)) (fun rs=>∃fr,rs=[DV.l fr]/\(fr.length:Int)<=(s+2)*(s+2)) [] e2 (fun _ _=>True):=fun e2 o2=>by
   have w2:∀j,j<13->e2 j=[DV.i X,.i Y,.i Z,.i a,.i b,.i c,.i d,.i s,.i k,.i x0,.i y0,.i x1,.i y1].getD j (.i 0):=fun j hj=>by rw[o2 j hj,w j hj]
   have l8:(iv 0 8).map (DE.ae e2)=[.i X,.i Y,.i Z,.i a,.i b,.i c,.i d,.i s]:=by
     show [DV.i (e2 0).int,DV.i (e2 1).int,DV.i (e2 2).int,DV.i (e2 3).int,DV.i (e2 4).int,DV.i (e2 5).int,DV.i (e2 6).int,DV.i (e2 7).int]=_;rw[w2 0 (by omega),w2 1 (by omega),w2 2 (by omega),w2 3 (by omega),w2 4 (by omega),w2 5 (by omega),w2 6 (by omega),w2 7 (by omega)];rfl
   have l4:∀e3:aA,(∀j,j<13->e3 j=e2 j)->(iv 9 4).map (DE.ae e3)=[.i x0,.i y0,.i x1,.i y1]:=fun e3 o3=>by
     show [DV.i (e3 9).int,DV.i (e3 10).int,DV.i (e3 11).int,DV.i (e3 12).int]=_;rw[o3 9 (by omega),o3 10 (by omega),o3 11 (by omega),o3 12 (by omega),w2 9 (by omega),w2 10 (by omega),w2 11 (by omega),w2 12 (by omega)];rfl
   unfold GZ;refine iB (fun _=>eA h0) (fun _=>iB (fun _=>ej fun r3 g3=>?_) (fun _=>ej fun r3 g3=>?_));rw[ag7,od,l8,l4 e2 fun _ _=>rfl]at g3;obtain⟨fr,rfl,h⟩:=S5 hs g3;exact eA ⟨fr,rfl,h⟩;rw[ag8,l8]at g3;obtain⟨bx,by',bx1,by1,rfl,hbx,Vs⟩:=ab3 hs g3;obtain⟨e3,KA,o3,v3⟩:=EW e2 1043 [.i bx,.i by',.i bx1,.i by1];rw[<- KA];refine ej fun r4 g4=>?_;have b4:(iv 1043 4).map (DE.ae e3)=[.i bx,.i by',.i bx1,.i by1]:=by
     show [DV.i (e3 (1043+0)).int,DV.i (e3 (1043+1)).int,DV.i (e3 (1043+2)).int,DV.i (e3 (1043+3)).int]=_;rw[v3 0 (by simp),v3 1 (by simp),v3 2 (by simp),v3 3 (by simp)];rfl
   rw[k42,od,b4,l4 e3 fun j hj=>o3 j (by omega)]at g4;obtain⟨p,q,r,t,rfl,hx,hy⟩:=UO g4;obtain⟨e4,KC,o4,v4⟩:=EW e3 2067 [.i p,.i q,.i r,.i t];rw[<- KC];refine ej fun r5 g5=>?_;rw[XC]at g5;have key:∃fr,r5=[DV.l fr]/\(fr.length:Int)<=(s+2)*(s+2):=by
     refine cR (R:=fun rs=>∃fr,rs=[DV.l fr]/\(fr.length:Int)<=(s+2)*(s+2)) S3 ?_ g5;obtain⟨e5,Rr⟩:∃e5,e5=bB.ay 0 ([DE.i (.v 2067),.i (.v 2068),.i (.v 2069),.i (.v 2070),.rows [(.v 0),(.v 1),(.v 2),(.v 3),(.v 4),(.v 5),(.v 6)],.rows [(.v 8)],.rows [(.v 7)]].map (DE.ae e4)):=⟨_,rfl⟩;have z0:e5 0 = .i p:=by rw[Rr];show DV.i (e4 (2067+0)).int=_;rw[v4 0 (by simp)];rfl
     have z1:e5 1 = .i q:=by rw[Rr];show DV.i (e4 (2067+1)).int=_;rw[v4 1 (by simp)];rfl
     have z2:e5 2 = .i r:=by rw[Rr];show DV.i (e4 (2067+2)).int=_;rw[v4 2 (by simp)];rfl
     have z3:e5 3 = .i t:=by rw[Rr];show DV.i (e4 (2067+3)).int=_;rw[v4 3 (by simp)];rfl
     rw[<- Rr];refine Iw (b:=8) (g:=106) (by omega) (X0:=bx) (Y0:=by') (W:=s) (H:=s) hs hs (fun x y e' oe h0 h1 h2 h3 rs hE hc=>?_) (fun out ho=>⟨out,rfl,Int.le_trans ho (xo (by omega) (by omega) hs (by omega))⟩);rw[z0]at h0;rw[z2]at h1;rw[z1]at h2;rw[z3]at h3;have a1:=hx x h0 h1;have a2:=hy y h2 h3;exact⟨⟨a1.1,by omega⟩,a2.1,by omega⟩
   obtain⟨fr,rfl,Jz⟩:=key;exact eA ⟨fr,rfl,Jz⟩
 exact xH (fun _ r2 _=>fin _ fun j hj=>by rw[aA.bn (by omega),aA.bn (by omega)]) (fun _=>fin _ fun j hj=>by rw[aA.bn (by omega),aA.bn (by omega)])
end
end Go.Proofs.YtohebioanhliiaaGreatDoor.aw

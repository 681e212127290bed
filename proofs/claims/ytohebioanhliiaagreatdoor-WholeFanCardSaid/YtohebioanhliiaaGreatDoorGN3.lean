/- The triangle and the fan are drawn as one image. -/
import Derived.Test.YtohebioanhliiaaGreatDoorGN2
import Derived.Test.YtohebioanhliiaaGreatDoorGY3
set_option maxRecDepth 100000
set_option linter.unusedVariables false
set_option linter.unusedSimpArgs false
namespace Go.Proofs.YtohebioanhliiaaGreatDoor.av
section
open Go.Sx Go
variable{C:List (List Int)}{H:Int}{U:Nat->Int}{W:Int}{Z:List (List Int)}{c o:Nat}{τ:Nat->List (List Int)}
def t15:au:=
.loop 15003 [.nil,.i (.c 0)] [.s 3 [i6],.c i6] 95 (
.ite (.lt (.v 96) (.len 3)) (
.ev (.aL (.le (.c 0) (.v 96))) (
.ev (.call 25 (.c true) [.i (.get 3 (.v 96) 0)] [.agg [.c i6,.c i6,.c i6,.c i6]] 97) (
.ev (.cH 101 (.lit [[.inl (.v 97)]])) (
.ev (.aL (.le (.add (.len 95) (.len 101)) (.c 17592186044416))) (
.ev (.cH 102 (.app 95 101)) (
.ev (.aL (r6 (.add (.v 96) (.c 1)))) (
.again 15003 [.l 102,.i (.add (.v 96) (.c 1))]))))))) (
.ret [.l 95]))
theorem T15:TT PP 15=some ⟨15,t15,(rowOf 15).sub⟩:=by kernel_rfl
theorem aeM:([25].all fun g=>Nat.beq ((⟨15,.stuck "",(rowOf 15).sub⟩:ir).key g) g)=true:=by kernel_rfl
theorem ajE:Gf 25 [.i 0] [.i 0,.i 0,.i 0,.i 0]:=uC (by kernel_rfl)
theorem ajF:Gf 25 [.i 16843009] [.i 1,.i 1,.i 1,.i 1]:=uC (by kernel_rfl)
def qo(U:Nat->Int)(n:Nat):List (List Int):=(List.range n).map fun k=>[16843009*U k]
def lH(U:Nat->Int)(n:Nat):List (List Int):=(List.range n).map fun k=>[U k]
theorem R6{n:Nat}:lH U (n+1)=lH U n++[[U n]]:=by
 unfold lH;rw[List.range_succ,n8];rfl
theorem R7(hU:∀k,k<72->U k=0\/U k=1){ds:List DV}{a:aH}(ha:bj.aB 0 ds=a)(h3:a 3 = .l (qo U 72)):Gf 15 ds [.l (lH U 72)]:=by
 obtain⟨rs,h,rfl⟩:=ov (X:=XF) (ds:=ds) (R:=fun rs=>rs=[DV.l (lH U 72)]) T15 (by
   rw[ha];refine mN (fun vs=>∃i:Nat,vs=[.l (lH U i),.i i]/\i<=72) (fun vs=>match vs with
     |_ :: .i i::_=>72-i.toNat
     |_=>0) ⟨0,rfl,by omega⟩ ?_
   rintro _ ⟨i,rfl,hi⟩;obtain⟨e1,xf,o1,w1⟩:=oY a 95 [.l (lH U i),.i i];rw[<- xf];have v95:e1 95 = .l (lH U i):=w1 0 (by simp);have v96:e1 96 = .i i:=w1 1 (by simp);have v3:e1 3 = .l (qo U 72):=by rw[o1 3 (by omega)];exact h3
   have Xn:(qo U 72).length=72:=by simp[qo]
   refine ix (fun cu=>?_) (fun ng=>?_);have cu:(e1 96).int<((e1 3).list.length:Int):=cu;rw[v96,v3]at cu;have cu:(i:Int)<((qo U 72).length:Int):=cu;rw[Xn]at cu;have H3:i<72:=by omega
   refine l9 (by show(0:Int)<=(e1 96).int;rw[v96];show(0:Int)<=(i:Int);omega) ?_;refine lx (ds:=[.i (16843009*U i)]) [.i (U i),.i (U i),.i (U i),.i (U i)] rfl ?_ ?_ ?_;show [DV.i (cellAt (e1 3).list (e1 96).int 0)]=_;rw[v3,v96];show [DV.i (cellAt (qo U 72) (i:Int) 0)]=_;unfold cellAt qo;rw[xm,cT (l:=(List.range 72).map fun k=>[16843009*U k]),gL,List.getElem?_range H3];rfl;show eR (TT PP) XF ((⟨15,.stuck "",(rowOf 15).sub⟩:ir).key 25) _ _;rw[mq (kG.1 aeM 25 (by simp))];rcases hU i H3 with h|h;rw[h];exact ajE;rw[h];exact ajF;obtain⟨e2,I2,o2,w2⟩:=oY e1 97 [.i (U i),.i (U i),.i (U i),.i (U i)];rw[<- I2];refine gU (M:=[[U i]]) ?_ ?_;show [[(e2 97).int]]=_;rw[show e2 97 = .i (U i)from w2 0 (by simp)];rfl;obtain⟨e3,I5,o3,w3⟩:=Ip e2 101 (.l [[U i]]);rw[<- I5];have x95:e3 95 = .l (lH U i):=by rw[o3 95 (by omega),o2 95 (by omega)];exact v95
   have x96:e3 96 = .i i:=by rw[o3 96 (by omega),o2 96 (by omega)];exact v96
   have hlr:(lH U i).length=i:=by simp[lH]
   refine l9 (by
     show((e3 95).list.length:Int)+((e3 101).list.length:Int)<=17592186044416;rw[x95,w3];show((lH U i).length:Int)+1<=17592186044416;rw[hlr];omega) ?_
   refine gU (M:=lH U (i+1)) ?_ ?_;show(e3 95).list++(e3 101).list=_;rw[x95,w3,R6];rfl;obtain⟨e4,RN,o4,w4⟩:=Ip e3 102 (.l (lH U (i+1)));rw[<- RN];have y96:e4 96 = .i i:=by rw[o4 96 (by omega)];exact x96
   refine oN (by show _<=(e4 96).int+1/\(e4 96).int+1<=_;rw[y96];show _<=(i:Int)+1/\(i:Int)+1<=_;omega) (ld ?_);have hv: [DE.l 102,DE.i (.add (.v 96) (.c 1))].map (DE.af e4)=[.l (lH U (i+1)),.i ((i+1:Nat):Int)]:=by
     show [DV.l (e4 102).list,.i ((e4 96).int+1)]=_;rw[w4,y96];show [DV.l (lH U (i+1)),.i ((i:Int)+1)]=_;rw[show((i+1:Nat):Int)=(i:Int)+1 by omega]
   rw[hv];refine⟨⟨i+1,rfl,by omega⟩,?_⟩;show 72-(((i+1:Nat):Int)).toNat<72-((i:Int)).toNat;omega;have ng:((e1 3).list.length:Int)<=(e1 96).int:=ng;rw[v96,v3]at ng;have ng:((qo U 72).length:Int)<=(i:Int):=ng;rw[Xn]at ng;have:i=72:=by omega
   subst this;refine BV ?_;show [DV.l (e1 95).list]=_;rw[v95];rfl)
 exact h
def f11:au:=
.ev (.aL (r6 (.sub (.v 7) (.v 0)))) (
.ev (.aL (r6 (.sub (.v 15) (.v 1)))) (
.ev (.aL (r6 (.mul (.sub (.v 7) (.v 0)) (.sub (.v 15) (.v 1))))) (
.ev (.aL (r6 (.sub (.v 8) (.v 1)))) (
.ev (.aL (r6 (.sub (.v 14) (.v 0)))) (
.ev (.aL (r6 (.mul (.sub (.v 8) (.v 1)) (.sub (.v 14) (.v 0))))) (
.ev (.aL (r6 (.sub (.mul (.sub (.v 7) (.v 0)) (.sub (.v 15) (.v 1))) (.mul (.sub (.v 8) (.v 1)) (.sub (.v 14) (.v 0)))))) (
.ret [.i (.sub (.mul (.sub (.v 7) (.v 0)) (.sub (.v 15) (.v 1))) (.mul (.sub (.v 8) (.v 1)) (.sub (.v 14) (.v 0))))])))))))
theorem F11:TT PP 11=some ⟨11,f11,(rowOf 11).sub⟩:=by kernel_rfl
theorem R8{α:Type} [BEq α] [LawfulBEq α]:∀ {l m:List α},(∀p,l.count p<=m.count p)->l.length<=m.length
 | [],m,_=>Nat.zero_le _
 | a::l,m,h=>by
   have ha:=h a;rw[List.count_cons_self]at ha;have hm:a∈m:=List.count_pos_iff.1 (by omega);have:=R8 (l:=l) (m:=m.erase a) fun p=>by
     have hp:=h p;rw[List.count_erase];rw[List.count_cons]at hp;have e:(a==p)=(a==p):=rfl;split at hp<;>rename_i c<;>simp_all<;>omega
   rw[List.length_erase_of_mem hm]at this;have:=List.length_pos_of_mem hm;rw[qe];omega
def f16:au:=.ev (.call 26 (.c true) [.i (.v 0),.i (.v 1),.l 2,.l 3,.i (.v 4),.i (.v 5),.l 6,.l 7] [oB] 10) (.ret [.b (.v 10)])
theorem F16:TT PP 16=some ⟨16,f16,(rowOf 16).sub⟩:=by kernel_rfl
theorem aeN:([26].all fun g=>Nat.beq ((⟨16,.stuck "",(rowOf 16).sub⟩:ir).key g) g)=true:=by kernel_rfl
def f26:au:=.ite (.or (.or (.or (.not (.eq (.v 0) (.v 4))) (.not (.eq (.v 1) (.v 5)))) (.not (.eq (.len 2) (.len 6)))) (.not (.eq (.len 3) (.len 7)))) (.ret [.b (.c false)]) (
.loop 26004 [.b (.c false),.i (.c 0)] [.c (.b),.c i6] 10 (.ite (.lt (.v 11) (.len 2)) (.ev (.aL (.le (.c 0) (.v 11))) (.ev (.aL (.lt (.v 11) (.len 6))) (.ite (.not (.eq (.get 2 (.v 11) 0) (.get 6 (.v 11) 0))) (.ret [.b (.c false)]) (.ev (.aL (r6 (.add (.v 11) (.c 1)))) (.again 26004 [.b (.v 10),.i (.add (.v 11) (.c 1))]))))) (
.loop 26009 [.b (.v 10),.i (.c 0)] [.c (.b),.c i6] 12 (.ite (.lt (.v 13) (.len 3)) (.ev (.aL (.le (.c 0) (.v 13))) (.ev (.aL (.lt (.v 13) (.len 7))) (.ite (.not (.eq (.get 3 (.v 13) 0) (.get 7 (.v 13) 0))) (.ret [.b (.c false)]) (.ev (.aL (r6 (.add (.v 13) (.c 1)))) (.again 26009 [.b (.v 12),.i (.add (.v 13) (.c 1))]))))) (.ret [.b (.c true)])))))
theorem F26:TT PP 26=some ⟨26,f26,(rowOf 26).sub⟩:=by kernel_rfl
theorem R9(hC:C.length<=1000)(hZ:Z.length<=1000):Gf 26 [.i W,.i H,.l C,.l Z,.i W,.i H,.l C,.l Z] [.b true]:=by
 obtain⟨rs,h,rfl⟩:=ov (X:=XF) (ds:=[.i W,.i H,.l C,.l Z,.i W,.i H,.l C,.l Z]) (R:=fun rs=>rs=[DV.b true]) F26 (by
   obtain⟨e,he⟩:∃e,e=bj.aB 0 [.i W,.i H,.l C,.l Z,.i W,.i H,.l C,.l Z]:=⟨_,rfl⟩;have v2:e 2 = .l C:=by rw[he];rfl
   have v6:e 6 = .l C:=by rw[he];rfl
   have v3:e 3 = .l Z:=by rw[he];rfl
   have v7:e 7 = .l Z:=by rw[he];rfl
   have v0:e 0 = .i W:=by rw[he];rfl
   have v4:e 4 = .i W:=by rw[he];rfl
   have v1:e 1 = .i H:=by rw[he];rfl
   have v5:e 5 = .i H:=by rw[he];rfl
   rw[<- he];refine jR (fun hf=>?_) (fun _=>?_);exfalso;have hf:(((!decide ((e 0).int=(e 4).int) || !decide ((e 1).int=(e 5).int)) || !decide (((e 2).list.length:Int)=((e 6).list.length:Int))) || !decide (((e 3).list.length:Int)=((e 7).list.length:Int)))=true:=hf;rw[v0,v4,v1,v5,v2,v6,v3,v7]at hf;simp at hf;refine mN (fun vs=>∃(b:Bool) (i:Nat),vs=[.b b,.i i]/\i<=C.length) (fun vs=>match vs with
     |_ :: .i i::_=>C.length-i.toNat
     |_=>0) ⟨false,0,rfl,Nat.zero_le _⟩ ?_
   rintro _ ⟨b,i,rfl,hi⟩;obtain⟨e1,xf,o1,w1⟩:=oY e 10 [.b b,.i i];rw[<- xf];have Zg:e1 11 = .i i:=w1 1 (by simp);refine ix (fun cu=>?_) (fun _=>?_);have cu:(e1 11).int<((e1 2).list.length:Int):=cu;rw[Zg,o1 2 (by omega),v2]at cu;have cu:(i:Int)<(C.length:Int):=cu;refine l9 (by show(0:Int)<=(e1 11).int;rw[Zg];show(0:Int)<=(i:Int);omega) (Gm (by show(e1 11).int<((e1 6).list.length:Int);rw[Zg,o1 6 (by omega),v6];exact cu) ?_);refine jR (fun hf=>?_) (fun _=>?_);exfalso;have hf:(!decide (cellAt (e1 2).list (e1 11).int 0=cellAt (e1 6).list (e1 11).int 0))=true:=hf;rw[o1 2 (by omega),o1 6 (by omega),v2,v6]at hf;simp at hf;refine oN (by show _<=(e1 11).int+1/\(e1 11).int+1<=_;rw[Zg];show _<=(i:Int)+1/\(i:Int)+1<=_;omega) (ld ⟨⟨(e1 10).bool,i+1,?_,by omega⟩,?_⟩);show [DV.b (e1 10).bool,.i ((e1 11).int+1)]=_;rw[Zg];rfl;show C.length-((e1 11).int+1).toNat<C.length-((i:Int)).toNat;rw[Zg];show C.length-((i:Int)+1).toNat<C.length-((i:Int)).toNat;omega;refine mN (fun vs=>∃(b:Bool) (i:Nat),vs=[.b b,.i i]/\i<=Z.length) (fun vs=>match vs with
     |_ :: .i i::_=>Z.length-i.toNat
     |_=>0) ⟨(e1 10).bool,0,rfl,Nat.zero_le _⟩ ?_
   rintro _ ⟨b2,j,rfl,hj⟩;obtain⟨e2,I2,o2,w2⟩:=oY e1 12 [.b b2,.i j];rw[<- I2];have x13:e2 13 = .i j:=w2 1 (by simp);refine ix (fun cu=>?_) (fun _=>BV rfl);have cu:(e2 13).int<((e2 3).list.length:Int):=cu;rw[x13,o2 3 (by omega),o1 3 (by omega),v3]at cu;have cu:(j:Int)<(Z.length:Int):=cu;refine l9 (by show(0:Int)<=(e2 13).int;rw[x13];show(0:Int)<=(j:Int);omega) (Gm (by show(e2 13).int<((e2 7).list.length:Int);rw[x13,o2 7 (by omega),o1 7 (by omega),v7];exact cu) ?_);refine jR (fun hf=>?_) (fun _=>?_);exfalso;have hf:(!decide (cellAt (e2 3).list (e2 13).int 0=cellAt (e2 7).list (e2 13).int 0))=true:=hf;rw[o2 3 (by omega),o2 7 (by omega),o1 3 (by omega),o1 7 (by omega),v3,v7]at hf;simp at hf;refine oN (by show _<=(e2 13).int+1/\(e2 13).int+1<=_;rw[x13];show _<=(j:Int)+1/\(j:Int)+1<=_;omega) (ld ⟨⟨(e2 12).bool,j+1,?_,by omega⟩,?_⟩);show [DV.b (e2 12).bool,.i ((e2 13).int+1)]=_;rw[x13];rfl;show Z.length-((e2 13).int+1).toNat<Z.length-((j:Int)).toNat;rw[x13];show Z.length-((j:Int)+1).toNat<Z.length-((j:Int)).toNat;omega)
 exact h
theorem OO(hC:C.length<=1000)(hZ:Z.length<=1000):Gf 16 [.i W,.i H,.l C,.l Z,.i W,.i H,.l C,.l Z] [.b true]:=by
 obtain⟨rs,h,rfl⟩:=ov (X:=XF) (ds:=[.i W,.i H,.l C,.l Z,.i W,.i H,.l C,.l Z]) (R:=fun rs=>rs=[DV.b true]) F16 (by
   refine lx (ds:=[.i W,.i H,.l C,.l Z,.i W,.i H,.l C,.l Z]) [.b true] rfl rfl ?_ (BV rfl);show eR (TT PP) XF ((⟨16,.stuck "",(rowOf 16).sub⟩:ir).key 26) _ _;rw[mq (kG.1 aeN 26 (by simp))];exact R9 hC hZ)
 exact h
theorem Ml{m:Int}{r:List Int}:∀ {k:Nat} {σ:List Int},kg (List.replicate k 0++m::r) σ=m*σ.getD k 0+kg r (σ.drop (k+1))
 |0,[]=>by simp only[List.replicate,nc,kg,List.getD,List.getElem?_nil,Option.getD_none,Int.mul_zero,List.drop_nil];cases r<;>rfl
 |0,x::xs=>rfl
 | k+1,[]=>by
   simp only[List.replicate,ta,kg,List.getD,List.getElem?_nil,Option.getD_none,Int.mul_zero,List.drop_nil];cases r<;>rfl
 | k+1,x::xs=>by
   show 0*x+kg (List.replicate k 0++m::r) xs=_;rw[Ml,Int.zero_mul,Int.zero_add];rfl
theorem bI{σ:List Int}{k:Nat}:(un k 0 1).af σ=σ.getD k 0:=by
 show 0+kg (List.replicate k 0++[1]) σ=_;rw[Ml,sB];omega
def iy(x:Int):Prop:=-1048576<=x/\x<=1048576
def uF(P:List Int)(τ:Nat->List (List Int)):List Int:=P++[((τ 0).length:Int),(τ 1).length,(τ 2).length,(τ 3).length,(τ 4).length]
abbrev vz(P:List Int)(τ:Nat->List (List Int)):xg:=⟨uF P τ,τ⟩
section
variable {x1 y1 x2 y2 x3 y3 x4 y4:Int}{τ:Nat->List (List Int)}
abbrev EC(x1 y1 x2 y2 x3 y3 x4 y4:Int):List Int:=[x1,y1,x2,y2,x3,y3,x4,y4]
theorem okE(a1:iy x1)(b1:iy y1)(a2:iy x2)(b2:iy y2)(a3:iy x3)(b3:iy y3)(a4:iy x4)(b4:iy y4)(hl:∀j,j<5->(τ j).length<=72)(h1:τ 1++τ 2=τ 0)(h2:τ 0++τ 3=τ 4):xg.Ok Iw (vz (EC x1 y1 x2 y2 x3 y3 x4 y4) τ):=by
 have l0:=hl 0 (by omega);have l1:=hl 1 (by omega);have l2:=hl 2 (by omega);have l3:=hl 3 (by omega);have l4:=hl 4 (by omega)
 refine⟨⟨⟨a1,b1,a2,b2,a3,b3,a4,b4,⟨by omega,by omega⟩,⟨by omega,by omega⟩,⟨by omega,by omega⟩,⟨by omega,by omega⟩,⟨by omega,by omega⟩,trivial⟩,fun x hx=>by cases hx⟩,fun j m hj=>?_,fun x hx=>?_⟩
 match j,hj with
 |0,hj=>cases hj;rw[bI];rfl
 |1,hj=>cases hj;rw[bI];rfl
 |2,hj=>cases hj;rw[bI];rfl
 |3,hj=>cases hj;rw[bI];rfl
 |4,hj=>cases hj;rw[bI];rfl
 |j+5,hj=>cases hj
 have hx:x=(1,2,0)\/x=(0,3,4):=by simpa[Iw]using hx
 rcases hx with rfl|rfl;exact h1;exact h2
end
def Zh(ax ay bx bZ cx cy:Int):List DV:=[.l [[ax,ay,8388607,1,1,1,1],[bx,bZ,8388607,1,1,1,1],[cx,cy,8388607,1,1,1,1]],.l [[1],[1],[1]],.i 1,.b false,.b false,.i 65535,.i 1,.i 0,.i 1,.i 0,.i 0,.i 0,.b true,.i 0,.b false,.i 0,.i 0,.i 0,.i 0,.i 9,.i 8]
theorem uG{P:List Int}{a b:Nat}:ez (vz P τ) (oP a b c o).2.1=Zh ((uF P τ).getD (2*a) 0) ((uF P τ).getD (2*a+1) 0) ((uF P τ).getD (2*b) 0) ((uF P τ).getD (2*b+1) 0) ((uF P τ).getD (2*c) 0) ((uF P τ).getD (2*c+1) 0):=by
 show [DV.l [[(un (2*a) 0 1).af _,(un (2*a+1) 0 1).af _,8388607,1,1,1,1],[(un (2*b) 0 1).af _,(un (2*b+1) 0 1).af _,8388607,1,1,1,1],[(un (2*c) 0 1).af _,(un (2*c+1) 0 1).af _,8388607,1,1,1,1]],_,_,_,_,_,_,_,_,_,_,_,_,_,_,_,_,_,_,_,_]=_;rw[bI,bI,bI,bI,bI,bI];rfl
theorem Xo{P:List Int}{a b:Nat}:ez (vz P τ) (R5 a b c o).2.1=Ku ((uF P τ).getD (2*a) 0) ((uF P τ).getD (2*a+1) 0) ((uF P τ).getD (2*b) 0) ((uF P τ).getD (2*b+1) 0) ((uF P τ).getD (2*c) 0) ((uF P τ).getD (2*c+1) 0):=by
 show [DV.i ((un (2*a) 0 1).af _),.i ((un (2*a+1) 0 1).af _),_,_,_,_,_,.i ((un (2*b) 0 1).af _),.i ((un (2*b+1) 0 1).af _),_,_,_,_,_,.i ((un (2*c) 0 1).af _),.i ((un (2*c+1) 0 1).af _),_,_,_,_,_,_,_,_,_,_]=_;rw[bI,bI,bI,bI,bI,bI];rfl
def abB:List (Int×Int):=(List.range 72).map fun k:Nat=>(((k%9:Nat):Int),((k/9:Nat):Int))
theorem Xp{x y:Int}(hx:0<=x/\x<9)(hy:0<=y/\y<8):(x,y)∈abB:=jO.2 ⟨(y*9+x).toNat,wq.2 (by omega),by
 have e1:(((y*9+x).toNat%9:Nat):Int)=x:=by omega
 have e2:(((y*9+x).toNat/9:Nat):Int)=y:=by omega
 rw[e1,e2]⟩
theorem Sa{out:List (List Int)}(ho:∀r∈out,DG r)(hc:∀p,(posOf out).count p<=1):out.length<=72:=by
 have:=R8 (l:=posOf out) (m:=abB) fun p=>by
   by_cases h:p∈posOf out;have h1:=hc p;obtain⟨r,hr,rfl⟩:=jO.1 h;obtain⟨x,y,z,rfl,bx,Pq,_⟩:=ho r hr;have h2:=List.count_pos_iff.2 (Xp bx Pq);exact kI h1 h2;rw[List.count_eq_zero.2 h];omega
 simpa[posOf,abB]using this
theorem AR{ax ay bx bZ cx cy:Int}(a1:iy ax)(b1:iy ay)(a2:iy bx)(b2:iy bZ)(a3:iy cx)(b3:iy cy):∃out,Gf 74 (Zh ax ay bx bZ cx cy) [.l out]/\(∀r∈out,DG r)/\out.length<=72/\∀x y,((posOf out).count (x,y)=1/\mV ax ay bx bZ cx cy x y)\/((posOf out).count (x,y)=0/\¬ mV ax ay bx bZ cx cy x y):=by
 obtain⟨x1,x2⟩:=a1;obtain⟨x3,x4⟩:=b1;obtain⟨x5,x6⟩:=a2;obtain⟨x7,x8⟩:=b2;obtain⟨x9,x10⟩:=a3;obtain⟨Zg,x12⟩:=b3;obtain⟨rs,g,_⟩:=AS 177 (by decide) (Ku ax ay bx bZ cx cy) ⟨by
   rw[show(kc 177).args=[.i (-268435456) 268435456,.i (-268435456) 268435456,.i 0 16777215,.i 0 255,.i 0 255,.i 0 255,.i 0 255,.i (-268435456) 268435456,.i (-268435456) 268435456,.i 0 16777215,.i 0 255,.i 0 255,.i 0 255,.i 0 255,.i (-268435456) 268435456,.i (-268435456) 268435456,.i 0 16777215,.i 0 255,.i 0 255,.i 0 255,.i 0 255,.i (-9223372036854775808) 9223372036854775807,.i 0 100,.i 0 100,.i 0 100,.i 0 100]by kernel_rfl];refine⟨⟨by omega,by omega⟩,⟨by omega,by omega⟩,⟨by omega,by omega⟩,⟨by omega,by omega⟩,⟨by omega,by omega⟩,⟨by omega,by omega⟩,⟨by omega,by omega⟩,⟨by omega,by omega⟩,⟨by omega,by omega⟩,⟨by omega,by omega⟩,⟨by omega,by omega⟩,⟨by omega,by omega⟩,⟨by omega,by omega⟩,⟨by omega,by omega⟩,⟨by omega,by omega⟩,⟨by omega,by omega⟩,⟨by omega,by omega⟩,⟨by omega,by omega⟩,⟨by omega,by omega⟩,⟨by omega,by omega⟩,⟨by omega,by omega⟩,⟨by omega,by omega⟩,⟨by omega,by omega⟩,⟨by omega,by omega⟩,⟨by omega,by omega⟩,⟨by omega,by omega⟩,trivial⟩,by rw[show(kc 177).pre=[]by kernel_rfl];intro p hp;cases hp⟩
 obtain⟨out,rfl,ho,Is⟩:=aes g;have hc:∀p,(posOf out).count p<=1:=fun p=>by
   obtain⟨x,y⟩:=p;rcases Is x y with h|h<;>omega
 have h72:=Sa ho hc;refine⟨out,?_,ho,h72,Is⟩;have hV:=okE (τ:=fun j=>match j with
   |0=>out
   |1=>out
   |4=>out
   | _=>[]) ⟨x1,x2⟩ ⟨x3,x4⟩ ⟨x5,x6⟩ ⟨x7,x8⟩ ⟨x9,x10⟩ ⟨Zg,x12⟩ (x4:=0) (y4:=0) (by unfold iy;omega) (by unfold iy;omega) (fun j hj=>by
     match j,hj with
     |0,_=>exact h72
     |1,_=>exact h72
     |2,_=>exact Nat.zero_le _
     |3,_=>exact Nat.zero_le _
     |4,_=>exact h72) (qH _) (qH _)
 obtain⟨c,aeO⟩:∃c,Gf 121 [.l [[ax,ay,8388607,1,1,1,1],[bx,bZ,8388607,1,1,1,1],[cx,cy,8388607,1,1,1,1]],.b true] [.b c]:=by
   obtain⟨rs,g,hq⟩:=AS 121 (by decide) [.l [[ax,ay,8388607,1,1,1,1],[bx,bZ,8388607,1,1,1,1],[cx,cy,8388607,1,1,1,1]],.b true] ⟨by
     rw[show(kc 121).args=[.l 0 (some 131072) [(-268435456,268435456),(-268435456,268435456),(0,16777215),(0,255),(0,255),(0,255),(0,255)],.b]by kernel_rfl];refine⟨⟨by show(0:Int)<=3;omega,fun y hy=>by cases hy;show(3:Int)<=131072;omega,fun r hr=>?_⟩,trivial,trivial⟩;have one:(0:Int)<=1/\(1:Int)<=255:=by omega
     have hr:r=[ax,ay,8388607,1,1,1,1]\/r=[bx,bZ,8388607,1,1,1,1]\/r=[cx,cy,8388607,1,1,1,1]:=by simpa using hr
     rcases hr with rfl|rfl|rfl;exact⟨⟨show -268435456<=ax by omega,show ax<=268435456 by omega⟩,⟨show -268435456<=ay by omega,show ay<=268435456 by omega⟩,⟨show(0:Int)<=8388607 by omega,show(8388607:Int)<=16777215 by omega⟩,one,one,one,one,trivial⟩;exact⟨⟨show -268435456<=bx by omega,show bx<=268435456 by omega⟩,⟨show -268435456<=bZ by omega,show bZ<=268435456 by omega⟩,⟨show(0:Int)<=8388607 by omega,show(8388607:Int)<=16777215 by omega⟩,one,one,one,one,trivial⟩;exact⟨⟨show -268435456<=cx by omega,show cx<=268435456 by omega⟩,⟨show -268435456<=cy by omega,show cy<=268435456 by omega⟩,⟨show(0:Int)<=8388607 by omega,show(8388607:Int)<=16777215 by omega⟩,one,one,one,one,trivial⟩,by rw[show(kc 121).pre=[]by kernel_rfl];intro p hp;cases hp⟩
   have hq:=hq.1;rw[show(kc 121).res=[.b]by kernel_rfl]at hq
   match rs,hq with
   | [.b c],_=>exact⟨c,g⟩
 have aaH:=Xo (P:=EC ax ay bx bZ cx cy 0 0) (τ:=fun j=>match j with
   |0=>out
   |1=>out
   |4=>out
   |_=>[]) (a:=0) (b:=1) (c:=2) (o:=0)
 have e74:=uG (P:=EC ax ay bx bZ cx cy 0 0) (τ:=fun j=>match j with
   |0=>out
   |1=>out
   |4=>out
   |_=>[]) (a:=0) (b:=1) (c:=2) (o:=0)
 have aeP:Gf 177 (ez (vz (EC ax ay bx bZ cx cy 0 0) (fun j=>match j with
   |0=>out
   |1=>out
   |4=>out
   |_=>[])) (R5 0 1 2 0).2.1) [.l out]:=by rw[aaH];exact g
 have aaG:ez (vz (EC ax ay bx bZ cx cy 0 0) (fun j=>match j with
   |0=>out
   |1=>out
   |4=>out
   |_=>[])) (frR c).2.1=[.l [[ax,ay,8388607,1,1,1,1],[bx,bZ,8388607,1,1,1,1],[cx,cy,8388607,1,1,1,1]],.b true]:=by
   show [DV.l [[(un 0 0 1).af _,(un 1 0 1).af _,_,_,_,_,_],[(un 2 0 1).af _,(un 3 0 1).af _,_,_,_,_,_],[(un 4 0 1).af _,(un 5 0 1).af _,_,_,_,_,_]],_]=_;rw[bI,bI,bI,bI,bI,bI];rfl
 have mE:Gf 121 (ez (vz (EC ax ay bx bZ cx cy 0 0) (fun j=>match j with
   |0=>out
   |1=>out
   |4=>out
   |_=>[])) (frR c).2.1) [.b c]:=by rw[aaG];exact aeO
 have:Gf 74 (ez (vz (EC ax ay bx bZ cx cy 0 0) (fun j=>match j with
   |0=>out
   |1=>out
   |4=>out
   |_=>[])) (oP 0 1 2 0).2.1) [.l out]:=by
   cases c;exact fV hV (tb:=[R5 0 1 2 0,frR false]) (Y:=XF) ⟨aeP,mE,trivial⟩ fcF;exact fV hV (tb:=[R5 0 1 2 0,frR true]) (Y:=XF) ⟨aeP,mE,trivial⟩ fcT
 rw[e74]at this;exact this
end
section
open Go.Sx Go
variable{V:xg}
def nF(b:Bool):Nat:=match b with
 |true=>5
 |false=>3
def seF(b:Bool):SE:=SE.aB [] 0 (oZ b (nF b)++H8 18 [])
theorem Xs{b:Bool}:SE.af V (seF b)=bj.aB 0 (ez V (oZ b (nF b)++H8 18 [])):=SE.rf
theorem aeR(b:Bool):rh (DE.sy Iw (seF b)) (uB 0)=some (oZ b (nF b)):=by
 cases b;kernel_rfl;kernel_rfl
theorem H4(b:Bool):rh (DE.sy Iw (seF b)) Cl=some (uD.drop 5):=by
 cases b;kernel_rfl;kernel_rfl
theorem ajG(b:Bool):rh (DE.sy Iw (seF b)) RS=some [.b false,.i (.k 0),.i (.k 0),.i (.k 0),.i (.k 0),.b false,.i (.k 1),.b true,.b true,.i (.k 1),.i (.k 1),.b true,.b true,.b true,.b true]:=by
 cases b;kernel_rfl;kernel_rfl
theorem atB(b:Bool): [0,1,2,3,4,95,94,58,79,84,87].map (fun k=>(seF b).at k)=[some (.i (.k 0)),some (.i (.k 9)),some (.i (.k 8)),some (.l (List.replicate 72 [.k 0])),some (.l (List.replicate 72 [.k 16777215])),some (.l []),some (.i (.k 18)),some (.b true),some (.b false),some (.b false),some (.b true)]:=by
 cases b;kernel_rfl;kernel_rfl
theorem ajH{b:Bool}(hV:V.Ok Iw):aex (SE.af V (seF b)):=by
 have h:=atB b;simp only[kD,rM,List.cons.injEq,and_true]at h;obtain⟨h0,h1,h2,h3,h4,h95,h94,Zj,h79,h84,h87⟩:=h;refine⟨fun p hp=>?_,SE.gd h0,SE.gd h1,SE.gd h2,(SE.gd h3).trans rfl,(SE.gd h4).trans rfl,SE.gd h95,(iT (DE.fW hV) (ajG b)).trans rfl⟩;have hp:p=(94,.i 18)\/p=(58,.b true)\/p=(79,.b false)\/p=(84,.b false)\/p=(87,.b true):=by simpa[K24]using hp
 rcases hp with rfl|rfl|rfl|rfl|rfl;exact SE.gd h94;exact SE.gd Zj;exact SE.gd h79;exact SE.gd h84;exact SE.gd h87
theorem aeS{b:Bool}(hV:V.Ok Iw){out:List (List Int)}(ho:∀r∈out,DG r)(hc:∀p,(posOf out).count p<=1)(Gp:Gf 18 (ez V (oZ b (nF b))) [.l out,.b true]) :
   Gf 24 (ez V (oZ b (nF b)++H8 18 [])) ([.i 0,.i 9,.i 8,.l (gM out out.length),.l (fP 72 16777215)]++ez V (uD.drop 5)):=by
 have h:=abt (Xs (V:=V) (b:=b)).symm (ajH hV) ho hc (by have:=Sa ho hc;omega) (by
   rw[iT (DE.fW hV) (aeR b)];exact Gp)
 rw[iT (DE.fW hV) (H4 b)]at h;exact h
end
section
open Go.Sx Go
theorem aeT{V:xg}(hV:V.Ok Iw)(h:Gf 74 (ez V (oP 0 1 2 0).2.1) [.l (V.τ 0)]):Gf 18 (ez V (oZ false 3)) [.l (V.τ 0),.b true]:=
 fV hV (tb:=[oP 0 1 2 0]) (Y:=XF) ⟨h,trivial⟩ efF
theorem aeU{V:xg}(hV:V.Ok Iw)(h1:Gf 74 (ez V (oP 3 0 1 1).2.1) [.l (V.τ 1)])(h2:Gf 74 (ez V (oP 3 1 2 2).2.1) [.l (V.τ 2)])(h3:Gf 74 (ez V (oP 3 2 0 3).2.1) [.l (V.τ 3)]):Gf 18 (ez V (oZ true 5)) [.l (V.τ 4),.b true]:=
 fV hV (tb:=[oP 3 0 1 1,oP 3 1 2 2,oP 3 2 0 3]) (Y:=XF) ⟨h1,h2,h3,trivial⟩ efT
theorem Gu{x y:Int}(hx:iy x)(hy:iy y):re x y:=by unfold iy at hx hy;unfold re;omega
theorem Mn{a b:List (List Int)}:posOf (a++b)=posOf a++posOf b:=n8 ..
theorem Xt{ax ay bx bZ cx cy ex ey:Int}(ha:re ax ay)(hb:re bx bZ)(hc:re cx cy)(he:re ex ey)(h:(0<=Ar ax ay bx bZ ex ey/\0<=Ar bx bZ cx cy ex ey/\0<=Ar cx cy ax ay ex ey)\/(Ar ax ay bx bZ ex ey<=0/\Ar bx bZ cx cy ex ey<=0/\Ar cx cy ax ay ex ey<=0)){o0 o1 o2 o3:List (List Int)}
   (c0:∀x y,((posOf o0).count (x,y)=1/\mV ax ay bx bZ cx cy x y)\/((posOf o0).count (x,y)=0/\¬ mV ax ay bx bZ cx cy x y))
   (c1:∀x y,((posOf o1).count (x,y)=1/\mV ex ey ax ay bx bZ x y)\/((posOf o1).count (x,y)=0/\¬ mV ex ey ax ay bx bZ x y))
   (c2:∀x y,((posOf o2).count (x,y)=1/\mV ex ey bx bZ cx cy x y)\/((posOf o2).count (x,y)=0/\¬ mV ex ey bx bZ cx cy x y))
   (c3:∀x y,((posOf o3).count (x,y)=1/\mV ex ey cx cy ax ay x y)\/((posOf o3).count (x,y)=0/\¬ mV ex ey cx cy ax ay x y)) (p:Int×Int):(posOf (o1++o2++o3)).count p=(posOf o0).count p:=by
 obtain⟨x,y⟩:=p;rw[Mn,Mn,List.count_append,List.count_append];obtain⟨i,j,k,l⟩:=Xr (mx:=256*x+128) (my:=256*y+128) ha hb hc he h;have d0:=c0 x y;have d1:=c1 x y;have d2:=c2 x y;have d3:=c3 x y
 unfold mV at d0 d1 d2 d3;generalize fo ax ay bx bZ cx cy (256*x+128) (256*y+128)=p0 at *;generalize fo ex ey ax ay bx bZ (256*x+128) (256*y+128)=p1 at *;generalize fo ex ey bx bZ cx cy (256*x+128) (256*y+128)=p2 at *;generalize fo ex ey cx cy ax ay (256*x+128) (256*y+128)=p3 at *;by_cases hb:(0<=x/\x<9)/\0<=y/\y<8
 . simp only[hb,true_and,and_self]at d0 d1 d2 d3;by_cases q1:p1<;>by_cases q2:p2<;>by_cases q3:p3<;>simp_all
 have e0:(posOf o0).count (x,y)=0:=by rcases d0 with d|d;exact absurd d.2.1 hb;exact d.1
 have e1:(posOf o1).count (x,y)=0:=by rcases d1 with d|d;exact absurd d.2.1 hb;exact d.1
 have e2:(posOf o2).count (x,y)=0:=by rcases d2 with d|d;exact absurd d.2.1 hb;exact d.1
 have e3:(posOf o3).count (x,y)=0:=by rcases d3 with d|d;exact absurd d.2.1 hb;exact d.1
 omega
end
section
open Go.Sx Go
theorem Sh{o o':List (List Int)}(h:∀p,(posOf o).count p=(posOf o').count p):gM o o.length=gM o' o'.length:=by
 rw[Gl (fz _),Gl (fz _)];exact xh fun k _=>by rw[h]
theorem Xu{o:List (List Int)}(hc:∀p,(posOf o).count p<=1):∃U:Nat->Int,(∀k,k<72->U k=0\/U k=1)/\gM o o.length=qo U 72:=by
 refine⟨fun k=>(((posOf o).count (((k%9:Nat):Int),((k/9:Nat):Int)):Nat):Int),fun k _=>?_,Gl (fz _)⟩;have:=hc (((k%9:Nat):Int),((k/9:Nat):Int));show(((posOf o).count (((k%9:Nat):Int),((k/9:Nat):Int)):Nat):Int)=0\/(((posOf o).count (((k%9:Nat):Int),((k/9:Nat):Int)):Nat):Int)=1;omega
theorem Ix{a b c:Int}(ha:iy a)(hb:iy b)(hc:iy c):iy ((a+b+c).tdiv 3):=by
 unfold iy at *;obtain⟨n,hn⟩:∃n,n=a+b+c:=⟨_,rfl⟩;rw[<- hn];rcases Int.lt_or_le n 0 with h|h;have:n.tdiv 3 = -((-n).tdiv 3):=by rw[Int.neg_tdiv,Int.neg_neg]
 rw[this,As (by omega)];omega;rw[As h];omega
end
end Go.Proofs.YtohebioanhliiaaGreatDoor.av

/- Functions shown by hand: Run, opened, Prims, Right. -/
import Derived.Test.YtohebioanhliiaaGreatDoorGC1
set_option maxRecDepth 100000
set_option linter.unusedVariables false
set_option linter.unusedSimpArgs false
namespace Go.Proofs.YtohebioanhliiaaGreatDoor.av
section
open Go.Sx
variable{E:Nat->List DV->List DV->Prop}{ds:List DV}{e:aH}{j:Nat}
def t12:au:=
.ev (.call 23 (.c true) [] [.agg sO] 2) (
.loop 12003 [.i (.c 0),.i (.v 2),.i (.v 3),.i (.v 4),.l 5,.l 6,.i (.v 7),.i (.v 8),.i (.v 9),.i (.v 10),.i (.v 11),.i (.v 12),.i (.v 13),.i (.v 14),.i (.v 15),.i (.v 16),.l 17,.l 18,.i (.v 19),.i (.v 20),.i (.v 21),.i (.v 22),.i (.v 23),.i (.v 24),.i (.v 25),.i (.v 26),.i (.v 27),.i (.v 28),.i (.v 29),.i (.v 30),.i (.v 31),.i (.v 32),.i (.v 33),.i (.v 34),.i (.v 35),.i (.v 36),.i (.v 37),.i (.v 38),.i (.v 39),.i (.v 40),.i (.v 41),.i (.v 42),.i (.v 43),.i (.v 44),.i (.v 45),.i (.v 46),.i (.v 47),.i (.v 48),.b (.v 49),.b (.v 50),.b (.v 51),.b (.v 52),.b (.v 53),.b (.v 54),.i (.v 55),.i (.v 56),.i (.v 57),.i (.v 58),.b (.v 59),.b (.v 60),.i (.v 61),.l 62,.l 63,.i (.v 64),.b (.v 65),.b (.v 66),.i (.v 67),.i (.v 68),.i (.v 69),.i (.v 70),.i (.v 71),.i (.v 72),.i (.v 73),.b (.v 74),.i (.v 75),.b (.v 76),.i (.v 77),.i (.v 78),.b (.v 79),.b (.v 80),.b (.v 81),.i (.v 82),.i (.v 83),.i (.v 84),.i (.v 85),.b (.v 86),.i (.v 87),.b (.v 88),.b (.v 89),.i (.v 90),.i (.v 91),.b (.v 92),.b (.v 93),.b (.v 94),.b (.v 95)] [.c i6,.c i6,.c i6,.c i6,.s 3 [i6],.s 3 [i6],.c i6,.c i6,.c i6,.c i6,.c i6,.c i6,.c i6,.c i6,.c i6,.c i6,.s 138 [i6,i6,i6,i6,i6,i6,i6,i6,i6,i6,i6,i6,i6,i6,i6,i6],.s 138 [i6,i6,i6,i6,i6,i6,i6,i6,i6,i6,i6,i6,i6,i6,i6,i6],.c i6,.c i6,.c i6,.c i6,.c i6,.c i6,.c i6,.c i6,.c i6,.c i6,.c i6,.c i6,.c i6,.c i6,.c i6,.c i6,.c i6,.c i6,.c i6,.c i6,.c i6,.c i6,.c i6,.c i6,.c i6,.c i6,.c i6,.c i6,.c i6,.c i6,.c (.b),.c (.b),.c (.b),.c (.b),.c (.b),.c (.b),.c i6,.c i6,.c i6,.c i6,.c (.b),.c (.b),.c i6,.s 76 iw,.s 4 [.b],.c i6,.c (.b),.c (.b),.c i6,.c i6,.c i6,.c i6,.c i6,.c i6,.c i6,.c (.b),.c i6,.c (.b),.c i6,.c i6,.c (.b),.c (.b),.c (.b),.c i6,.c i6,.c i6,.c i6,.c (.b),.c i6,.c (.b),.c (.b),.c i6,.c i6,.c (.b),.c (.b),.c (.b),.c (.b)] 97 (
.ite (.lt (.v 97) (.len 0)) (
.ev (.aL (.le (.c 0) (.v 97))) (
.ev (.cH 193 (.sub 0 (.v 97) [.c i6,.s 3 i6] 1)) (
.ev (.call 24 (.c true) [.i (.v 98),.i (.v 99),.i (.v 100),.l 101,.l 102,.i (.v 103),.i (.v 104),.i (.v 105),.i (.v 106),.i (.v 107),.i (.v 108),.i (.v 109),.i (.v 110),.i (.v 111),.i (.v 112),.l 113,.l 114,.i (.v 115),.i (.v 116),.i (.v 117),.i (.v 118),.i (.v 119),.i (.v 120),.i (.v 121),.i (.v 122),.i (.v 123),.i (.v 124),.i (.v 125),.i (.v 126),.i (.v 127),.i (.v 128),.i (.v 129),.i (.v 130),.i (.v 131),.i (.v 132),.i (.v 133),.i (.v 134),.i (.v 135),.i (.v 136),.i (.v 137),.i (.v 138),.i (.v 139),.i (.v 140),.i (.v 141),.i (.v 142),.i (.v 143),.i (.v 144),.b (.v 145),.b (.v 146),.b (.v 147),.b (.v 148),.b (.v 149),.b (.v 150),.i (.v 151),.i (.v 152),.i (.v 153),.i (.v 154),.b (.v 155),.b (.v 156),.i (.v 157),.l 158,.l 159,.i (.v 160),.b (.v 161),.b (.v 162),.i (.v 163),.i (.v 164),.i (.v 165),.i (.v 166),.i (.v 167),.i (.v 168),.i (.v 169),.b (.v 170),.i (.v 171),.b (.v 172),.i (.v 173),.i (.v 174),.b (.v 175),.b (.v 176),.b (.v 177),.i (.v 178),.i (.v 179),.i (.v 180),.i (.v 181),.b (.v 182),.i (.v 183),.b (.v 184),.b (.v 185),.i (.v 186),.i (.v 187),.b (.v 188),.b (.v 189),.b (.v 190),.b (.v 191),.i (.get 0 (.v 97) 0),.l 193] [.agg sO] 195) (
.ev (.aL (r6 (.add (.v 97) (.c 1)))) (
.again 12003 [.i (.add (.v 97) (.c 1)),.i (.v 195),.i (.v 196),.i (.v 197),.l 198,.l 199,.i (.v 200),.i (.v 201),.i (.v 202),.i (.v 203),.i (.v 204),.i (.v 205),.i (.v 206),.i (.v 207),.i (.v 208),.i (.v 209),.l 210,.l 211,.i (.v 212),.i (.v 213),.i (.v 214),.i (.v 215),.i (.v 216),.i (.v 217),.i (.v 218),.i (.v 219),.i (.v 220),.i (.v 221),.i (.v 222),.i (.v 223),.i (.v 224),.i (.v 225),.i (.v 226),.i (.v 227),.i (.v 228),.i (.v 229),.i (.v 230),.i (.v 231),.i (.v 232),.i (.v 233),.i (.v 234),.i (.v 235),.i (.v 236),.i (.v 237),.i (.v 238),.i (.v 239),.i (.v 240),.i (.v 241),.b (.v 242),.b (.v 243),.b (.v 244),.b (.v 245),.b (.v 246),.b (.v 247),.i (.v 248),.i (.v 249),.i (.v 250),.i (.v 251),.b (.v 252),.b (.v 253),.i (.v 254),.l 255,.l 256,.i (.v 257),.b (.v 258),.b (.v 259),.i (.v 260),.i (.v 261),.i (.v 262),.i (.v 263),.i (.v 264),.i (.v 265),.i (.v 266),.b (.v 267),.i (.v 268),.b (.v 269),.i (.v 270),.i (.v 271),.b (.v 272),.b (.v 273),.b (.v 274),.i (.v 275),.i (.v 276),.i (.v 277),.i (.v 278),.b (.v 279),.i (.v 280),.b (.v 281),.b (.v 282),.i (.v 283),.i (.v 284),.b (.v 285),.b (.v 286),.b (.v 287),.b (.v 288)]))))) (
.ret ([.i (.v 98),.i (.v 99),.i (.v 100),.l 101,.l 102]++iv 103 10++[.l 113,.l 114]++iv 115 30++[.b (.v 145),.b (.v 146),.b (.v 147),.b (.v 148),.b (.v 149),.b (.v 150)]++iv 151 4++[.b (.v 155),.b (.v 156),.i (.v 157),.l 158,.l 159,.i (.v 160),.b (.v 161),.b (.v 162)]++iv 163 7++[.b (.v 170),.i (.v 171),.b (.v 172),.i (.v 173),.i (.v 174),.b (.v 175),.b (.v 176),.b (.v 177)]++iv 178 4++[.b (.v 182),.i (.v 183),.b (.v 184),.b (.v 185),.i (.v 186),.i (.v 187),.b (.v 188),.b (.v 189),.b (.v 190),.b (.v 191)]))))
def pA:List A:=(kc 24).res
theorem abP:pA.length=94:=by kernel_rfl
def XJ(st:List DV)(j:Nat):Int:=(st.getD j (.i 0)).int
def Ms(st:List DV)(j:Nat):List (List Int):=(st.getD j (.i 0)).list
structure sD(st:List DV):Prop where
 has:qV pA st
 c3:((Ms st 3).length:Int)=XJ st 1*XJ st 2
 c4:((Ms st 4).length:Int)=XJ st 1*XJ st 2
 c60:(Ms st 60).length=(Ms st 61).length
theorem sD.len{st:List DV}(h:sD st):st.length=94:=by rw[<- h.has.len,abP]
theorem zm{b:Nat}(h:j<ds.length):e.aB b ds (b+j)=ds.getD j (.i 0):=by
 have:=aH.ei (ae:=e) (k:=b) (ds:=ds) (i:=j) (eT h);rw[this];simp[List.getD,h]
theorem AU(h:j<ds.length):bj.aB 0 ds j=ds.getD j (.i 0):=by
 have:=zm (e:=bj) (b:=0) h;rwa[gK]at this
structure Zt(op:Int)(xs:List (List Int)):Prop where
 opR: -9223372036854775808<=op/\op<=9223372036854775807
 len:xs.length<=40
 gG:∀r∈xs,-9223372036854775808<=r.getD 0 0/\r.getD 0 0<=9223372036854775807
 sz:op=1->Sz xs->cellAt xs 0 0*cellAt xs 1 0<=100
def yd:List A->Nat->List DE->Bool
 | [],_,[]=>true
 |.i _ _::aa,b,.i (.v k)::ds=>Nat.beq k b&&yd aa (b+1) ds
 |.b::aa,b,.b (.v k)::ds=>Nat.beq k b&&yd aa (b+1) ds
 |.l _ _ _::aa,b,.l k::ds=>Nat.beq k b&&yd aa (b+1) ds
 |_,_,_=>false
theorem vi:∀ {aa:List A} {st:List DV} {XK:List DE} {b:Nat},qV aa st->(∀j,j<st.length->e (b+j)=st.getD j (.i 0))->yd aa b XK=true->XK.map (DE.af e)=st:=by
 intro aa;induction aa with
 | nil=>
   intro st XK b h1 _ h3;cases st with
   | nil=>cases XK with
     |nil=>rfl
     |cons d ds=>simp[yd]at h3
   |cons d ds=>exact h1.elim
 | cons a aa ih=>
   intro st XK b h1 h2 h3;cases st with
   |nil=>exact h1.elim
   | cons d st=>
     have hd:e b=d:=h2 0 (by simp);have tl:∀j,j<st.length->e (b+1+j)=st.getD j (.i 0):=fun j hj=>by
       have:=h2 (j+1) (by simpa using hj);rw[show b+1+j=b+(j+1)by omega,this];rfl
     obtain⟨ha,hr⟩:=h1;cases a with
     | i lo hi=>
       cases d with
       | i n=>
         match XK,h3 with
         | .i (.v k)::ds,h3=>
           simp only[yd,ao,Nat.beq_eq]at h3;obtain⟨rfl,h3⟩:=h3;rw[kD,ih hr tl h3];simp only[DE.af,IE.af,hd,di]
       |_=>exact ha.elim
     | b=>
       cases d with
       | b n=>
         match XK,h3 with
         | .b (.v k)::ds,h3=>
           simp only[yd,ao,Nat.beq_eq]at h3;obtain⟨rfl,h3⟩:=h3;rw[kD,ih hr tl h3];simp only[DE.af,BE.af,hd,db]
       |_=>exact ha.elim
     | l x y z=>
       cases d with
       | l n=>
         match XK,h3 with
         | .l k::ds,h3=>
           simp only[yd,ao,Nat.beq_eq]at h3;obtain⟨rfl,h3⟩:=h3;rw[kD,ih hr tl h3];simp only[DE.af,hd,dl]
       |_=>exact ha.elim
     |t=>simp[yd]at h3
def GG:List DE:=[.i (.v 98),.i (.v 99),.i (.v 100),.l 101,.l 102,.i (.v 103),.i (.v 104),.i (.v 105),.i (.v 106),.i (.v 107),.i (.v 108),.i (.v 109),.i (.v 110),.i (.v 111),.i (.v 112),.l 113,.l 114,.i (.v 115),.i (.v 116),.i (.v 117),.i (.v 118),.i (.v 119),.i (.v 120),.i (.v 121),.i (.v 122),.i (.v 123),.i (.v 124),.i (.v 125),.i (.v 126),.i (.v 127),.i (.v 128),.i (.v 129),.i (.v 130),.i (.v 131),.i (.v 132),.i (.v 133),.i (.v 134),.i (.v 135),.i (.v 136),.i (.v 137),.i (.v 138),.i (.v 139),.i (.v 140),.i (.v 141),.i (.v 142),.i (.v 143),.i (.v 144),.b (.v 145),.b (.v 146),.b (.v 147),.b (.v 148),.b (.v 149),.b (.v 150),.i (.v 151),.i (.v 152),.i (.v 153),.i (.v 154),.b (.v 155),.b (.v 156),.i (.v 157),.l 158,.l 159,.i (.v 160),.b (.v 161),.b (.v 162),.i (.v 163),.i (.v 164),.i (.v 165),.i (.v 166),.i (.v 167),.i (.v 168),.i (.v 169),.b (.v 170),.i (.v 171),.b (.v 172),.i (.v 173),.i (.v 174),.b (.v 175),.b (.v 176),.b (.v 177),.i (.v 178),.i (.v 179),.i (.v 180),.i (.v 181),.b (.v 182),.i (.v 183),.b (.v 184),.b (.v 185),.i (.v 186),.i (.v 187),.b (.v 188),.b (.v 189),.b (.v 190),.b (.v 191)]
theorem SF{R:List DV->Prop}{Ps:List (Int->Prop)}{ae:aH}{F:Nat->List DV->Prop}{id:Nat}{bP:List DE}{G:List DV->Prop}{vs:List DV}(e:bP.map (DE.af ae)=vs)(h:G vs):(au.again id bP).gY E R Ps ae (qv F id G):=ld (by rw[e];exact h)
def EH(E:Nat->List DV->List DV->Prop)(l:List (List Int)):Nat->List DV->Prop
 |0,st=>E 23 [] st
 |i+1,a8=>∃st,EH E l i st/\E 24 (st++[.i (OT (l.getD i [])),.l (mQ (l.getD i []))]) a8
def afC(ds:List DV):Prop:=∃l:List (List Int),ds=[.l l]/\l.length<=1099511627776/\∀r∈l,Zt (OT r) (mQ r)
def afD(E:Nat->List DV->List DV->Prop)(ds rs:List DV):Prop:=sD rs/\∀l,ds=[.l l]->EH E l l.length rs
structure alw(E:Nat->List DV->List DV->Prop):Prop where
 new:∃rs,E 23 [] rs/\sD rs
 does:∀st op xs,sD st->Zt op xs->∃rs,E 24 (st++[.i op,.l xs]) rs/\sD rs
theorem Ks(hD:alw E)(hp:afC ds):t12.gY E (afD E ds) [] (bj.aB 0 ds) (fun _ _=>False):=by
 obtain⟨l,rfl,hl,hc⟩:=hp;unfold t12;refine ue (pre:=fun ds=>ds=[]) (rel:=fun _ rs=>sD rs) (fun ds h=>by subst h;exact hD.new) rfl ?_;intro cq hE0 hP0;have hl0:=hP0.len;refine mN (fun vs=>∃(i:Nat) (st:List DV),vs = .i i::st/\i<=l.length/\sD st/\EH E l i st) (fun| .i i::_=>((l.length:Int)-i).toNat|_=>0) ⟨0,cq,?_,by omega,hP0,hE0⟩ ?_;rw[kD];congr 1;exact vi hP0.has (b:=2) (fun j hj=>zm hj) (by kernel_rfl);rintro _ ⟨i,st,rfl,hi,hP,hch⟩;have AJ:=hP.len;obtain⟨e1,xf⟩:∃e1:aH,e1=((bj.aB 0 [.l l]).aB 2 cq).aB 97 (.i i::st):=⟨_,rfl⟩;have g0:e1 0 = .l l:=by rw[xf,aH.cA (by omega),aH.cA (by omega)];rfl
 have g97:e1 97 = .i i:=by rw[xf];exact aH.ei (i:=0) rfl
 have gst:∀j,j<st.length->e1 (98+j)=st.getD j (.i 0):=fun j hj=>by
   have:=zm (e:=(bj.aB 0 [.l l]).aB 2 cq) (b:=97) (ds:=.i i::st) (j:=j+1) (by simpa using hj);rw[xf,show 98+j=97+(j+1)by omega,this];rfl
 rw[<- xf];refine ix (fun cu=>?_) (fun ng=>?_);simp only[IE.af,g97,g0,di,dl]at cu;have hm:l.getD i []∈l:=by simp[List.getD,show i<l.length by omega]
 have M5:=hc _ hm;refine l9 (by simp only[IE.af,g97,di];omega) (gU (M:=mQ (l.getD i [])) (by simp only[dw.af,IE.af,g97,g0,di,dl,xm];rfl) ?_);have e2:∀k,k<193->(e1.set 193 (.l (mQ (l.getD i [])))) k=e1 k:=fun k hk=>by simp only[aH.set];rw[if_neg (by omega)]
 have key:=vi (e:=e1.set 193 (.l (mQ (l.getD i [])))) (b:=98) (XK:=GG) hP.has (fun j hj=>by rw[e2 _ (by omega)];exact gst j hj) (by kernel_rfl);have last: [DE.i (.get 0 (.v 97) 0),DE.l 193].map (DE.af (e1.set 193 (.l (mQ (l.getD i [])))))=[.i (OT (l.getD i [])),.l (mQ (l.getD i []))]:=by
   simp only[List.map,DE.af,IE.af,e2 97 (by omega),e2 0 (by omega),g97,g0,di,dl];simp only[aH.set,if_true,dl];unfold cellAt OT;rw[xm]
 have hA:(GG++[DE.i (.get 0 (.v 97) 0),DE.l 193]).map (DE.af (e1.set 193 (.l (mQ (l.getD i [])))))=st++[.i (OT (l.getD i [])),.l (mQ (l.getD i []))]:=by rw[n8,key,last]
 refine ue (pre:=fun ds=>ds=(st++[DV.i (OT (l.getD i [])),DV.l (mQ (l.getD i []))]:List DV)) (rel:=fun _ rs=>sD rs) (fun ds (h:ds=_)=>by rw[h];exact hD.does _ _ _ hP M5) (show List.map _ (GG++[DE.i (.get 0 (.v 97) 0),DE.l 193])=_ from hA) ?_;intro rs hE hR;have hlr:=hR.len;obtain⟨e3,I5⟩:∃e3:aH,e3=(e1.set 193 (.l (mQ (l.getD i [])))).aB 195 rs:=⟨_,rfl⟩;have k97:e3 97 = .i i:=by
   rw[I5,aH.cA (by omega)];simp only[aH.set];rw[if_neg (by omega),g97]
 rw[<- I5];refine oN (by simp only[IE.af,k97,di];omega) (SF (vs:=.i ((i+1:Nat):Int)::rs) ?_ ⟨⟨i+1,rs,rfl,by omega,hR,st,hch,?_⟩,?_⟩);rw[kD];have h0:DE.af e3 (.i (.add (.v 97) (.c 1))) = .i ((i+1:Nat):Int):=by simp only[DE.af,IE.af,k97,di];rfl
 rw[h0];congr 1;exact vi hR.has (b:=195) (fun j hj=>by rw[I5];exact zm hj) (by kernel_rfl);have hE':E 24 ((GG++[DE.i (.get 0 (.v 97) 0),DE.l 193]).map (DE.af (e1.set 193 (.l (mQ (l.getD i [])))))) rs:=hE;rw[hA]at hE';exact hE';show((l.length:Int)-((i+1:Nat):Int)).toNat<((l.length:Int)-i).toNat;omega;simp only[IE.af,g97,g0,di,dl]at ng;obtain rfl:i=l.length:=by omega
 refine iP (rs:=st) (vi hP.has (b:=98) gst (by kernel_rfl)) ⟨hP,fun l' e=>?_⟩;cases e;exact hch
theorem EH.congr{E':Nat->List DV->List DV->Prop}(Xz:∀ds rs,E 23 ds rs->E' 23 ds rs)(VH:∀ds rs,E 24 ds rs->E' 24 ds rs){l:List (List Int)}:∀ {i:Nat} {st:List DV},EH E l i st->EH E' l i st:=by
 intro i;induction i with
 |zero=>intro st h;exact Xz _ _ h
 |succ i ih=>intro st h;obtain⟨kT,h1,h2⟩:=h;exact⟨kT,ih h1,VH _ _ h2⟩
end
section
open Go.Sx
variable{E:Nat->List DV->List DV->Prop}{ds:List DV}{l:List Int}
def t47:au:=
.ite (.lt (.len 0) (.c 3)) (
.ret [.nil]) (
.ev (.aL (.le (.c 0) (.len 0))) (
.ev (.aL (.le (.len 0) (.c 140737488355328))) (
.ev (.cH 3 (.rep (.len 0) [0])) (
.loop 47005 [.l 3,.i (.c 0)] [.s 4 [.b],.c i6] 4 (
.ite (.lt (.v 5) (.len 0)) (
.ev (.aL (.le (.c 0) (.v 5))) (
.ev (.aL (.or (.not (.v 2)) (.le (.c 0) (.get 0 (.v 5) 0)))) (
.ev (.aL (.or (.not (.v 2)) (.lt (.get 0 (.v 5) 0) (.len 1)))) (
.ev (.aL (.lt (.v 5) (.len 4))) (
.ev (.cH 6 (.set 4 (.v 5) 0 (.inr (.or (.not (.v 2)) (.sP (.get 1 (.get 0 (.v 5) 0) 0)))))) (
.ev (.aL (r6 (.add (.v 5) (.c 1)))) (
.again 47005 [.l 6,.i (.add (.v 5) (.c 1))]))))))) (
.ret [.l 4]))))))
theorem T47:TT PP 47=some ⟨47,t47,(rowOf 47).sub⟩:=by kernel_rfl
def t44:au:=
.ite (.lt (.len 0) (.c 3)) (
.ret [.nil]) (
.ev (.aL (.le (.c 0) (.len 0))) (
.ev (.aL (.le (.len 0) (.c 17592186044416))) (
.ev (.cH 1 (.rep (.len 0) [0])) (
.loop 44005 [.i (.c 0),.l 1] [.c i6,.s 3 [i6]] 2 (
.ite (.lt (.v 2) (.len 1)) (
.ev (.aL (.le (.c 0) (.v 2))) (
.ev (.aL (.lt (.v 2) (.len 3))) (
.ev (.cH 4 (.set 3 (.v 2) 0 (.inl (.v 2)))) (
.ev (.aL (r6 (.add (.v 2) (.c 1)))) (
.again 44005 [.i (.add (.v 2) (.c 1)),.l 4]))))) (
.ev (.call 47 (.c true) [.l 3,.l 0,.b (.c true)] [.one (.s 4 [.b])] 4) (
.ev (.cH 5 (.Bi [[.s 3,.s 4,.c (.inl (.c 0))]])) (
.ret [.l 5]))))))))
theorem T44:TT PP 44=some ⟨44,t44,(rowOf 44).sub⟩:=by kernel_rfl
variable {X:bY}
def KF(l:List Int):Prop:=∀x∈l,x=0\/x=1
def Ct(ds:List DV):Prop:=∃(V:List Int) (F:List (List Int)) (b:Bool),ds=[.l (fM V),.l F,.b b]/\V.length<=256/\(b=true->∀x∈V,0<=x/\x<F.length)
def Cu(ds rs:List DV):Prop:=∃E:List Int,rs=[.l (fM E)]/\KF E/\∀V F b,ds=[.l (fM V),.l F,.b b]->(V.length<3->E=[])/\(3<=V.length->E.length=V.length)
theorem IG{a b:List Int}(h:fM a=fM b):a=b:=by
 have:=congrArg (List.map fun r:List Int=>r.getD 0 0) h;simpa[fM,List.map_map,Function.comp_def]using this
theorem o47(hp:Ct ds):t47.gY E (Cu ds) [] (bj.aB 0 ds) (fun _ _=>False):=by
 obtain⟨V,F,b,rfl,hV,hb⟩:=hp;unfold t47;refine ix (fun h=>?_) (fun h=>?_);simp[IE.af,DV.list,aH.aB,aH.set,fa]at h;refine iP (rs:=[.l (fM [])]) (by simp[DE.af,fM]) ⟨[],rfl,(fun x hx=>by cases hx),?_⟩;intro V' F' b' e;simp only[List.cons.injEq,DV.l.injEq]at e;have:=IG e.1;subst this;exact⟨fun _=>rfl,fun h'=>by omega⟩;simp[IE.af,DV.list,aH.aB,aH.set,fa]at h;refine l9 (by simp[IE.af,DV.list,aH.aB,aH.set,fa]) ?_;refine l9 (by simp[IE.af,DV.list,aH.aB,aH.set,fa];omega) ?_;refine gU (M:=fM (List.replicate V.length 0)) (by simp[dw.af,IE.af,DV.list,aH.aB,aH.set,fa,Cv]) ?_;refine mN (fun ds=>∃(E:List Int) (i:Int),ds=[.l (fM E),.i i]/\E.length=V.length/\KF E/\0<=i/\i<=V.length) (fun| [_,.i i]=>((V.length:Int)-i).toNat|_=>0)
   ⟨List.replicate V.length 0,0,by simp[DE.af,IE.af,DV.list,aH.aB,aH.set],by simp,fun x hx=>.inl (List.eq_of_mem_replicate hx),by omega,by omega⟩ ?_
 rintro _ ⟨E,i,rfl,hE,h01,vX,hi⟩;refine ix (fun h1=>?_) (fun h1=>?_);simp[IE.af,DV.int,DV.list,aH.aB,aH.set,fa]at h1;refine l9 (by simp[IE.af,DV.int,aH.aB,aH.set];omega) ?_;have hm:=IH (l:=V) vX h1;have hx:V.getD i.toNat 0∈V:=II (by omega);refine sk ?_ (sk ?_ ?_);cases b with
 |false=>simp[BE.af,DV.bool,aH.aB,aH.set]
 |true=>simp[BE.af,IE.af,DV.int,DV.list,DV.bool,aH.aB,aH.set,hm];have:=hb rfl _ hx;simpa using this.1
 cases b with
 |false=>simp[BE.af,DV.bool,aH.aB,aH.set]
 |true=>simp[BE.af,IE.af,DV.int,DV.list,DV.bool,aH.aB,aH.set,hm];have:=hb rfl _ hx;simpa using this.2
 refine Gm (by simp[IE.af,DV.int,DV.list,aH.aB,aH.set,fa,hE];omega) ?_;refine gU (M:=fM (E.set i.toNat (if(!b||decide (cellAt F (V.getD i.toNat 0) 0≠0))=true then 1 else 0))) (by simp[dw.af,b7,BE.af,IE.af,DV.int,DV.list,DV.bool,aH.aB,aH.set,hm,yh]) ?_;refine oN (by simp[IE.af,DV.int,aH.aB,aH.set];omega) (ld ⟨⟨E.set i.toNat (if(!b||decide (cellAt F (V.getD i.toNat 0) 0≠0))=true then 1 else 0),i+1,by simp[DE.af,IE.af,DV.int,DV.list,aH.aB,aH.set],by simp[hE],?_,by omega,by omega⟩,?_⟩);intro x hx;rcases List.mem_or_eq_of_mem_set hx with hx|rfl;exact h01 x hx;split;exact .inr rfl;exact .inl rfl;simp[DE.af,IE.af,DV.int,aH.aB,aH.set];omega;simp[IE.af,DV.int,DV.list,aH.aB,aH.set,fa]at h1;refine iP (rs:=[.l (fM E)]) (by simp[DE.af,aH.aB,aH.set,DV.list]) ⟨E,rfl,h01,?_⟩;intro V' F' b' e;simp only[List.cons.injEq,DV.l.injEq]at e;have:=IG e.1;subst this;exact⟨fun h'=>by omega,fun _=>hE⟩
def Cw(V E:List Int)(p:Int):List Int:=(V.length:Int)::(E.length:Int)::p::(V++E)
def Cy(m:Int)(n:Nat)(r:List Int):Prop:=∃(V E:List Int) (p:Int),r=Cw V E p/\1<=V.length/\V.length<=256/\(∀x∈V,0<=x/\x<n)/\0<=p/\p<n/\KF E/\(V.length<3->E=[])/\(3<=V.length->E.length=V.length)/\(4<=m->3<=V.length)/\(m<=3->V.length<=2)
def Zu(ds:List DV):Prop:=∃(m:Int) (F:List (List Int)) (b:Bool),ds=[.i m,.l F,.b b]/\F.length<=256
def Mt(ds rs:List DV):Prop:=∃(L:List (List Int)) (e:Int),rs=[.l L,.i e]/\L.length<=256/\(0<=e/\e<=12)/\∀m F b,ds=[.i m,.l F,.b b]->∀r∈L,Cy m F.length r
def SG(ds:List DV):Prop:=∃F:List (List Int),ds=[.l F]/\F.length<=256
def SH(ds rs:List DV):Prop:=∃L:List (List Int),rs=[.l L]/\L.length<=1/\∀F,ds=[.l F]->∀r∈L,Cy 9 F.length r
theorem IJ:(fM l).map (fun r=>r.getD 0 0)=l:=by simp[fM,List.map_map,Function.comp_def]
theorem o44(DJ:∀ds,Ct ds->∃rs,E 47 ds rs/\Cu ds rs)(hp:SG ds):t44.gY E (SH ds) [] (bj.aB 0 ds) (fun _ _=>False):=by
 obtain⟨F,rfl,hF⟩:=hp;unfold t44;refine ix (fun h=>?_) (fun h=>?_);exact iP (rs:=[.l []]) (by simp[DE.af]) ⟨[],rfl,by simp,fun _ _ r hr=>by cases hr⟩;simp[IE.af,DV.list,aH.aB,aH.set]at h;refine l9 (by simp[IE.af,DV.list,aH.aB,aH.set]) ?_;refine l9 (by simp[IE.af,DV.list,aH.aB,aH.set];omega) ?_;refine gU (M:=fM (List.replicate F.length 0)) (by simp[dw.af,IE.af,DV.list,aH.aB,aH.set,Cv]) ?_;refine mN (fun ds=>∃(V:List Int) (i:Int),ds=[.i i,.l (fM V)]/\V.length=F.length/\(∀x∈V,0<=x/\x<F.length)/\0<=i/\i<=F.length) (fun| [.i i,_]=>((F.length:Int)-i).toNat|_=>0)
   ⟨List.replicate F.length 0,0,by simp[DE.af,IE.af,DV.list,aH.aB,aH.set],by simp,fun x hx=>by rw[List.eq_of_mem_replicate hx];omega,by omega,by omega⟩ ?_
 rintro _ ⟨V,i,rfl,hV,hx,vX,hi⟩;refine ix (fun h1=>?_) (fun h1=>?_);simp[IE.af,DV.int,DV.list,aH.aB,aH.set,fa]at h1;refine l9 (by simp[IE.af,DV.int,aH.aB,aH.set];omega) ?_;refine Gm (by simp[IE.af,DV.int,DV.list,aH.aB,aH.set,fa];omega) ?_;refine gU (M:=fM (V.set i.toNat i)) (by simp[dw.af,b7,IE.af,DV.int,DV.list,aH.aB,aH.set,yh]) ?_;refine oN (by simp[IE.af,DV.int,aH.aB,aH.set];omega) (ld ⟨⟨V.set i.toNat i,i+1,by simp[DE.af,IE.af,DV.int,DV.list,aH.aB,aH.set],by simp[hV],?_,by omega,by omega⟩,?_⟩);intro x hm;rcases List.mem_or_eq_of_mem_set hm with hm|rfl;exact hx x hm;omega;simp[DE.af,IE.af,DV.int,aH.aB,aH.set];omega;refine ue DJ ⟨V,F,true,by simp[DE.af,BE.af,DV.list,aH.aB,aH.set],by omega,fun _=>hx⟩ ?_;rintro _ _ ⟨E',rfl,h01,hE⟩;have hE:=hE V F true (by simp[DE.af,BE.af,DV.list,aH.aB,aH.set]);refine gU (M:=[Cw V E' 0]) (by simp[dw.af,bU.head,bU.tail,b7,IE.af,DV.int,DV.list,aH.aB,aH.set,fa,Cw,<- List.getD_eq_getElem?_getD,IJ]) ?_;refine iP (rs:=[.l [Cw V E' 0]]) (by simp[DE.af,DV.list,aH.aB,aH.set]) ⟨_,rfl,by simp,?_⟩;intro F' e r hr;cases e;rw[kL]at hr;exact⟨V,E',0,hr,by omega,by omega,hx,by omega,by omega,h01,hE.1,hE.2,fun _=>by omega,fun h=>by omega⟩
def OU:List (List Int):=[[0],[0,1],[0,1],[0,1],[0,1,2],[0,1,2],[1,0,2],[0,1,2],[0,1,2,3],[0,1,3,2]]
def abQ(l:List Int):dw:=.lit (l.map fun n=>[.inl (.c n)])
def Mu(b:Nat):List (List Int)->au->au
 | [],t=>t
 |l::ls,t=>.ev (.cH b (abQ l)) (Mu (b+1) ls t)
theorem XL{ae:aH}:(abQ l).af ae=fM l:=by
 simp[abQ,dw.af,fM,b7,IE.af,Function.comp_def]
def EI(ae:aH)(b:Nat):List (List Int)->aH
 | []=>ae
 |l::ls=>EI (ae.set b (.l (fM l))) (b+1) ls
section
variable {E:Nat->List DV->List DV->Prop}{R:List DV->Prop}{Ps:List (Int->Prop)}{F:Nat->List DV->Prop}{t t':au}
theorem KG:∀ {ls:List (List Int)} {b:Nat} {ae:aH},t.gY E R Ps (EI ae b ls) F->(Mu b ls t).gY E R Ps ae F
 | [],_,_,h=>h
 |l::ls,b,ae,h=>gU XL (KG (ls:=ls) h)
end
def VI(s:Int):IE:=if s=1 then .v 18 else .mul (.c s) (.v 18)
def Cz(k:Nat)(s:Int):au:=Mu 3 OU (.ite (.lt (.v 1) (.len k)) (.ret [.i (.c 0)])
 (ns [r6 (.sub (.v 1) (.len k)),r6 (.tdiv (.sub (.v 1) (.len k)) (.c s)),r6 (.add (.tdiv (.sub (.v 1) (.len k)) (.c s)) (.c 1))] (.ret [.i (.add (.tdiv (.sub (.v 1) (.len k)) (.c s)) (.c 1))])))
def chain(b:au):List (Int×au)->au
 | []=>b
 |(m,t)::r=>.ite (.eq (.v 0) (.c m)) t (chain b r)
def t46:au:=.ite (.or (.or (.or (.lt (.v 0) (.c 0)) (.lt (.c 9) (.v 0))) (.lt (.v 1) (.c 1))) (.lt (.c 256) (.v 1))) (.ret [.i (.c 0)])
 (.ite (.eq (.v 0) (.c 9)) (.ev (.aL (r6 (.tdiv (.v 1) (.c 3)))) (.ret [.i (.min (.tdiv (.v 1) (.c 3)) (.c 1))]))
 (.ite (.eq (.v 0) (.c 3)) (.ite (.eq (.v 1) (.c 1)) (.ret [.i (.c 0)]) (.ret [.i (.v 1)]))
 (chain (.stuck "") [(0,Cz 3 1),(1,Cz 4 2),(2,Cz 5 1),(3,Cz 6 1),(4,Cz 7 3),(5,Cz 8 1),(6,Cz 10 1),(7,Cz 11 4),(8,Cz 12 2)])))
def xa(m:Int):Int×Int:=if m=0 then(1,1)else if m=1 then(2,2)else if m=2 then(1,2)else if m=3 then(1,1)else if m=4 then(3,3)else if m=5 then(1,3)else if m=6 then(1,3)else if m=7 then(4,4)else if m=8 then(2,4)else(3,3)
def Mv(ds:List DV):Prop:=∃m n:Int,ds=[.i m,.i n]/\0<=m/\m<=9/\0<=n/\n<=256
def IK(ds rs:List DV):Prop:=∃c:Int,rs=[.i c]/\0<=c/\c<=256/\∀m n,ds=[.i m,.i n]->0<c->(xa m).1*(c-1)+(xa m).2<=n
theorem o46(hp:Mv ds):t46.gY E (IK ds) [] (bj.aB 0 ds) (fun _ _=>False):=by
 obtain⟨m,n,rfl,h0,h9,iI,hn⟩:=hp;have br:∀(k:Nat) (s:Int) (L:Nat),1<=s->(xa m)=(s,(L:Int))->(((EI (bj.aB 0 [.i m,.i n]) 3 OU) k).list.length=L)->1<=L->(Cz k s).gY E (IK [.i m,.i n]) [] (bj.aB 0 [.i m,.i n]) (fun _ _=>False):=by
   intro k s L hs hp hk hL;unfold Cz;have e1:((EI (bj.aB 0 [.i m,.i n]) 3 OU) 1).int=n:=rfl;refine KG (ix (fun h=>?_) (fun h=>?_));exact iP (rs:=[.i 0]) rfl ⟨0,rfl,by omega,by omega,fun _ _ _ h=>by omega⟩;simp only[IE.af,e1,hk]at h;have CV:0<=(n-(L:Int)).tdiv s:=Int.tdiv_nonneg (by omega) (by omega);have AL:(n-(L:Int)).tdiv s*s<=n-L:=by rw[As (by omega)];exact Int.ediv_mul_le _ (by omega)
   have hd2:(n-(L:Int)).tdiv s<=n-L:=by rw[As (by omega)];exact Int.ediv_le_self _ (by omega)
   refine KH ?_ (iP (rs:=[.i ((n-(L:Int)).tdiv s+1)]) (by simp only[List.map,DE.af,IE.af,e1,hk]) ⟨_,rfl,by omega,by omega,?_⟩);intro p hp;simp only[bF,il,or_false]at hp;rcases hp with rfl|rfl|rfl<;>refine qt ?_<;>simp only[IE.af,e1,hk]<;>omega;intro m' n' e _;cases e;rw[hp];show s*_+(L:Int)<=_;have:s*((n-(L:Int)).tdiv s+1-1)=(n-(L:Int)).tdiv s*s:=by rw[Int.add_sub_cancel,l6]
   omega
 unfold t46;refine jR (fun h=>?_) (fun h=>?_);exact iP (rs:=[.i 0]) rfl ⟨0,rfl,by omega,by omega,fun _ _ _ h=>by omega⟩;have ga:1<=n:=by
   simp[BE.af,IE.af,DV.int,aH.aB,aH.set]at h;omega
 refine dV (fun h9'=>?_) (fun h9'=>?_);simp[IE.af,DV.int,aH.aB,aH.set]at h9';subst h9';have CV:0<=n.tdiv 3:=Int.tdiv_nonneg (by omega) (by omega);have AL:n.tdiv 3*3<=n:=by rw[As (by omega)];exact Int.ediv_mul_le _ (by omega)
 refine oN (by simp[IE.af,DV.int,aH.aB,aH.set];omega) (iP (rs:=[.i (min (n.tdiv 3) 1)]) (by simp[DE.af,IE.af,DV.int,aH.aB,aH.set]) ⟨_,rfl,by omega,by omega,?_⟩);intro m' n' e hc;cases e;show 3*_+3<=n;omega;refine dV (fun h3=>?_) (fun h3=>?_);simp[IE.af,DV.int,aH.aB,aH.set]at h3;subst h3;refine dV (fun h1=>?_) (fun h1=>?_);exact iP (rs:=[.i 0]) rfl ⟨0,rfl,by omega,by omega,fun _ _ _ h=>by omega⟩;refine iP (rs:=[.i n]) (by simp[DE.af,IE.af,DV.int,aH.aB,aH.set]) ⟨_,rfl,by omega,by omega,?_⟩;intro m' n' e hc;cases e;show 1*_+1<=n;omega;simp[IE.af,DV.int,aH.aB,aH.set]at h9' h3;refine dV (fun e=>?_) (fun e0=>?_);have e:m=0:=e;subst e;exact br 3 1 1 (by omega) rfl rfl (by omega);refine dV (fun e=>?_) (fun e1=>?_);have e:m=1:=e;subst e;exact br 4 2 2 (by omega) rfl rfl (by omega);refine dV (fun e=>?_) (fun e2=>?_);have e:m=2:=e;subst e;exact br 5 1 2 (by omega) rfl rfl (by omega);refine dV (fun e=>absurd (show m=3 from e) h3) (fun _=>?_);refine dV (fun e=>?_) (fun e4=>?_);have e:m=4:=e;subst e;exact br 7 3 3 (by omega) rfl rfl (by omega);refine dV (fun e=>?_) (fun e5=>?_);have e:m=5:=e;subst e;exact br 8 1 3 (by omega) rfl rfl (by omega);refine dV (fun e=>?_) (fun e6=>?_);have e:m=6:=e;subst e;exact br 10 1 3 (by omega) rfl rfl (by omega);refine dV (fun e=>?_) (fun e7=>?_);have e:m=7:=e;subst e;exact br 11 4 4 (by omega) rfl rfl (by omega);refine dV (fun e=>?_) (fun e8=>?_);have e:m=8:=e;subst e;exact br 12 2 4 (by omega) rfl rfl (by omega);have e0:m≠0:=e0;have e1:m≠1:=e1;have e2:m≠2:=e2;have e4:m≠4:=e4;have e5:m≠5:=e5;have e6:m≠6:=e6;have e7:m≠7:=e7;have e8:m≠8:=e8;omega
theorem T46:TT PP 46=some ⟨46,t46,(rowOf 46).sub⟩:=by kernel_rfl
end
section
open Go.Sx
def XM(k:Nat)(s:IE)(tail:au):au:=
 .ev (.aL (.le (.c 0) (.len k))) (.ev (.aL (.le (.len k) (.c 17592186044416))) (.ev (.cH 19 (.rep (.len k) [0])) (.loop 30017 [.i (.c 0),.l 19] [.c i6,.s 3 [i6]] 20 (.ite (.lt (.v 20) (.len k))
   (ns [.le (.c 0) (.v 20),r6 s,r6 (.add s (.get k (.v 20) 0)),.sP (.max (.len 1) (.c 1)),.lt (.v 20) (.len 21)]
     (.ev (.cH 22 (.set 21 (.v 20) 0 (.inl (.tmod (.add s (.get k (.v 20) 0)) (.max (.len 1) (.c 1)))))) (.ev (.aL (r6 (.add (.v 20) (.c 1)))) (.again 30017 [.i (.add (.v 20) (.c 1)),.l 22]))))
   tail))))
def Mw(v e q:Nat)(x:IE):au:=.ev (.cH q (.Bi [[.s v,.s e,.c (.inl x)]])) (.ev (.aL (.le (.add (.len 17) (.len q)) (.c 2513169434916))) (.ev (.cH (q+1) (.app 17 q)) (.ev (.aL (r6 (.add (.v 18) (.c 1)))) (.again 30010 [.l (q+1),.i (.add (.v 18) (.c 1))]))))
def Mx(v e q:Nat)(fl:Bool)(l0 l1:List BE)(first last:IE):au:=
 ns l0 (.ev (.call 47 (.c true) [.l v,.l 1,.b (.c fl)] [.one (.s 4 [.b])] e) (.ite (.v 2) (ns l1 (Mw v e q first)) (Mw v e q last)))
def x30(s:Int)(d:Int):IE:=if d=0 then VI s else .add (VI s) (.c d)
def SJ(k:Nat)(s d:Int)(fl:Bool):au:=XM k (VI s) (Mx 21 2582 8727 fl ((if d=0 then [r6 (VI s)]else [r6 (VI s),r6 (x30 s d)])++[.sP (.len 1)]) [r6 (VI s)] (VI s) (.tmod (x30 s d) (.len 1)))
def abR:au:=XM 11 (.v 18) (ns [.lt (.c 0) (.len 21)] (.ev (.cH 22 (.set 21 (.c 0) 0 (.inl (.c 0)))) (Mx 22 2583 8728 false [r6 (.v 18),r6 (.add (.v 18) (.c 2)),.sP (.len 1)] [r6 (.v 18),r6 (.add (.v 18) (.c 1))] (.add (.v 18) (.c 1)) (.tmod (.add (.v 18) (.c 2)) (.len 1)))))
def OS(m:Int)(b:au):Int×au:=(m,Mu 4 OU (.ev (.call 46 (.c true) [.i (.c m),.i (.len 1)] [oI] 16) (.loop 30010 [.nil,.i (.c 0)] [.n 104 [.s 3 i6,.s 4 .b,.c i6],.c i6] 17 (.ite (.lt (.v 18) (.v 16)) b (.ret [.l 17,.i (.c 0)])))))
def t30:au:=.ite (.or (.lt (.v 0) (.c 0)) (.lt (.c 9) (.v 0))) (.ret [.nil,.i (.c 1)])
 (.ite (.lt (.c 256) (.len 1)) (.ret [.nil,.i (.c 8)])
 (.ite (.eq (.v 0) (.c 9)) (.ev (.call 44 (.c true) [.l 1] [.one (.n 104 [.s 3 i6,.s 4 .b,.c i6])] 3) (.ret [.l 3,.i (.c 0)]))
 (chain (.stuck "") [OS 0 (SJ 4 1 0 false),OS 1 (SJ 5 2 1 false),OS 2 (SJ 6 1 1 false),OS 3 (SJ 7 1 1 false),OS 4 (SJ 8 3 2 true),
   OS 5 (ns [.or (.not (.eq (.tmod (.v 18) (.c 2)) (.c 1))) (.lt (.c 0) (.len 10))] (.ite (.eq (.tmod (.v 18) (.c 2)) (.c 1)) (SJ 10 1 2 false) (SJ 9 1 2 false))),
   OS 6 abR,OS 7 (SJ 12 4 3 true),OS 8 (SJ 13 2 3 false)])))
theorem T30:TT PP 30=some ⟨30,t30,(rowOf 30).sub⟩:=by kernel_rfl
end
section
open Go.Sx
variable{e:aH}{i s:Int}
section
variable {E:Nat->List DV->List DV->Prop}{R:List DV->Prop}{Ps:List (Int->Prop)}{F:Nat->List DV->Prop}{G:List DV->Prop}
theorem SK{k:Nat}{s:IE}{tail:au}{ae:aH}{K:List Int}{S:Int}{n:Nat}(hk:(ae k).list=fM K)(alx:k<19)(hK:∀x∈K,0<=x/\x<=3)(hKl:K.length<=4)(hn:(ae 1).list.length=n)(iI:1<=n)
   (hs:∀e':aH,(∀m,m<19->e' m=ae m)->s.af e'=S) (hS0:0<=S) (hS:S<=2000)
   (ht:∀(e':aH) (V:List Int) (G':List DV->Prop),(∀m,m<19->e' m=ae m)->e' 21 = .l (fM V)->V.length=K.length->(∀x∈V,0<=x/\x<n)->tail.gY E R Ps e' (qv F 30017 G')) :
   (XM k s tail).gY E R Ps ae F:=by
 unfold XM;refine l9 (by simp[IE.af,hk,fa]) (l9 (by simp[IE.af,hk,fa];omega) (gU (M:=fM (List.replicate K.length 0)) (by simp[dw.af,IE.af,hk,fa,Cv]) ?_));refine mN (fun ds=>∃(V:List Int) (i:Int),ds=[.i i,.l (fM V)]/\V.length=K.length/\(∀x∈V,0<=x/\x<n)/\0<=i/\i<=K.length) (fun| [.i i,_]=>((K.length:Int)-i).toNat|_=>0)
   ⟨List.replicate K.length 0,0,by simp[DE.af,IE.af,DV.list,aH.set],by simp,fun x hx=>by rw[List.eq_of_mem_replicate hx];omega,by omega,by omega⟩ ?_
 rintro _ ⟨V,i,rfl,hV,hx,vX,hi⟩;obtain⟨e1,xf⟩:∃e1:aH,e1=(ae.set 19 (.l (fM (List.replicate K.length 0)))).aB 20 [.i i,.l (fM V)]:=⟨_,rfl⟩;have bM:∀m,m<19->e1 m=ae m:=fun m hm=>by
   subst xf;simp only[aH.aB,aH.set];rw[if_neg (by omega),if_neg (by omega),if_neg (by omega)]
 have Pv:e1 20 = .i i:=by subst xf;rfl
 have h21:e1 21 = .l (fM V):=by subst xf;rfl
 rw[<- xf];have h1:(e1 1).list.length=n:=by rw[bM 1 (by omega),hn]
 have dr:(e1 k).list=fM K:=by rw[bM k alx,hk]
 refine ix (fun cu=>?_) (fun _=>ht _ V _ bM h21 hV hx);simp only[IE.af,Pv,di,dr,fa]at cu;have hg:cellAt (fM K) i 0=K.getD i.toNat 0:=IH vX cu;have hc:=hK _ (II (l:=K) (i:=i.toNat) (by omega));have hd:∀e':aH,(∀m,m<22->e' m=e1 m)->s.af e'=S:=fun e' h=>hs e' fun m hm=>by rw[h m (by omega),bM m hm]
 have Vp:max (n:Int) 1=n:=by omega
 refine KH ?_ (gU (M:=fM (V.set i.toNat ((S+K.getD i.toNat 0).tmod n))) ?_ (oN ?_ (ld ⟨⟨_,i+1,by simp[DE.af,IE.af,di,dl,aH.set,Pv];rfl,by simp[hV],?_,by omega,by omega⟩,?_⟩)));intro p hp;simp only[bF,il,or_false]at hp;rcases hp with rfl|rfl|rfl|rfl|rfl;exact kR (by simp only[IE.af,Pv,di];omega);exact qt (by rw[hd e1 fun _ _=>rfl];omega);exact qt (by simp only[IE.af,Pv,di,dr,hg,hd e1 fun _ _=>rfl];omega);exact kR (by simp only[IE.af,h1,Vp];omega);exact kR (by simp only[IE.af,Pv,h21,di,dl,fa];omega);simp only[dw.af,b7,IE.af,Pv,h21,di,dl,dr,hg,hd e1 fun _ _=>rfl,h1,Vp,yh];simp only[IE.af,aH.set,Pv,di];simp[Pv,di];omega;intro x hm;rcases List.mem_or_eq_of_mem_set hm with hm|rfl;exact hx x hm;have a0:0<=S+K.getD i.toNat 0:=by omega
 have a1:=Int.tmod_nonneg (n:Int) a0;have a2:=Int.tmod_lt_of_pos (S+K.getD i.toNat 0) (show(0:Int)<n by omega);exact⟨a1,a2⟩;simp[DE.af,IE.af,aH.set,Pv,di];omega
theorem My(DJ:∀ds,Ct ds->∃rs,E 47 ds rs/\Cu ds rs){v e q:Nat}{fl:Bool}{l0 l1:List BE}{first last:IE}{ae:aH}{V:List Int}{Fl out:List (List Int)}{m i a b:Int}{G G':List DV->Prop}
   (hve:v<e) (he:23<=e) (hq:e<q) (hv:ae v = .l (fM V)) (h1:ae 1 = .l Fl) (hV1:1<=V.length) (hV4:V.length<=4) (hV:∀x∈V,0<=x/\x<Fl.length)
   (hl0:∀p∈l0,p.af ae=true) (I3:∀e':aH,(∀k,k<22->e' k=ae k)->∀p∈l1,p.af e'=true)
   (hf:∀e':aH,(∀k,k<22->e' k=ae k)->first.af e'=a) (ha:0<=a/\a<Fl.length) (nX:∀e':aH,(∀k,k<22->e' k=ae k)->last.af e'=b) (hb:0<=b/\b<Fl.length)
   (By:ae 17 = .l out) (hol:(out.length:Int)<=i) (hi:ae 18 = .i i) (vX:0<=i) (K8:i<=255) (hm4:4<=m->3<=V.length) (hm3:m<=3->V.length<=2)
   (hG:∀r,Cy m Fl.length r->G [.l (out++[r]),.i (i+1)]):(Mx v e q fl l0 l1 first last).gY E R Ps ae (qv (qv F 30010 G) 30017 G'):=by
 unfold Mx;refine KH hl0 (ue DJ ⟨V,Fl,fl,by simp only[List.map,DE.af,BE.af,hv,h1,dl],by omega,fun _=>hV⟩ ?_);rintro _ _ ⟨E',rfl,h01,hE⟩;have hE:=hE V Fl fl (by simp only[List.map,DE.af,BE.af,hv,h1,dl]);obtain⟨e1,xf⟩:∃e1:aH,e1=ae.aB e [.l (fM E')]:=⟨_,rfl⟩;rw[<- xf];have bM:∀k,k<e->e1 k=ae k:=fun k hk=>by
   subst xf;simp only[aH.aB,aH.set];rw[if_neg (by omega)]
 have h1e:e1 e = .l (fM E'):=by subst xf;simp[aH.aB,aH.set]
 have jQ:∀k,k<22->e1 k=ae k:=fun k hk=>bM k (by omega);have one:∀(x:IE) (c:Int),(∀e':aH,(∀k,k<22->e' k=ae k)->x.af e'=c)->0<=c->c<Fl.length->(Mw v e q x).gY E R Ps e1 (qv (qv F 30010 G) 30017 G'):=by
   intro x c hx tU uP;unfold Mw;refine gU (M:=[Cw V E' c]) (by simp only[dw.af,List.map,bU.head,bU.tail,b7,bM v hve,h1e,hv,dl,hx e1 jQ,fa,Cw,List.flatMap_cons,List.flatMap_nil,IJ,qH,ta,nc]) ?_;have g17:(e1.set q (.l [Cw V E' c])) 17 = .l out:=by simp only[aH.set];rw[if_neg (by omega),jQ 17 (by omega),By]
   have gq:(e1.set q (.l [Cw V E' c])) q = .l [Cw V E' c]:=by simp[aH.set]
   refine l9 (by simp only[IE.af,g17,gq,dl];simp;omega) (gU (M:=out++[Cw V E' c]) (by simp only[dw.af,g17,gq,dl]) ?_);have XO:∀M M',((e1.set q (.l M)).set (q+1) (.l M')) 18 = .i i:=fun M M'=>by simp only[aH.set];rw[if_neg (by omega),if_neg (by omega),jQ 18 (by omega),hi]
   refine oN (by simp only[IE.af,XO,di];omega) (SL rfl ?_);have:=hG _ ⟨V,E',c,rfl,hV1,by omega,hV,tU,uP,h01,hE.1,hE.2,hm4,hm3⟩;simp only[List.map,DE.af,IE.af,XO,di];simpa[aH.set,dl]using this
 refine jR (fun _=>KH (I3 e1 jQ) (one _ _ hf ha.1 ha.2)) (fun _=>one _ _ nX hb.1 hb.2)
end
theorem vj(h:e 18 = .i i):(VI s).af e=s*i:=by
 unfold VI;split;rename_i h1;subst h1;simp only[IE.af,h,di];omega;simp only[IE.af,h,di]
theorem Mz{d:Int}(h:e 18 = .i i):(x30 s d).af e=s*i+d:=by
 unfold x30;split;rename_i h1;subst h1;rw[vj h];omega;simp only[IE.af,vj h]
structure abS(m0:Int)(F:List (List Int))(b:Bool)(e:aH)(out:List (List Int))(i c:Int)(G:List DV->Prop):Prop where
 Wk:∀k,k<16->e k=(EI (bj.aB 0 [.i m0,.l F,.b b]) 4 OU) k
 e17:e 17 = .l out
 e18:e 18 = .i i
 len:(out.length:Int)<=i
 i0:0<=i
 ic:i<c
 afE:c<=256
 afF:(xa m0).1*(c-1)+(xa m0).2<=F.length
 more:∀r,Cy m0 F.length r->G [.l (out++[r]),.i (i+1)]
section
variable {E:Nat->List DV->List DV->Prop}{R:List DV->Prop}{F0:Nat->List DV->Prop}
variable{F:List (List Int)}{G:List DV->Prop}{c:Int}{e:aH}{i m0:Int}{out:List (List Int)}
theorem yj(DJ:∀ds,Ct ds->∃rs,E 47 ds rs/\Cu ds rs){k:Nat}{s d:Int}{fl b:Bool}{K:List Int}(h:abS m0 F b e out i c G)(hk:(EI (bj.aB 0 [.i m0,.l F,.b b]) 4 OU) k = .l (fM K))(aly:k<16)
   (hK:∀x∈K,0<=x/\x<=3) (hK1:1<=K.length) (hK4:K.length<=4) (hs:(xa m0).1=s) (G1:1<=s) (hs4:s<=4) (hL:1<=(xa m0).2) (CV:0<=d) (hd:d<=3) (h4:4<=m0->3<=K.length) (h3:m0<=3->K.length<=2) :
   (SJ k s d fl).gY E R [] e (qv F0 30010 G):=by
 have h1:e 1 = .l F:=h.Wk 1 (by omega);have hp:=h.afF;rw[hs]at hp;have vX:=h.i0;have hic:=h.ic;have hc:=h.afE;have e1:s*i<=s*(c-1):=rR (by omega) (by omega);have e0:0<=s*i:=j7 (by omega) vX;have e2:s*i<=4*255:=De hs4 (by omega) vX (by omega);have hn:s*i<F.length:=by omega
 unfold SJ;refine SK (K:=K) (S:=s*i) (n:=F.length) (by rw[h.Wk k aly,hk];rfl) (by omega) hK hK4 (by rw[h1];rfl) (by omega) (fun e' he=>vj (by rw[he 18 (by omega)];exact h.e18)) e0 (by omega) ?_;intro e' V G' bM hv hVl hV;have g18:e' 18 = .i i:=by rw[bM 18 (by omega)];exact h.e18
 have g1:e' 1 = .l F:=by rw[bM 1 (by omega)];exact h1
 have t0:=Int.tmod_nonneg (F.length:Int) (show 0<=s*i+d by omega);have t1:=Int.tmod_lt_of_pos (s*i+d) (show(0:Int)<F.length by omega);refine My (m:=m0) (i:=i) (a:=s*i) (b:=(s*i+d).tmod F.length) DJ (by omega) (by omega) (by omega) hv g1 (by omega) (by omega) hV ?_ ?_ ?_ ⟨e0,hn⟩ ?_ ⟨t0,t1⟩ (by rw[bM 17 (by omega)];exact h.e17) h.len g18 vX (by omega) (fun q=>by have:=h4 q;omega) (fun q=>by have:=h3 q;omega) h.more;intro p hp;have n0:(BE.sP (.len 1)).af e'=true:=kR (by simp only[IE.af,g1,dl];omega);have r0:(r6 (VI s)).af e'=true:=qt (by rw[vj g18];omega);have r1:(r6 (x30 s d)).af e'=true:=qt (by rw[Mz g18];omega);split at hp<;>simp at hp<;>rcases hp with rfl|rfl|rfl<;>assumption;intro e2 ny p hp;simp only[kL]at hp;subst hp;exact qt (by rw[vj (by rw[ny 18 (by omega)];exact g18)];omega);intro e2 ny;exact vj (by rw[ny 18 (by omega)];exact g18);intro e2 ny;simp only[IE.af,Mz (show e2 18 = .i i by rw[ny 18 (by omega)];exact g18),ny 1 (by omega),g1,dl]
theorem abT(DJ:∀ds,Ct ds->∃rs,E 47 ds rs/\Cu ds rs){b:Bool}(h:abS 6 F b e out i c G):abR.gY E R [] e (qv F0 30010 G):=by
 have h1:e 1 = .l F:=h.Wk 1 (by omega);have hp:1*(c-1)+3<=(F.length:Int):=h.afF;have vX:=h.i0;have hic:=h.ic;have hc:=h.afE;unfold abR;refine SK (K:=[0,1,2]) (S:=i) (n:=F.length) (by rw[h.Wk 11 (by omega)];rfl) (by omega) (by decide) (by decide) (by rw[h1];rfl) (by omega) (fun e' he=>by simp only[IE.af,he 18 (by omega),h.e18,di]) vX (by omega) ?_;intro e' V G' bM hv hVl hV;have hVl:V.length=3:=hVl;have g18:e' 18 = .i i:=by rw[bM 18 (by omega)];exact h.e18
 have g1:e' 1 = .l F:=by rw[bM 1 (by omega)];exact h1
 refine KH (fun p hp=>?_) (gU (M:=fM (V.set 0 0)) ?_ ?_);simp only[kL]at hp;subst hp;exact kR (by simp only[IE.af,hv,dl,fa];omega);simp only[dw.af,b7,IE.af,hv,dl];exact yh;have s1:∀k,k<22->(e'.set 22 (.l (fM (V.set 0 0)))) k=e' k:=fun k hk=>by simp only[aH.set];rw[if_neg (by omega)]
 have XO:(e'.set 22 (.l (fM (V.set 0 0)))) 18 = .i i:=by rw[s1 18 (by omega)];exact g18
 have k1:(e'.set 22 (.l (fM (V.set 0 0)))) 1 = .l F:=by rw[s1 1 (by omega)];exact g1
 have t0:=Int.tmod_nonneg (F.length:Int) (show 0<=i+2 by omega);have t1:=Int.tmod_lt_of_pos (i+2) (show(0:Int)<F.length by omega);refine My (V:=V.set 0 0) (m:=6) (i:=i) (a:=i+1) (b:=(i+2).tmod F.length) DJ (by omega) (by omega) (by omega) (by simp[aH.set]) k1 (by simp;omega) (by simp;omega) ?_ ?_ ?_ ?_ ⟨by omega,by omega⟩ ?_ ⟨t0,t1⟩ (by rw[s1 17 (by omega),bM 17 (by omega)];exact h.e17) h.len XO vX (by omega) (fun _=>by simp;omega) (fun q=>by omega) h.more;intro x hx;rcases List.mem_or_eq_of_mem_set hx with hx|rfl;exact hV x hx;omega;intro p hp;simp only[bF,il,or_false]at hp;rcases hp with rfl|rfl|rfl;exact qt (by simp only[IE.af,XO,di];omega);exact qt (by simp only[IE.af,XO,di];omega);exact kR (by simp only[IE.af,k1,dl];omega);intro e2 ny p hp;have z18:e2 18 = .i i:=by rw[ny 18 (by omega)];exact XO
 simp only[bF,il,or_false]at hp;rcases hp with rfl|rfl<;>exact qt (by simp only[IE.af,z18,di];omega);intro e2 ny;simp only[IE.af,ny 18 (by omega),XO,di];intro e2 ny;simp only[IE.af,ny 18 (by omega),ny 1 (by omega),XO,k1,di,dl]
theorem ym(Mr:∀ds,Mv ds->∃rs,E 46 ds rs/\IK ds rs){b:Bool}{B:au}(h0:0<=m0)(h9:m0<=9)(hF:F.length<=256)
   (hB:∀(e:aH) (out:List (List Int)) (i c:Int) (G:List DV->Prop),abS m0 F b e out i c G->B.gY E (Mt [.i m0,.l F,.b b]) [] e (qv F0 30010 G)) :
   (OS m0 B).2.gY E (Mt [.i m0,.l F,.b b]) [] (bj.aB 0 [.i m0,.l F,.b b]) F0:=by
 unfold OS;refine KG (ue Mr ⟨m0,F.length,rfl,h0,h9,by omega,by omega⟩ ?_);rintro _ _ ⟨c,rfl,tU,hc,hpl⟩;have hpl:=hpl m0 F.length rfl;refine mN (fun ds=>∃(out:List (List Int)) (i:Int),ds=[.l out,.i i]/\(out.length:Int)<=i/\0<=i/\i<=c/\∀r∈out,Cy m0 F.length r) (fun| [_,.i i]=>(c-i).toNat|_=>0)
   ⟨[],0,rfl,by simp,by omega,by omega,fun r hr=>by cases hr⟩ ?_
 rintro _ ⟨out,i,rfl,hol,vX,hic,jU⟩;refine ix (fun cu=>?_) (fun ng=>?_);have cu:i<c:=cu;refine hB _ out i c _ ⟨?_,rfl,rfl,hol,vX,cu,hc,hpl (by omega),?_⟩;intro k hk;simp only[aH.aB,aH.set];rw[if_neg (by omega),if_neg (by omega),if_neg (by omega)];intro r hr;refine⟨⟨out++[r],i+1,rfl,by simp;omega,by omega,by omega,fun r' cY=>?_⟩,?_⟩;rcases mi.1 cY with cY|cY;exact jU r' cY;rw[kL]at cY;subst cY;exact hr;show(c-(i+1)).toNat<(c-i).toNat;omega;exact iP (rs:=[.l out,.i 0]) rfl ⟨out,0,rfl,by omega,by omega,fun m' F' b' e r hr=>by cases e;exact jU r hr⟩
theorem o30(h44:∀ds,SG ds->∃rs,E 44 ds rs/\SH ds rs)(Mr:∀ds,Mv ds->∃rs,E 46 ds rs/\IK ds rs)(DJ:∀ds,Ct ds->∃rs,E 47 ds rs/\Cu ds rs){ds:List DV}(hp:Zu ds):t30.gY E (Mt ds) [] (bj.aB 0 ds) F0:=by
 obtain⟨m,F,b,rfl,hF⟩:=hp;unfold t30;refine jR (fun h=>?_) (fun h=>?_);exact iP (rs:=[.l [],.i 1]) rfl ⟨[],1,rfl,by simp,by omega,fun _ _ _ _ r hr=>by cases hr⟩;have hm:0<=m/\m<=9:=by
   simp[BE.af,IE.af,DV.int,aH.aB,aH.set]at h;omega
 refine ix (fun _=>?_) (fun _=>?_);exact iP (rs:=[.l [],.i 8]) rfl ⟨[],8,rfl,by simp,by omega,fun _ _ _ _ r hr=>by cases hr⟩;refine dV (fun e=>?_) (fun e9=>?_);have e:m=9:=e;subst e;refine ue h44 ⟨F,rfl,hF⟩ ?_;rintro _ _ ⟨L,rfl,hL,jU⟩;exact iP (rs:=[.l L,.i 0]) rfl ⟨L,0,rfl,by omega,by omega,fun m' F' b' e r hr=>by cases e;exact jU F rfl r hr⟩;refine dV (fun e=>?_) (fun e0=>?_);have e:m=0:=e;subst e;exact ym Mr (by omega) (by omega) hF fun e out i c G h=>yj DJ (K:=[0]) h rfl (by omega) (by decide) (by decide) (by decide) rfl (by omega) (by omega) (by decide) (by omega) (by omega) (by omega) (by decide);refine dV (fun e=>?_) (fun e1=>?_);have e:m=1:=e;subst e;exact ym Mr (by omega) (by omega) hF fun e out i c G h=>yj DJ (K:=[0,1]) h rfl (by omega) (by decide) (by decide) (by decide) rfl (by omega) (by omega) (by decide) (by omega) (by omega) (by omega) (by decide);refine dV (fun e=>?_) (fun e2=>?_);have e:m=2:=e;subst e;exact ym Mr (by omega) (by omega) hF fun e out i c G h=>yj DJ (K:=[0,1]) h rfl (by omega) (by decide) (by decide) (by decide) rfl (by omega) (by omega) (by decide) (by omega) (by omega) (by omega) (by decide);refine dV (fun e=>?_) (fun e3=>?_);have e:m=3:=e;subst e;exact ym Mr (by omega) (by omega) hF fun e out i c G h=>yj DJ (K:=[0,1]) h rfl (by omega) (by decide) (by decide) (by decide) rfl (by omega) (by omega) (by decide) (by omega) (by omega) (by omega) (by decide);refine dV (fun e=>?_) (fun e4=>?_);have e:m=4:=e;subst e;exact ym Mr (by omega) (by omega) hF fun e out i c G h=>yj DJ (K:=[0,1,2]) h rfl (by omega) (by decide) (by decide) (by decide) rfl (by omega) (by omega) (by decide) (by omega) (by omega) (by decide) (by omega);refine dV (fun e=>?_) (fun e5=>?_);have e:m=5:=e;subst e;refine ym Mr (by omega) (by omega) hF fun e out i c G h=>KH (fun p hp=>?_) (jR (fun _=>?_) (fun _=>?_));simp only[kL]at hp;subst hp;have:e 10 = .l (fM [1,0,2]):=h.Wk 10 (by omega);simp[BE.af,IE.af,this,dl,fM];exact yj DJ (K:=[1,0,2]) h rfl (by omega) (by decide) (by decide) (by decide) rfl (by omega) (by omega) (by decide) (by omega) (by omega) (by decide) (by omega);exact yj DJ (K:=[0,1,2]) h rfl (by omega) (by decide) (by decide) (by decide) rfl (by omega) (by omega) (by decide) (by omega) (by omega) (by decide) (by omega);refine dV (fun e=>?_) (fun e6=>?_);have e:m=6:=e;subst e;exact ym Mr (by omega) (by omega) hF fun e out i c G h=>abT DJ h;refine dV (fun e=>?_) (fun e7=>?_);have e:m=7:=e;subst e;exact ym Mr (by omega) (by omega) hF fun e out i c G h=>yj DJ (K:=[0,1,2,3]) h rfl (by omega) (by decide) (by decide) (by decide) rfl (by omega) (by omega) (by decide) (by omega) (by omega) (by decide) (by omega);refine dV (fun e=>?_) (fun e8=>?_);have e:m=8:=e;subst e;exact ym Mr (by omega) (by omega) hF fun e out i c G h=>yj DJ (K:=[0,1,3,2]) h rfl (by omega) (by decide) (by decide) (by decide) rfl (by omega) (by omega) (by decide) (by omega) (by omega) (by decide) (by omega);have e0:m≠0:=e0;have e1:m≠1:=e1;have e2:m≠2:=e2;have e3:m≠3:=e3;have e4:m≠4:=e4;have e5:m≠5:=e5;have e6:m≠6:=e6;have e7:m≠7:=e7;have e8:m≠8:=e8;have e9:m≠9:=e9;omega
end
variable {X:bY}
theorem g47:vy (TT PP) X 47 Ct Cu:=wT T47 fun ds hp=>o47 hp
theorem g44:vy (TT PP) X 44 SG SH:=wT T44 fun ds hp=>o44 g47 hp
theorem g46:vy (TT PP) X 46 Mv IK:=wT T46 fun ds hp=>o46 hp
theorem VF:vy (TT PP) X 30 Zu Mt:=wT T30 fun ds hp=>o30 g44 g46 g47 hp
end
section
open Go.Sx Go
variable {X:bY}
def w14:List (List Int):=[[0,255],[0,255],[0,255],[0,255]]
end
section
open Go.Sx Go
abbrev ByH(P:Program)(X:bY)(i k:Nat):Prop:=sr (TT P) X kc (ord.take i)->vy (TT P) X k (kc k).jA (kc k).lh
theorem S3{k:Nat}(h:(kc k).pre.any (fun p=>p.beq (.c false))=true):∀ds,¬ (kc k).jA ds:=fun ds hp=>by
 rw[mr]at h;obtain⟨p,h1,h2⟩:=h;have e:=hp.2 _ h1;cases p<;>simp[BE.beq]at h2;subst h2;simp[BE.af]at e
variable {X:bY}
theorem ajM:ByH PP X 19 47:=fun _ ds hp=>absurd hp (S3 (by kernel_rfl) ds)
theorem ajN:ByH PP X 20 44:=fun _ ds hp=>absurd hp (S3 (by kernel_rfl) ds)
theorem al2:kc 30=⟨[.i mn mx,.l 0 (some 256) [],.b],[],[.l 0 (some 256) [(1,256),(0,256),(0,255)],.i mn mx],[]⟩:=by kernel_rfl
theorem ajO:ByH PP X 22 30:=fun _=>by
 rw[al2];refine vy.weaken VF (fun ds hp=>?_) (fun ds rs hp h=>?_);obtain⟨hp,_⟩:=hp
 match ds,hp with
 | [.i m,.l F,.b b],⟨_,⟨_,h2,_⟩,_⟩=>exact⟨m,F,b,rfl,by have:=h2 _ rfl;omega⟩
 obtain⟨hp,_⟩:=hp
 match ds,hp with
 | [.i m,.l F,.b b],⟨_,⟨_,h2,_⟩,_⟩=>
   have hF:=h2 _ rfl;obtain⟨L,e,rfl,hL,he,cK⟩:=h;refine⟨⟨⟨by omega,fun y hy=>?_,fun r hr=>?_⟩,⟨?_,?_⟩,trivial⟩,fun p hp=>by cases hp⟩;cases hy;omega;obtain⟨V,E,p,rfl,v1,v2,_,p1,p2,_,e1,e2,_⟩:=cK m F b rfl r hr;have hE:(E.length:Int)<=256:=by
     rcases qK V.length 3 with h|h;rw[e1 h];decide;rw[e2 h];omega
   have hF':(F.length:Int)<=256:=hF;refine⟨⟨?_,?_⟩,⟨?_,?_⟩,⟨?_,?_⟩,trivial⟩<;>simp only[Cw,List.getD_cons_zero,List.getD_cons_succ]<;>omega;show mn<=e;unfold mn;omega;show e<=mx;unfold mx;omega
end
section
open Go.Sx Go
theorem afL:kc 241=⟨[.i 0 18446744073709551615,.i 0 18446744073709551615,.i 0 18446744073709551615],[.lt (.v 0) (.v 2)],[.i 0 18446744073709551615,.i 0 18446744073709551615],[]⟩:=by kernel_rfl
theorem ae8{X:bY}(hX:X 283=zh):ByH PP X 48 241:=fun _=>by
 rw[afL];intro ds hp;obtain⟨ha,hq⟩:=hp
 match ds,ha,hq with
 | [.i hi,.i lo,.i y],⟨⟨a0,a1⟩,⟨b0,b1⟩,⟨c0,c1⟩,_⟩,hq=>
   have cu:hi<y:=mW (hq _ (aU ..));obtain⟨rs,g,h⟩:=aef hX [.i hi,.i lo,.i y] ⟨hi,lo,y,rfl,a0,cu,by omega,b0,by omega⟩;have h:=h hi lo y rfl;refine⟨rs,g,?_⟩;rw[show rs=_ from h];have n0:0<=hi*18446744073709551616+lo:=by omega
   have q0:=wo n0 (show 0<=y by omega);have q1:(hi*18446744073709551616+lo)/y<18446744073709551616:=Fe (by omega) (by omega);have r0:=Aj (hi*18446744073709551616+lo) (show y≠0 by omega);have r1:=yQ (hi*18446744073709551616+lo) (show 0<y by omega);exact⟨⟨⟨q0,by omega⟩,⟨r0,by omega⟩,trivial⟩,fun p hp=>by cases hp⟩
end
end Go.Proofs.YtohebioanhliiaaGreatDoor.av

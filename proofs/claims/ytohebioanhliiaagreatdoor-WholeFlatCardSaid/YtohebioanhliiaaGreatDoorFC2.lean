/- Functions shown by hand: Run, opened, Prims, Right. -/
import Derived.Test.YtohebioanhliiaaGreatDoorFC1
set_option maxRecDepth 100000
set_option linter.unusedVariables false
set_option linter.unusedSimpArgs false
namespace Go.Proofs.YtohebioanhliiaaGreatDoor.aN
section
open Go.Sx
variable{ds:List DV}{E:Nat->List DV->List DV->Prop}{e:aF}{j:Nat}{st:List DV}
def t12:aA:=
.ev (.call 23 (.c true) [] [.agg pV] 2) (
.loop 12003 [.i (.c 0),.i (.v 2),.i (.v 3),.i (.v 4),.l 5,.l 6,.i (.v 7),.i (.v 8),.i (.v 9),.i (.v 10),.i (.v 11),.i (.v 12),.i (.v 13),.i (.v 14),.i (.v 15),.i (.v 16),.l 17,.l 18,.i (.v 19),.i (.v 20),.i (.v 21),.i (.v 22),.i (.v 23),.i (.v 24),.i (.v 25),.i (.v 26),.i (.v 27),.i (.v 28),.i (.v 29),.i (.v 30),.i (.v 31),.i (.v 32),.i (.v 33),.i (.v 34),.i (.v 35),.i (.v 36),.i (.v 37),.i (.v 38),.i (.v 39),.i (.v 40),.i (.v 41),.i (.v 42),.i (.v 43),.i (.v 44),.i (.v 45),.i (.v 46),.i (.v 47),.i (.v 48),.b (.v 49),.b (.v 50),.b (.v 51),.b (.v 52),.b (.v 53),.b (.v 54),.i (.v 55),.i (.v 56),.i (.v 57),.i (.v 58),.b (.v 59),.b (.v 60),.i (.v 61),.l 62,.l 63,.i (.v 64),.b (.v 65),.b (.v 66),.i (.v 67),.i (.v 68),.i (.v 69),.i (.v 70),.i (.v 71),.i (.v 72),.i (.v 73),.b (.v 74),.i (.v 75),.b (.v 76),.i (.v 77),.i (.v 78),.b (.v 79),.b (.v 80),.b (.v 81),.i (.v 82),.i (.v 83),.i (.v 84),.i (.v 85),.b (.v 86),.i (.v 87),.b (.v 88),.b (.v 89),.i (.v 90),.i (.v 91),.b (.v 92),.b (.v 93),.b (.v 94),.b (.v 95)] [.c i6,.c i6,.c i6,.c i6,.s 3 [i6],.s 3 [i6],.c i6,.c i6,.c i6,.c i6,.c i6,.c i6,.c i6,.c i6,.c i6,.c i6,.s 138 [i6,i6,i6,i6,i6,i6,i6,i6,i6,i6,i6,i6,i6,i6,i6,i6],.s 138 [i6,i6,i6,i6,i6,i6,i6,i6,i6,i6,i6,i6,i6,i6,i6,i6],.c i6,.c i6,.c i6,.c i6,.c i6,.c i6,.c i6,.c i6,.c i6,.c i6,.c i6,.c i6,.c i6,.c i6,.c i6,.c i6,.c i6,.c i6,.c i6,.c i6,.c i6,.c i6,.c i6,.c i6,.c i6,.c i6,.c i6,.c i6,.c i6,.c i6,.c (.b),.c (.b),.c (.b),.c (.b),.c (.b),.c (.b),.c i6,.c i6,.c i6,.c i6,.c (.b),.c (.b),.c i6,.s 76 fq,.s 4 [.b],.c i6,.c (.b),.c (.b),.c i6,.c i6,.c i6,.c i6,.c i6,.c i6,.c i6,.c (.b),.c i6,.c (.b),.c i6,.c i6,.c (.b),.c (.b),.c (.b),.c i6,.c i6,.c i6,.c i6,.c (.b),.c i6,.c (.b),.c (.b),.c i6,.c i6,.c (.b),.c (.b),.c (.b),.c (.b)] 97 (
.ite (.lt (.v 97) (.len 0)) (
.ev (.aH (.le (.c 0) (.v 97))) (
.ev (.b8 193 (.sub 0 (.v 97) [.c i6,.s 3 i6] 1)) (
.ev (.call 24 (.c true) [.i (.v 98),.i (.v 99),.i (.v 100),.l 101,.l 102,.i (.v 103),.i (.v 104),.i (.v 105),.i (.v 106),.i (.v 107),.i (.v 108),.i (.v 109),.i (.v 110),.i (.v 111),.i (.v 112),.l 113,.l 114,.i (.v 115),.i (.v 116),.i (.v 117),.i (.v 118),.i (.v 119),.i (.v 120),.i (.v 121),.i (.v 122),.i (.v 123),.i (.v 124),.i (.v 125),.i (.v 126),.i (.v 127),.i (.v 128),.i (.v 129),.i (.v 130),.i (.v 131),.i (.v 132),.i (.v 133),.i (.v 134),.i (.v 135),.i (.v 136),.i (.v 137),.i (.v 138),.i (.v 139),.i (.v 140),.i (.v 141),.i (.v 142),.i (.v 143),.i (.v 144),.b (.v 145),.b (.v 146),.b (.v 147),.b (.v 148),.b (.v 149),.b (.v 150),.i (.v 151),.i (.v 152),.i (.v 153),.i (.v 154),.b (.v 155),.b (.v 156),.i (.v 157),.l 158,.l 159,.i (.v 160),.b (.v 161),.b (.v 162),.i (.v 163),.i (.v 164),.i (.v 165),.i (.v 166),.i (.v 167),.i (.v 168),.i (.v 169),.b (.v 170),.i (.v 171),.b (.v 172),.i (.v 173),.i (.v 174),.b (.v 175),.b (.v 176),.b (.v 177),.i (.v 178),.i (.v 179),.i (.v 180),.i (.v 181),.b (.v 182),.i (.v 183),.b (.v 184),.b (.v 185),.i (.v 186),.i (.v 187),.b (.v 188),.b (.v 189),.b (.v 190),.b (.v 191),.i (.get 0 (.v 97) 0),.l 193] [.agg pV] 195) (
.ev (.aH (r6 (.add (.v 97) (.c 1)))) (
.again 12003 [.i (.add (.v 97) (.c 1)),.i (.v 195),.i (.v 196),.i (.v 197),.l 198,.l 199,.i (.v 200),.i (.v 201),.i (.v 202),.i (.v 203),.i (.v 204),.i (.v 205),.i (.v 206),.i (.v 207),.i (.v 208),.i (.v 209),.l 210,.l 211,.i (.v 212),.i (.v 213),.i (.v 214),.i (.v 215),.i (.v 216),.i (.v 217),.i (.v 218),.i (.v 219),.i (.v 220),.i (.v 221),.i (.v 222),.i (.v 223),.i (.v 224),.i (.v 225),.i (.v 226),.i (.v 227),.i (.v 228),.i (.v 229),.i (.v 230),.i (.v 231),.i (.v 232),.i (.v 233),.i (.v 234),.i (.v 235),.i (.v 236),.i (.v 237),.i (.v 238),.i (.v 239),.i (.v 240),.i (.v 241),.b (.v 242),.b (.v 243),.b (.v 244),.b (.v 245),.b (.v 246),.b (.v 247),.i (.v 248),.i (.v 249),.i (.v 250),.i (.v 251),.b (.v 252),.b (.v 253),.i (.v 254),.l 255,.l 256,.i (.v 257),.b (.v 258),.b (.v 259),.i (.v 260),.i (.v 261),.i (.v 262),.i (.v 263),.i (.v 264),.i (.v 265),.i (.v 266),.b (.v 267),.i (.v 268),.b (.v 269),.i (.v 270),.i (.v 271),.b (.v 272),.b (.v 273),.b (.v 274),.i (.v 275),.i (.v 276),.i (.v 277),.i (.v 278),.b (.v 279),.i (.v 280),.b (.v 281),.b (.v 282),.i (.v 283),.i (.v 284),.b (.v 285),.b (.v 286),.b (.v 287),.b (.v 288)]))))) (
.ret ([.i (.v 98),.i (.v 99),.i (.v 100),.l 101,.l 102]++iv 103 10++[.l 113,.l 114]++iv 115 30++[.b (.v 145),.b (.v 146),.b (.v 147),.b (.v 148),.b (.v 149),.b (.v 150)]++iv 151 4++[.b (.v 155),.b (.v 156),.i (.v 157),.l 158,.l 159,.i (.v 160),.b (.v 161),.b (.v 162)]++iv 163 7++[.b (.v 170),.i (.v 171),.b (.v 172),.i (.v 173),.i (.v 174),.b (.v 175),.b (.v 176),.b (.v 177)]++iv 178 4++[.b (.v 182),.i (.v 183),.b (.v 184),.b (.v 185),.i (.v 186),.i (.v 187),.b (.v 188),.b (.v 189),.b (.v 190),.b (.v 191)]))))
theorem T12:TT PP 12=some ⟨12,t12,(rowOf 12).sub⟩:=by kernel_rfl
def t17:aA:=
.ev (.call 27 (.c true) [.l 0,.i (.c 40),.i (.c 100)] [oB] 2) (
.ite (.not (.v 2)) (
.ret [.i (.c 0),.i (.c 0),.i (.c 0),.nil,.nil,.i (.c 0),.i (.c 0),.i (.c 0),.i (.c 0),.i (.c 0),.i (.c 0),.i (.c 0),.i (.c 0),.i (.c 0),.i (.c 0),.nil,.nil,.i (.c 0),.i (.c 0),.i (.c 0),.i (.c 0),.i (.c 0),.i (.c 0),.i (.c 0),.i (.c 0),.i (.c 0),.i (.c 0),.i (.c 0),.i (.c 0),.i (.c 0),.i (.c 0),.i (.c 0),.i (.c 0),.i (.c 0),.i (.c 0),.i (.c 0),.i (.c 0),.i (.c 0),.i (.c 0),.i (.c 0),.i (.c 0),.i (.c 0),.i (.c 0),.i (.c 0),.i (.c 0),.i (.c 0),.i (.c 0),.b (.c false),.b (.c false),.b (.c false),.b (.c false),.b (.c false),.b (.c false),.i (.c 0),.i (.c 0),.i (.c 0),.i (.c 0),.b (.c false),.b (.c false),.i (.c 0),.nil,.nil,.i (.c 0),.b (.c false),.b (.c false),.i (.c 0),.i (.c 0),.i (.c 0),.i (.c 0),.i (.c 0),.i (.c 0),.i (.c 0),.b (.c false),.i (.c 0),.b (.c false),.i (.c 0),.i (.c 0),.b (.c false),.b (.c false),.b (.c false),.i (.c 0),.i (.c 0),.i (.c 0),.i (.c 0),.b (.c false),.i (.c 0),.b (.c false),.b (.c false),.i (.c 0),.i (.c 0),.b (.c false),.b (.c false),.b (.c false),.b (.c false),.b (.c false)]) (
.ev (.call 12 (.c true) [.l 0] [.agg pV] 3) (
.ev (.aH (.or (.not (.and (.and (.v 61) (.le (.c 1) (.v 4))) (.le (.c 1) (.v 5)))) (r6 (.mul (.v 4) (.v 5))))) (
.ret [.i (.v 3),.i (.v 4),.i (.v 5),.l 6,.l 7,.i (.v 8),.i (.v 9),.i (.v 10),.i (.v 11),.i (.v 12),.i (.v 13),.i (.v 14),.i (.v 15),.i (.v 16),.i (.v 17),.l 18,.l 19,.i (.v 20),.i (.v 21),.i (.v 22),.i (.v 23),.i (.v 24),.i (.v 25),.i (.v 26),.i (.v 27),.i (.v 28),.i (.v 29),.i (.v 30),.i (.v 31),.i (.v 32),.i (.v 33),.i (.v 34),.i (.v 35),.i (.v 36),.i (.v 37),.i (.v 38),.i (.v 39),.i (.v 40),.i (.v 41),.i (.v 42),.i (.v 43),.i (.v 44),.i (.v 45),.i (.v 46),.i (.v 47),.i (.v 48),.i (.v 49),.b (.v 50),.b (.v 51),.b (.v 52),.b (.v 53),.b (.v 54),.b (.v 55),.i (.v 56),.i (.v 57),.i (.v 58),.i (.v 59),.b (.v 60),.b (.v 61),.i (.v 62),.l 63,.l 64,.i (.v 65),.b (.v 66),.b (.v 67),.i (.v 68),.i (.v 69),.i (.v 70),.i (.v 71),.i (.v 72),.i (.v 73),.i (.v 74),.b (.v 75),.i (.v 76),.b (.v 77),.i (.v 78),.i (.v 79),.b (.v 80),.b (.v 81),.b (.v 82),.i (.v 83),.i (.v 84),.i (.v 85),.i (.v 86),.b (.v 87),.i (.v 88),.b (.v 89),.b (.v 90),.i (.v 91),.i (.v 92),.b (.v 93),.b (.v 94),.b (.v 95),.b (.v 96),.b (.and (.and (.and (.and (.v 61) (.le (.c 1) (.v 4))) (.le (.c 1) (.v 5))) (.eq (.len 6) (.mul (.v 4) (.v 5)))) (.eq (.len 7) (.len 6)))]))))
theorem T17:TT PP 17=some ⟨17,t17,(rowOf 17).sub⟩:=by kernel_rfl
def pA:List A:=(kc 24).res
theorem Ri:pA.length=94:=by kernel_rfl
def ve(st:List DV)(j:Nat):Int:=(st.getD j (.i 0)).int
def pbool(st:List DV)(j:Nat):Bool:=(st.getD j (.i 0)).bool
def sw(st:List DV)(j:Nat):List (List Int):=(st.getD j (.i 0)).list
structure gY(st:List DV):Prop where
 has:nh pA st
 c3:((sw st 3).length:Int)=ve st 1*ve st 2
 c4:((sw st 4).length:Int)=ve st 1*ve st 2
 c60:(sw st 60).length=(sw st 61).length
theorem gY.len(h:gY st):st.length=94:=by rw[<- h.has.len,Ri]
theorem ny{b:Nat}(h:j<ds.length):e.au b ds (b+j)=ds.getD j (.i 0):=by
 have:=aF.eL (ae:=e) (k:=b) (ds:=ds) (i:=j) (eN h);rw[this];simp[List.getD,h]
theorem fH(h:j<ds.length):a8.au 0 ds j=ds.getD j (.i 0):=by
 have:=ny (e:=a8) (b:=0) h;rwa[fR]at this
theorem Lb{c:Cn}{rs:List DV}(hr:c.res=pA)(hq:c.post=tZ R0)(h:c.iK ds rs):gY rs:=by
 obtain⟨h1,h2⟩:=h;rw[hr]at h1;rw[hq]at h2;have hl:rs.length=94:=by rw[<- h1.len,Ri]
 have ea:∀j,j<94->gD ds rs (R0+j)=rs.getD j (.i 0):=fun j hj=>ny (by omega);have p0:=jY (h2 (.eq (.len (R0+3)) (.mul (.v (R0+1)) (.v (R0+2)))) (by simp[tZ]));have p1:=jY (h2 (.eq (.len (R0+4)) (.mul (.v (R0+1)) (.v (R0+2)))) (by simp[tZ]));have p2:=jY (h2 (.eq (.len (R0+60)) (.len (R0+61))) (by simp[tZ]));simp only[IE.af,ea 3 (by omega),ea 4 (by omega),ea 1 (by omega),ea 2 (by omega),ea 60 (by omega),ea 61 (by omega)]at p0 p1 p2;exact⟨h1,p0,p1,by unfold sw;omega⟩
theorem JC{aa bs:List A}{es:List DV}:nh aa ds->nh bs es->nh (aa++bs) (ds++es):=by
 induction aa generalizing ds with
 | nil=>intro h1 h2;cases ds with
   |nil=>exact h2
   |cons d ds=>exact h1.elim
 | cons a aa ih=>intro h1 h2;cases ds with
   |nil=>exact h1.elim
   |cons d ds=>exact⟨h1.1,ih h1.2 h2⟩
structure Ld(op:Int)(xs:List (List Int)):Prop where
 opR: -9223372036854775808<=op/\op<=9223372036854775807
 len:xs.length<=40
 gR:∀r∈xs,-9223372036854775808<=r.getD 0 0/\r.getD 0 0<=9223372036854775807
 sz:op=1->Sz xs->cellAt xs 0 0*cellAt xs 1 0<=100
theorem abd:(kc 24).args=pA++[.i mn mx,.l 0 (some 40) [cI]]:=by kernel_rfl
theorem afl:(kc 24).pre=tZ 0++[imp (fb (.eq (.v 94) (.c 1)::sb 95)) (.le (.mul (.get 95 (.c 0) 0) (.get 95 (.c 1) 0)) (.c 100))]:=by kernel_rfl
theorem abe{op:Int}{xs:List (List Int)}(h:gY st)(hc:Ld op xs):(kc 24).il (st++[.i op,.l xs]):=by
 have hl:=h.len;refine⟨?_,?_⟩;rw[abd];refine JC h.has ⟨hc.opR,⟨by omega,fun y e=>?_,fun r hr=>⟨hc.gR r hr,trivial⟩⟩,trivial⟩;cases e;have:=hc.len;omega;have ea:∀j,j<94->a8.au 0 (st++[.i op,.l xs]) j=st.getD j (.i 0):=fun j hj=>by
   rw[fH (by simp;omega)];simp only[cm];rw[p9 (by omega)]
 have e94:a8.au 0 (st++[.i op,.l xs]) 94 = .i op:=by
   rw[fH (by simp;omega)];simp only[cm];rw[qv (by omega),hl];rfl
 have e95:a8.au 0 (st++[.i op,.l xs]) 95 = .l xs:=by
   rw[fH (by simp;omega)];simp only[cm];rw[qv (by omega),hl];rfl
 rw[afl];intro p hp;rcases jS.1 hp with hp|hp;simp only[tZ,bC,gu,or_false,fR]at hp;rcases hp with rfl|rfl|rfl;exact ja (by simp only[IE.af,ea 3 (by omega),ea 1 (by omega),ea 2 (by omega)];exact h.c3);exact ja (by simp only[IE.af,ea 4 (by omega),ea 1 (by omega),ea 2 (by omega)];exact h.c4);exact ja (by simp only[IE.af,ea 60 (by omega),ea 61 (by omega)];have:=h.c60;unfold sw at this;omega);simp only[iE]at hp;subst hp;simp only[imp,fb,sb,mq,sR,nM,BE.af,IE.af,e94,e95,di,dl,hZ,nJ,OI,sO,aO];by_cases h1:op=1;by_cases hs:Sz xs;exact .inr (hc.sz h1 hs);refine .inl ?_;by_cases g0:(xs.length:Int)=2;by_cases g1:(1:Int)<=cellAt xs 0 0;by_cases g2:cellAt xs 0 0<=1024;by_cases g3:(1:Int)<=cellAt xs 1 0;by_cases g4:cellAt xs 1 0<=1024;exact absurd ⟨by omega,⟨g1,g2⟩,⟨g3,g4⟩⟩ hs;simp[g4];simp[g3];simp[g2];simp[g1];simp[g0];exact .inl (.inl h1)
def xB:List A->Nat->List DE->Bool
 | [],_,[]=>true
 |.i _ _::aa,b,.i (.v k)::ds=>Nat.beq k b&&xB aa (b+1) ds
 |.b::aa,b,.b (.v k)::ds=>Nat.beq k b&&xB aa (b+1) ds
 |.l _ _ _::aa,b,.l k::ds=>Nat.beq k b&&xB aa (b+1) ds
 |_,_,_=>false
theorem mu:∀ {aa:List A} {st:List DV} {Uz:List DE} {b:Nat},nh aa st->(∀j,j<st.length->e (b+j)=st.getD j (.i 0))->xB aa b Uz=true->Uz.map (DE.af e)=st:=by
 intro aa;induction aa with
 | nil=>
   intro st Uz b h1 _ h3;cases st with
   | nil=>cases Uz with
     |nil=>rfl
     |cons d ds=>simp[xB]at h3
   |cons d ds=>exact h1.elim
 | cons a aa ih=>
   intro st Uz b h1 h2 h3;cases st with
   |nil=>exact h1.elim
   | cons d st=>
     have hd:e b=d:=h2 0 (by simp);have tl:∀j,j<st.length->e (b+1+j)=st.getD j (.i 0):=fun j hj=>by
       have:=h2 (j+1) (by simpa using hj);rw[show b+1+j=b+(j+1)by omega,this];rfl
     obtain⟨ha,hr⟩:=h1;cases a with
     | i lo hi=>
       cases d with
       | i n=>
         match Uz,h3 with
         | .i (.v k)::ds,h3=>
           simp only[xB,ao,Nat.beq_eq]at h3;obtain⟨rfl,h3⟩:=h3;rw[kQ,ih hr tl h3];simp only[DE.af,IE.af,hd,di]
       |_=>exact ha.elim
     | b=>
       cases d with
       | b n=>
         match Uz,h3 with
         | .b (.v k)::ds,h3=>
           simp only[xB,ao,Nat.beq_eq]at h3;obtain⟨rfl,h3⟩:=h3;rw[kQ,ih hr tl h3];simp only[DE.af,BE.af,hd,db]
       |_=>exact ha.elim
     | l x y z=>
       cases d with
       | l n=>
         match Uz,h3 with
         | .l k::ds,h3=>
           simp only[xB,ao,Nat.beq_eq]at h3;obtain⟨rfl,h3⟩:=h3;rw[kQ,ih hr tl h3];simp only[DE.af,hd,dl]
       |_=>exact ha.elim
     |t=>simp[xB]at h3
def FT:List DE:=[.i (.v 98),.i (.v 99),.i (.v 100),.l 101,.l 102,.i (.v 103),.i (.v 104),.i (.v 105),.i (.v 106),.i (.v 107),.i (.v 108),.i (.v 109),.i (.v 110),.i (.v 111),.i (.v 112),.l 113,.l 114,.i (.v 115),.i (.v 116),.i (.v 117),.i (.v 118),.i (.v 119),.i (.v 120),.i (.v 121),.i (.v 122),.i (.v 123),.i (.v 124),.i (.v 125),.i (.v 126),.i (.v 127),.i (.v 128),.i (.v 129),.i (.v 130),.i (.v 131),.i (.v 132),.i (.v 133),.i (.v 134),.i (.v 135),.i (.v 136),.i (.v 137),.i (.v 138),.i (.v 139),.i (.v 140),.i (.v 141),.i (.v 142),.i (.v 143),.i (.v 144),.b (.v 145),.b (.v 146),.b (.v 147),.b (.v 148),.b (.v 149),.b (.v 150),.i (.v 151),.i (.v 152),.i (.v 153),.i (.v 154),.b (.v 155),.b (.v 156),.i (.v 157),.l 158,.l 159,.i (.v 160),.b (.v 161),.b (.v 162),.i (.v 163),.i (.v 164),.i (.v 165),.i (.v 166),.i (.v 167),.i (.v 168),.i (.v 169),.b (.v 170),.i (.v 171),.b (.v 172),.i (.v 173),.i (.v 174),.b (.v 175),.b (.v 176),.b (.v 177),.i (.v 178),.i (.v 179),.i (.v 180),.i (.v 181),.b (.v 182),.i (.v 183),.b (.v 184),.b (.v 185),.i (.v 186),.i (.v 187),.b (.v 188),.b (.v 189),.b (.v 190),.b (.v 191)]
theorem Rj{R:List DV->Prop}{Ps:List (Int->Prop)}{ae:aF}{F:Nat->List DV->Prop}{id:Nat}{bM:List DE}{G:List DV->Prop}{vs:List DV}(e:bM.map (DE.af ae)=vs)(h:G vs):(aA.again id bM).ir E R Ps ae (kO F id G):=lA (by rw[e];exact h)
def BP(E:Nat->List DV->List DV->Prop)(l:List (List Int)):Nat->List DV->Prop
 |0,st=>E 23 [] st
 |i+1,bq=>∃st,BP E l i st/\E 24 (st++[.i (sK (l.getD i [])),.l (cn (l.getD i []))]) bq
def Rk(ds:List DV):Prop:=∃l:List (List Int),ds=[.l l]/\l.length<=1099511627776/\∀r∈l,Ld (sK r) (cn r)
def Yz(E:Nat->List DV->List DV->Prop)(ds rs:List DV):Prop:=gY rs/\∀l,ds=[.l l]->BP E l l.length rs
structure QM(E:Nat->List DV->List DV->Prop):Prop where
 new:∃rs,E 23 [] rs/\gY rs
 does:∀st op xs,gY st->Ld op xs->∃rs,E 24 (st++[.i op,.l xs]) rs/\gY rs
theorem o12(hD:QM E)(hp:Rk ds):t12.ir E (Yz E ds) [] (a8.au 0 ds) (fun _ _=>False):=by
 obtain⟨l,rfl,hl,hc⟩:=hp;unfold t12;refine jO (pre:=fun ds=>ds=[]) (rel:=fun _ rs=>gY rs) (fun ds h=>by subst h;exact hD.new) rfl ?_;intro cH hE0 hP0;have hl0:=hP0.len;refine mh (fun vs=>∃(i:Nat) (st:List DV),vs = .i i::st/\i<=l.length/\gY st/\BP E l i st) (fun| .i i::_=>((l.length:Int)-i).toNat|_=>0) ⟨0,cH,?_,by omega,hP0,hE0⟩ ?_;rw[kQ];congr 1;exact mu hP0.has (b:=2) (fun j hj=>ny hj) (by kernel_rfl);rintro _ ⟨i,st,rfl,hi,hP,hch⟩;have xH:=hP.len;obtain⟨e1,mS⟩:∃e1:aF,e1=((a8.au 0 [.l l]).au 2 cH).au 97 (.i i::st):=⟨_,rfl⟩;have g0:e1 0 = .l l:=by rw[mS,aF.aT (by omega),aF.aT (by omega)];rfl
 have g97:e1 97 = .i i:=by rw[mS];exact aF.eL (i:=0) rfl
 have Uy:∀j,j<st.length->e1 (98+j)=st.getD j (.i 0):=fun j hj=>by
   have:=ny (e:=(a8.au 0 [.l l]).au 2 cH) (b:=97) (ds:=.i i::st) (j:=j+1) (by simpa using hj);rw[mS,show 98+j=97+(j+1)by omega,this];rfl
 rw[<- mS];refine gQ (fun cM=>?_) (fun my=>?_);simp only[IE.af,g97,g0,di,dl]at cM;have hm:l.getD i []∈l:=by simp[List.getD,show i<l.length by omega]
 have Gp:=hc _ hm;refine qu (by simp only[IE.af,g97,di];omega) (jl (M:=cn (l.getD i [])) (by simp only[ew.af,IE.af,g97,g0,di,dl,pz];rfl) ?_);have e2:∀k,k<193->(e1.set 193 (.l (cn (l.getD i [])))) k=e1 k:=fun k hk=>by simp only[aF.set];rw[if_neg (by omega)]
 have key:=mu (e:=e1.set 193 (.l (cn (l.getD i [])))) (b:=98) (Uz:=FT) hP.has (fun j hj=>by rw[e2 _ (by omega)];exact Uy j hj) (by kernel_rfl);have last: [DE.i (.get 0 (.v 97) 0),DE.l 193].map (DE.af (e1.set 193 (.l (cn (l.getD i [])))))=[.i (sK (l.getD i [])),.l (cn (l.getD i []))]:=by
   simp only[List.map,DE.af,IE.af,e2 97 (by omega),e2 0 (by omega),g97,g0,di,dl];simp only[aF.set,if_true,dl];unfold cellAt sK;rw[pz]
 have hA:(FT++[DE.i (.get 0 (.v 97) 0),DE.l 193]).map (DE.af (e1.set 193 (.l (cn (l.getD i [])))))=st++[.i (sK (l.getD i [])),.l (cn (l.getD i []))]:=by rw[qI,key,last]
 refine jO (pre:=fun ds=>ds=(st++[DV.i (sK (l.getD i [])),DV.l (cn (l.getD i []))]:List DV)) (rel:=fun _ rs=>gY rs) (fun ds (h:ds=_)=>by rw[h];exact hD.does _ _ _ hP Gp) (show List.map _ (FT++[DE.i (.get 0 (.v 97) 0),DE.l 193])=_ from hA) ?_;intro rs hE hR;have hlr:=hR.len;obtain⟨e3,u9⟩:∃e3:aF,e3=(e1.set 193 (.l (cn (l.getD i [])))).au 195 rs:=⟨_,rfl⟩;have k97:e3 97 = .i i:=by
   rw[u9,aF.aT (by omega)];simp only[aF.set];rw[if_neg (by omega),g97]
 rw[<- u9];refine yF (by simp only[IE.af,k97,di];omega) (Rj (vs:=.i ((i+1:Nat):Int)::rs) ?_ ⟨⟨i+1,rs,rfl,by omega,hR,st,hch,?_⟩,?_⟩);rw[kQ];have h0:DE.af e3 (.i (.add (.v 97) (.c 1))) = .i ((i+1:Nat):Int):=by simp only[DE.af,IE.af,k97,di];rfl
 rw[h0];congr 1;exact mu hR.has (b:=195) (fun j hj=>by rw[u9];exact ny hj) (by kernel_rfl);have Qv:E 24 ((FT++[DE.i (.get 0 (.v 97) 0),DE.l 193]).map (DE.af (e1.set 193 (.l (cn (l.getD i [])))))) rs:=hE;rw[hA]at Qv;exact Qv;show((l.length:Int)-((i+1:Nat):Int)).toNat<((l.length:Int)-i).toNat;omega;simp only[IE.af,g97,g0,di,dl]at my;obtain rfl:i=l.length:=by omega
 refine eH (rs:=st) (mu hP.has (b:=98) Uy (by kernel_rfl)) ⟨hP,fun l' e=>?_⟩;cases e;exact hch
def Rl:List DE:=[.i (.v 3),.i (.v 4),.i (.v 5),.l 6,.l 7,.i (.v 8),.i (.v 9),.i (.v 10),.i (.v 11),.i (.v 12),.i (.v 13),.i (.v 14),.i (.v 15),.i (.v 16),.i (.v 17),.l 18,.l 19,.i (.v 20),.i (.v 21),.i (.v 22),.i (.v 23),.i (.v 24),.i (.v 25),.i (.v 26),.i (.v 27),.i (.v 28),.i (.v 29),.i (.v 30),.i (.v 31),.i (.v 32),.i (.v 33),.i (.v 34),.i (.v 35),.i (.v 36),.i (.v 37),.i (.v 38),.i (.v 39),.i (.v 40),.i (.v 41),.i (.v 42),.i (.v 43),.i (.v 44),.i (.v 45),.i (.v 46),.i (.v 47),.i (.v 48),.i (.v 49),.b (.v 50),.b (.v 51),.b (.v 52),.b (.v 53),.b (.v 54),.b (.v 55),.i (.v 56),.i (.v 57),.i (.v 58),.i (.v 59),.b (.v 60),.b (.v 61),.i (.v 62),.l 63,.l 64,.i (.v 65),.b (.v 66),.b (.v 67),.i (.v 68),.i (.v 69),.i (.v 70),.i (.v 71),.i (.v 72),.i (.v 73),.i (.v 74),.b (.v 75),.i (.v 76),.b (.v 77),.i (.v 78),.i (.v 79),.b (.v 80),.b (.v 81),.b (.v 82),.i (.v 83),.i (.v 84),.i (.v 85),.i (.v 86),.b (.v 87),.i (.v 88),.b (.v 89),.b (.v 90),.i (.v 91),.i (.v 92),.b (.v 93),.b (.v 94),.b (.v 95),.b (.v 96)]
def BQ:BE:=.and (.and (.and (.and (.v 61) (.le (.c 1) (.v 4))) (.le (.c 1) (.v 5))) (.eq (.len 6) (.mul (.v 4) (.v 5)))) (.eq (.len 7) (.len 6))
theorem V9{X:bY}{n:Nat}(h:nj (TT PP) X kc (ord.take n))(QT:23∈ord.take n)(N8:24∈ord.take n):QM (fun k=>cX (TT PP) X k) where
 new:=by
   obtain⟨rs,h1,h2⟩:=h 23 QT [] ⟨trivial,fun p hp=>by cases hp⟩;exact⟨rs,h1,Lb (by kernel_rfl) (by kernel_rfl) h2⟩
 does:=fun st op xs hP hc=>by
   obtain⟨rs,h1,h2⟩:=h 24 N8 _ (abe hP hc);exact⟨rs,h1,Lb rfl (by kernel_rfl) h2⟩
theorem BP.congr{E':Nat->List DV->List DV->Prop}(QT:∀ds rs,E 23 ds rs->E' 23 ds rs)(N8:∀ds rs,E 24 ds rs->E' 24 ds rs){l:List (List Int)}:∀ {i:Nat} {st:List DV},BP E l i st->BP E' l i st:=by
 intro i;induction i with
 |zero=>intro st h;exact QT _ _ h
 |succ i ih=>intro st h;obtain⟨lh,h1,h2⟩:=h;exact⟨lh,ih h1,N8 _ _ h2⟩
variable {X:bY}
theorem g12(hD:QM (fun k=>cX (TT PP) X k)):ng (TT PP) X 12 Rk (Yz (fun k=>cX (TT PP) X k)):=
 ng.weaken (mg T12 fun ds hp=>o12 (E:=fun g=>cX (TT PP) X ((iU.mk 12 t12 (rowOf 12).sub).key g)) ⟨hD.new,hD.does⟩ hp) (fun _ h=>h) (fun ds rs _ h=>⟨h.1,fun l e=>BP.congr (E:=fun g=>cX (TT PP) X ((iU.mk 12 t12 (rowOf 12).sub).key g)) (fun _ _ h=>h) (fun _ _ h=>h) (h.2 l e)⟩)
structure Good(E:Nat->List DV->List DV->Prop)(l:List (List Int))(st:List DV):Prop where
 ok:gY st
 run:E 12 [.l l] st
 alQ:pbool st 58=true
 w:1<=ve st 1
 h:1<=ve st 2
def HN(ds:List DV):Prop:=∃l:List (List Int),ds=[.l l]/\l.length<=9223372036854775807/\∀r∈l,(-9223372036854775808<=sK r/\sK r<=9223372036854775807)/\∀c∈cn r,-9223372036854775808<=c.getD 0 0/\c.getD 0 0<=9223372036854775807
def YA(E:Nat->List DV->List DV->Prop)(ds rs:List DV):Prop:=rs.length=95/\∃b,rs.getD 94 (.i 0) = .b b/\∀l,ds=[.l l]->b=true->Good E l (rs.take 94)
theorem o17(h27:∀ds,Rm ds->∃rs,E 27 ds rs/\HQ ds rs)(h12:∀ds,Rk ds->∃rs,E 12 ds rs/\gY rs)(hp:HN ds):t17.ir E (YA E ds) [] (a8.au 0 ds) (fun _ _=>False):=by
 obtain⟨l,rfl,hl,hc⟩:=hp;unfold t17;refine jO h27 ⟨l,40,100,rfl,hl⟩ ?_;rintro _ ant ⟨b,rfl,hb⟩;refine oZ (fun h=>?_) (fun h=>?_);exact XU ⟨rfl,false,rfl,fun _ _ h=>by cases h⟩;have h:b=true:=h;subst h;have hs:=hb l 40 100 rfl rfl;have Gp:∀r∈l,Ld (sK r) (cn r):=fun r hr=>⟨(hc r hr).1,(hs.2 r hr).1,(hc r hr).2,(hs.2 r hr).2⟩;refine jO (pre:=fun ds=>ds=[DV.l l]) (rel:=fun _ rs=>gY rs) (fun ds (h:ds=_)=>by rw[h];exact h12 _ ⟨l,rfl,by have:=hs.1;omega,Gp⟩) rfl ?_;intro st alR hP;have xH:=hP.len;obtain⟨e1,mS⟩:∃e1:aF,e1=((a8.au 0 [.l l]).au 2 [.b true]).au 3 st:=⟨_,rfl⟩;have Uy:∀j,j<94->e1 (3+j)=st.getD j (.i 0):=fun j hj=>by rw[mS];exact ny (by omega)
 have b1:0<=ve st 1/\ve st 1<=100:=by
   obtain⟨d,hd,ha⟩:=hP.has.at (i:=1) (a:=.i 0 100) (by kernel_rfl);unfold ve;simp only[cm,hd];cases d with
   |i n=>exact ha
   |_=>exact ha.elim
 have b2:0<=ve st 2/\ve st 2<=100:=by
   obtain⟨d,hd,ha⟩:=hP.has.at (i:=2) (a:=.i 0 100) (by kernel_rfl);unfold ve;simp only[cm,hd];cases d with
   |i n=>exact ha
   |_=>exact ha.elim
 have i4:(e1 4).int=ve st 1:=by rw[Uy 1 (by omega)];rfl
 have i5:(e1 5).int=ve st 2:=by rw[Uy 2 (by omega)];rfl
 have m1:=zQ b1.2 b2.2 b2.1 (by omega);have m0:=qJ b1.1 b2.1;rw[<- mS];refine iV ?_ ?_;show(!((BE.and _ _).af e1)||(r6 (.mul (.v 4) (.v 5))).af e1)=true;rw[nz (by simp only[IE.af,i4,i5];omega)];simp;have eK:=mu (e:=e1) (b:=3) (Uz:=Rl) hP.has (fun j hj=>Uy j (by omega)) (by kernel_rfl);have hv:(Rl++[DE.b BQ]).map (DE.af e1)=st++[.b (BQ.af e1)]:=by rw[qI,eK];rfl
 refine eH (rs:=st++[DV.b (BQ.af e1)]) (show List.map _ (Rl++[DE.b BQ])=_ from hv) ⟨by simp[xH],BQ.af e1,?_,fun l' e hc=>?_⟩;simp only[cm];rw[qv (by omega),xH];rfl;cases e;rw[Eo (by omega),qB (by omega)];have hc:(((((e1 61).bool&&decide (1<=(e1 4).int))&&decide (1<=(e1 5).int))&&_)&&_)=true:=hc;simp only[ao,aO]at hc;refine⟨hP,alR,?_,by rw[<- i4];exact hc.1.1.1.2,by rw[<- i5];exact hc.1.1.2⟩;have:(e1 61).bool=pbool st 58:=by rw[Uy 58 (by omega)];rfl
 rw[<- this];exact hc.1.1.1.1
theorem g17(hD:QM (fun k=>cX (TT PP) X k)):ng (TT PP) X 17 HN (YA (fun k=>cX (TT PP) X k)):=
 ng.weaken (mg T17 fun ds hp=>o17 (E:=fun g=>cX (TT PP) X ((iU.mk 17 t17 (rowOf 17).sub).key g)) g27 (fun ds h=>by obtain⟨rs,h1,h2⟩:=g12 hD ds h;exact⟨rs,h1,h2.1⟩) hp) (fun _ h=>h)
   (fun ds rs _ h=>⟨h.1,by obtain⟨b,h1,h2⟩:=h.2;exact⟨b,h1,fun l e hb=>by obtain⟨a1,a2,a3,a4,a5⟩:=h2 l e hb;exact⟨a1,a2,a3,a4,a5⟩⟩⟩)
end
section
open Go.Sx
variable{E:Nat->List DV->List DV->Prop}{ds:List DV}{l:List Int}
def t47:aA:=
.ite (.lt (.len 0) (.c 3)) (
.ret [.nil]) (
.ev (.aH (.le (.c 0) (.len 0))) (
.ev (.aH (.le (.len 0) (.c 140737488355328))) (
.ev (.b8 3 (.rep (.len 0) [0])) (
.loop 47005 [.l 3,.i (.c 0)] [.s 4 [.b],.c i6] 4 (
.ite (.lt (.v 5) (.len 0)) (
.ev (.aH (.le (.c 0) (.v 5))) (
.ev (.aH (.or (.not (.v 2)) (.le (.c 0) (.get 0 (.v 5) 0)))) (
.ev (.aH (.or (.not (.v 2)) (.lt (.get 0 (.v 5) 0) (.len 1)))) (
.ev (.aH (.lt (.v 5) (.len 4))) (
.ev (.b8 6 (.set 4 (.v 5) 0 (.inr (.or (.not (.v 2)) (.sM (.get 1 (.get 0 (.v 5) 0) 0)))))) (
.ev (.aH (r6 (.add (.v 5) (.c 1)))) (
.again 47005 [.l 6,.i (.add (.v 5) (.c 1))]))))))) (
.ret [.l 4]))))))
theorem T47:TT PP 47=some ⟨47,t47,(rowOf 47).sub⟩:=by kernel_rfl
def t44:aA:=
.ite (.lt (.len 0) (.c 3)) (
.ret [.nil]) (
.ev (.aH (.le (.c 0) (.len 0))) (
.ev (.aH (.le (.len 0) (.c 17592186044416))) (
.ev (.b8 1 (.rep (.len 0) [0])) (
.loop 44005 [.i (.c 0),.l 1] [.c i6,.s 3 [i6]] 2 (
.ite (.lt (.v 2) (.len 1)) (
.ev (.aH (.le (.c 0) (.v 2))) (
.ev (.aH (.lt (.v 2) (.len 3))) (
.ev (.b8 4 (.set 3 (.v 2) 0 (.inl (.v 2)))) (
.ev (.aH (r6 (.add (.v 2) (.c 1)))) (
.again 44005 [.i (.add (.v 2) (.c 1)),.l 4]))))) (
.ev (.call 47 (.c true) [.l 3,.l 0,.b (.c true)] [.one (.s 4 [.b])] 4) (
.ev (.b8 5 (.Eu [[.s 3,.s 4,.c (.inl (.c 0))]])) (
.ret [.l 5]))))))))
theorem T44:TT PP 44=some ⟨44,t44,(rowOf 44).sub⟩:=by kernel_rfl
variable {X:bY}
def JD(l:List Int):Prop:=∀x∈l,x=0\/x=1
def BR(ds:List DV):Prop:=∃(V:List Int) (F:List (List Int)) (b:Bool),ds=[.l (fh V),.l F,.b b]/\V.length<=256/\(b=true->∀x∈V,0<=x/\x<F.length)
def BS(ds rs:List DV):Prop:=∃E:List Int,rs=[.l (fh E)]/\JD E/\∀V F b,ds=[.l (fh V),.l F,.b b]->(V.length<3->E=[])/\(3<=V.length->E.length=V.length)
theorem HT{a b:List Int}(h:fh a=fh b):a=b:=by
 have:=congrArg (List.map fun r:List Int=>r.getD 0 0) h;simpa[fh,List.map_map,Function.comp_def]using this
theorem o47(hp:BR ds):t47.ir E (BS ds) [] (a8.au 0 ds) (fun _ _=>False):=by
 obtain⟨V,F,b,rfl,hV,hb⟩:=hp;unfold t47;refine gQ (fun h=>?_) (fun h=>?_);simp[IE.af,DV.list,aF.au,aF.set,dW]at h;refine eH (rs:=[.l (fh [])]) (by simp[DE.af,fh]) ⟨[],rfl,(fun x hx=>by cases hx),?_⟩;intro V' F' b' e;simp only[List.cons.injEq,DV.l.injEq]at e;have:=HT e.1;subst this;exact⟨fun _=>rfl,fun h'=>by omega⟩;simp[IE.af,DV.list,aF.au,aF.set,dW]at h;refine qu (by simp[IE.af,DV.list,aF.au,aF.set,dW]) ?_;refine qu (by simp[IE.af,DV.list,aF.au,aF.set,dW];omega) ?_;refine jl (M:=fh (List.replicate V.length 0)) (by simp[ew.af,IE.af,DV.list,aF.au,aF.set,dW,BT]) ?_;refine mh (fun ds=>∃(E:List Int) (i:Int),ds=[.l (fh E),.i i]/\E.length=V.length/\JD E/\0<=i/\i<=V.length) (fun| [_,.i i]=>((V.length:Int)-i).toNat|_=>0)
   ⟨List.replicate V.length 0,0,by simp[DE.af,IE.af,DV.list,aF.au,aF.set],by simp,fun x hx=>.inl (List.eq_of_mem_replicate hx),by omega,by omega⟩ ?_
 rintro _ ⟨E,i,rfl,hE,h01,sA,hi⟩;refine gQ (fun h1=>?_) (fun h1=>?_);simp[IE.af,DV.int,DV.list,aF.au,aF.set,dW]at h1;refine qu (by simp[IE.af,DV.int,aF.au,aF.set];omega) ?_;have hm:=By (l:=V) sA h1;have hx:V.getD i.toNat 0∈V:=Bz (by omega);refine iV ?_ (iV ?_ ?_);cases b with
 |false=>simp[BE.af,DV.bool,aF.au,aF.set]
 |true=>simp[BE.af,IE.af,DV.int,DV.list,DV.bool,aF.au,aF.set,hm];have:=hb rfl _ hx;simpa using this.1
 cases b with
 |false=>simp[BE.af,DV.bool,aF.au,aF.set]
 |true=>simp[BE.af,IE.af,DV.int,DV.list,DV.bool,aF.au,aF.set,hm];have:=hb rfl _ hx;simpa using this.2
 refine NA (by simp[IE.af,DV.int,DV.list,aF.au,aF.set,dW,hE];omega) ?_;refine jl (M:=fh (E.set i.toNat (if(!b||decide (cellAt F (V.getD i.toNat 0) 0≠0))=true then 1 else 0))) (by simp[ew.af,cg,BE.af,IE.af,DV.int,DV.list,DV.bool,aF.au,aF.set,hm,xC]) ?_;refine yF (by simp[IE.af,DV.int,aF.au,aF.set];omega) (lA ⟨⟨E.set i.toNat (if(!b||decide (cellAt F (V.getD i.toNat 0) 0≠0))=true then 1 else 0),i+1,by simp[DE.af,IE.af,DV.int,DV.list,aF.au,aF.set],by simp[hE],?_,by omega,by omega⟩,?_⟩);intro x hx;rcases List.mem_or_eq_of_mem_set hx with hx|rfl;exact h01 x hx;split;exact .inr rfl;exact .inl rfl;simp[DE.af,IE.af,DV.int,aF.au,aF.set];omega;simp[IE.af,DV.int,DV.list,aF.au,aF.set,dW]at h1;refine eH (rs:=[.l (fh E)]) (by simp[DE.af,aF.au,aF.set,DV.list]) ⟨E,rfl,h01,?_⟩;intro V' F' b' e;simp only[List.cons.injEq,DV.l.injEq]at e;have:=HT e.1;subst this;exact⟨fun h'=>by omega,fun _=>hE⟩
def va(V E:List Int)(p:Int):List Int:=(V.length:Int)::(E.length:Int)::p::(V++E)
def ud(m:Int)(n:Nat)(r:List Int):Prop:=∃(V E:List Int) (p:Int),r=va V E p/\1<=V.length/\V.length<=256/\(∀x∈V,0<=x/\x<n)/\0<=p/\p<n/\JD E/\(V.length<3->E=[])/\(3<=V.length->E.length=V.length)/\(4<=m->3<=V.length)/\(m<=3->V.length<=2)
def Qx(ds:List DV):Prop:=∃(m:Int) (F:List (List Int)) (b:Bool),ds=[.i m,.l F,.b b]/\F.length<=256
def Hs(ds rs:List DV):Prop:=∃(L:List (List Int)) (e:Int),rs=[.l L,.i e]/\L.length<=256/\(0<=e/\e<=12)/\∀m F b,ds=[.i m,.l F,.b b]->∀r∈L,ud m F.length r
def Rn(ds:List DV):Prop:=∃F:List (List Int),ds=[.l F]/\F.length<=256
def Ro(ds rs:List DV):Prop:=∃L:List (List Int),rs=[.l L]/\L.length<=1/\∀F,ds=[.l F]->∀r∈L,ud 9 F.length r
theorem HU:(fh l).map (fun r=>r.getD 0 0)=l:=by simp[fh,List.map_map,Function.comp_def]
theorem o44(CQ:∀ds,BR ds->∃rs,E 47 ds rs/\BS ds rs)(hp:Rn ds):t44.ir E (Ro ds) [] (a8.au 0 ds) (fun _ _=>False):=by
 obtain⟨F,rfl,hF⟩:=hp;unfold t44;refine gQ (fun h=>?_) (fun h=>?_);exact eH (rs:=[.l []]) (by simp[DE.af]) ⟨[],rfl,by simp,fun _ _ r hr=>by cases hr⟩;simp[IE.af,DV.list,aF.au,aF.set]at h;refine qu (by simp[IE.af,DV.list,aF.au,aF.set]) ?_;refine qu (by simp[IE.af,DV.list,aF.au,aF.set];omega) ?_;refine jl (M:=fh (List.replicate F.length 0)) (by simp[ew.af,IE.af,DV.list,aF.au,aF.set,BT]) ?_;refine mh (fun ds=>∃(V:List Int) (i:Int),ds=[.i i,.l (fh V)]/\V.length=F.length/\(∀x∈V,0<=x/\x<F.length)/\0<=i/\i<=F.length) (fun| [.i i,_]=>((F.length:Int)-i).toNat|_=>0)
   ⟨List.replicate F.length 0,0,by simp[DE.af,IE.af,DV.list,aF.au,aF.set],by simp,fun x hx=>by rw[List.eq_of_mem_replicate hx];omega,by omega,by omega⟩ ?_
 rintro _ ⟨V,i,rfl,hV,hx,sA,hi⟩;refine gQ (fun h1=>?_) (fun h1=>?_);simp[IE.af,DV.int,DV.list,aF.au,aF.set,dW]at h1;refine qu (by simp[IE.af,DV.int,aF.au,aF.set];omega) ?_;refine NA (by simp[IE.af,DV.int,DV.list,aF.au,aF.set,dW];omega) ?_;refine jl (M:=fh (V.set i.toNat i)) (by simp[ew.af,cg,IE.af,DV.int,DV.list,aF.au,aF.set,xC]) ?_;refine yF (by simp[IE.af,DV.int,aF.au,aF.set];omega) (lA ⟨⟨V.set i.toNat i,i+1,by simp[DE.af,IE.af,DV.int,DV.list,aF.au,aF.set],by simp[hV],?_,by omega,by omega⟩,?_⟩);intro x hm;rcases List.mem_or_eq_of_mem_set hm with hm|rfl;exact hx x hm;omega;simp[DE.af,IE.af,DV.int,aF.au,aF.set];omega;refine jO CQ ⟨V,F,true,by simp[DE.af,BE.af,DV.list,aF.au,aF.set],by omega,fun _=>hx⟩ ?_;rintro _ _ ⟨E',rfl,h01,hE⟩;have hE:=hE V F true (by simp[DE.af,BE.af,DV.list,aF.au,aF.set]);refine jl (M:=[va V E' 0]) (by simp[ew.af,cN.head,cN.tail,cg,IE.af,DV.int,DV.list,aF.au,aF.set,dW,va,<- List.getD_eq_getElem?_getD,HU]) ?_;refine eH (rs:=[.l [va V E' 0]]) (by simp[DE.af,DV.list,aF.au,aF.set]) ⟨_,rfl,by simp,?_⟩;intro F' e r hr;cases e;rw[iE]at hr;exact⟨V,E',0,hr,by omega,by omega,hx,by omega,by omega,h01,hE.1,hE.2,fun _=>by omega,fun h=>by omega⟩
def NB:List (List Int):=[[0],[0,1],[0,1],[0,1],[0,1,2],[0,1,2],[1,0,2],[0,1,2],[0,1,2,3],[0,1,3,2]]
def abg(l:List Int):ew:=.lit (l.map fun n=>[.inl (.c n)])
def Le(b:Nat):List (List Int)->aA->aA
 | [],t=>t
 |l::ls,t=>.ev (.b8 b (abg l)) (Le (b+1) ls t)
theorem WM{ae:aF}:(abg l).af ae=fh l:=by
 simp[abg,ew.af,fh,cg,IE.af,Function.comp_def]
def DY(ae:aF)(b:Nat):List (List Int)->aF
 | []=>ae
 |l::ls=>DY (ae.set b (.l (fh l))) (b+1) ls
section
variable {E:Nat->List DV->List DV->Prop}{R:List DV->Prop}{Ps:List (Int->Prop)}{F:Nat->List DV->Prop}{t t':aA}
theorem JE:∀ {ls:List (List Int)} {b:Nat} {ae:aF},t.ir E R Ps (DY ae b ls) F->(Le b ls t).ir E R Ps ae F
 | [],_,_,h=>h
 |l::ls,b,ae,h=>jl WM (JE (ls:=ls) h)
end
def UA(s:Int):IE:=if s=1 then .v 18 else .mul (.c s) (.v 18)
def BU(k:Nat)(s:Int):aA:=Le 3 NB (.ite (.lt (.v 1) (.len k)) (.ret [.i (.c 0)])
 (ns [r6 (.sub (.v 1) (.len k)),r6 (.tdiv (.sub (.v 1) (.len k)) (.c s)),r6 (.add (.tdiv (.sub (.v 1) (.len k)) (.c s)) (.c 1))] (.ret [.i (.add (.tdiv (.sub (.v 1) (.len k)) (.c s)) (.c 1))])))
def chain(b:aA):List (Int×aA)->aA
 | []=>b
 |(m,t)::r=>.ite (.eq (.v 0) (.c m)) t (chain b r)
def t46:aA:=.ite (.or (.or (.or (.lt (.v 0) (.c 0)) (.lt (.c 9) (.v 0))) (.lt (.v 1) (.c 1))) (.lt (.c 256) (.v 1))) (.ret [.i (.c 0)])
 (.ite (.eq (.v 0) (.c 9)) (.ev (.aH (r6 (.tdiv (.v 1) (.c 3)))) (.ret [.i (.min (.tdiv (.v 1) (.c 3)) (.c 1))]))
 (.ite (.eq (.v 0) (.c 3)) (.ite (.eq (.v 1) (.c 1)) (.ret [.i (.c 0)]) (.ret [.i (.v 1)]))
 (chain (.stuck "") [(0,BU 3 1),(1,BU 4 2),(2,BU 5 1),(3,BU 6 1),(4,BU 7 3),(5,BU 8 1),(6,BU 10 1),(7,BU 11 4),(8,BU 12 2)])))
def wz(m:Int):Int×Int:=if m=0 then(1,1)else if m=1 then(2,2)else if m=2 then(1,2)else if m=3 then(1,1)else if m=4 then(3,3)else if m=5 then(1,3)else if m=6 then(1,3)else if m=7 then(4,4)else if m=8 then(2,4)else(3,3)
def Lg(ds:List DV):Prop:=∃m n:Int,ds=[.i m,.i n]/\0<=m/\m<=9/\0<=n/\n<=256
def HV(ds rs:List DV):Prop:=∃c:Int,rs=[.i c]/\0<=c/\c<=256/\∀m n,ds=[.i m,.i n]->0<c->(wz m).1*(c-1)+(wz m).2<=n
theorem o46(hp:Lg ds):t46.ir E (HV ds) [] (a8.au 0 ds) (fun _ _=>False):=by
 obtain⟨m,n,rfl,h0,h9,iO,hn⟩:=hp;have br:∀(k:Nat) (s:Int) (L:Nat),1<=s->(wz m)=(s,(L:Int))->(((DY (a8.au 0 [.i m,.i n]) 3 NB) k).list.length=L)->1<=L->(BU k s).ir E (HV [.i m,.i n]) [] (a8.au 0 [.i m,.i n]) (fun _ _=>False):=by
   intro k s L hs hp hk hL;unfold BU;have e1:((DY (a8.au 0 [.i m,.i n]) 3 NB) 1).int=n:=rfl;refine JE (gQ (fun h=>?_) (fun h=>?_));exact eH (rs:=[.i 0]) rfl ⟨0,rfl,by omega,by omega,fun _ _ _ h=>by omega⟩;simp only[IE.af,e1,hk]at h;have Cc:0<=(n-(L:Int)).tdiv s:=Int.tdiv_nonneg (by omega) (by omega);have Aa:(n-(L:Int)).tdiv s*s<=n-L:=by rw[Ey (by omega)];exact Int.ediv_mul_le _ (by omega)
   have hd2:(n-(L:Int)).tdiv s<=n-L:=by rw[Ey (by omega)];exact Int.ediv_le_self _ (by omega)
   refine JF ?_ (eH (rs:=[.i ((n-(L:Int)).tdiv s+1)]) (by simp only[List.map,DE.af,IE.af,e1,hk]) ⟨_,rfl,by omega,by omega,?_⟩);intro p hp;simp only[bC,gu,or_false]at hp;rcases hp with rfl|rfl|rfl<;>refine nz ?_<;>simp only[IE.af,e1,hk]<;>omega;intro m' n' e _;cases e;rw[hp];show s*_+(L:Int)<=_;have:s*((n-(L:Int)).tdiv s+1-1)=(n-(L:Int)).tdiv s*s:=by rw[Int.add_sub_cancel,mY]
   omega
 unfold t46;refine lU (fun h=>?_) (fun h=>?_);exact eH (rs:=[.i 0]) rfl ⟨0,rfl,by omega,by omega,fun _ _ _ h=>by omega⟩;have gn:1<=n:=by
   simp[BE.af,IE.af,DV.int,aF.au,aF.set]at h;omega
 refine eM (fun h9'=>?_) (fun h9'=>?_);simp[IE.af,DV.int,aF.au,aF.set]at h9';subst h9';have Cc:0<=n.tdiv 3:=Int.tdiv_nonneg (by omega) (by omega);have Aa:n.tdiv 3*3<=n:=by rw[Ey (by omega)];exact Int.ediv_mul_le _ (by omega)
 refine yF (by simp[IE.af,DV.int,aF.au,aF.set];omega) (eH (rs:=[.i (min (n.tdiv 3) 1)]) (by simp[DE.af,IE.af,DV.int,aF.au,aF.set]) ⟨_,rfl,by omega,by omega,?_⟩);intro m' n' e hc;cases e;show 3*_+3<=n;omega;refine eM (fun h3=>?_) (fun h3=>?_);simp[IE.af,DV.int,aF.au,aF.set]at h3;subst h3;refine eM (fun h1=>?_) (fun h1=>?_);exact eH (rs:=[.i 0]) rfl ⟨0,rfl,by omega,by omega,fun _ _ _ h=>by omega⟩;refine eH (rs:=[.i n]) (by simp[DE.af,IE.af,DV.int,aF.au,aF.set]) ⟨_,rfl,by omega,by omega,?_⟩;intro m' n' e hc;cases e;show 1*_+1<=n;omega;simp[IE.af,DV.int,aF.au,aF.set]at h9' h3;refine eM (fun e=>?_) (fun e0=>?_);have e:m=0:=e;subst e;exact br 3 1 1 (by omega) rfl rfl (by omega);refine eM (fun e=>?_) (fun e1=>?_);have e:m=1:=e;subst e;exact br 4 2 2 (by omega) rfl rfl (by omega);refine eM (fun e=>?_) (fun e2=>?_);have e:m=2:=e;subst e;exact br 5 1 2 (by omega) rfl rfl (by omega);refine eM (fun e=>absurd (show m=3 from e) h3) (fun _=>?_);refine eM (fun e=>?_) (fun e4=>?_);have e:m=4:=e;subst e;exact br 7 3 3 (by omega) rfl rfl (by omega);refine eM (fun e=>?_) (fun e5=>?_);have e:m=5:=e;subst e;exact br 8 1 3 (by omega) rfl rfl (by omega);refine eM (fun e=>?_) (fun e6=>?_);have e:m=6:=e;subst e;exact br 10 1 3 (by omega) rfl rfl (by omega);refine eM (fun e=>?_) (fun e7=>?_);have e:m=7:=e;subst e;exact br 11 4 4 (by omega) rfl rfl (by omega);refine eM (fun e=>?_) (fun e8=>?_);have e:m=8:=e;subst e;exact br 12 2 4 (by omega) rfl rfl (by omega);have e0:m≠0:=e0;have e1:m≠1:=e1;have e2:m≠2:=e2;have e4:m≠4:=e4;have e5:m≠5:=e5;have e6:m≠6:=e6;have e7:m≠7:=e7;have e8:m≠8:=e8;omega
theorem T46:TT PP 46=some ⟨46,t46,(rowOf 46).sub⟩:=by kernel_rfl
end
section
open Go.Sx
def WN(k:Nat)(s:IE)(tail:aA):aA:=
 .ev (.aH (.le (.c 0) (.len k))) (.ev (.aH (.le (.len k) (.c 17592186044416))) (.ev (.b8 19 (.rep (.len k) [0])) (.loop 30017 [.i (.c 0),.l 19] [.c i6,.s 3 [i6]] 20 (.ite (.lt (.v 20) (.len k))
   (ns [.le (.c 0) (.v 20),r6 s,r6 (.add s (.get k (.v 20) 0)),.sM (.max (.len 1) (.c 1)),.lt (.v 20) (.len 21)]
     (.ev (.b8 22 (.set 21 (.v 20) 0 (.inl (.tmod (.add s (.get k (.v 20) 0)) (.max (.len 1) (.c 1)))))) (.ev (.aH (r6 (.add (.v 20) (.c 1)))) (.again 30017 [.i (.add (.v 20) (.c 1)),.l 22]))))
   tail))))
def Lh(v e q:Nat)(x:IE):aA:=.ev (.b8 q (.Eu [[.s v,.s e,.c (.inl x)]])) (.ev (.aH (.le (.add (.len 17) (.len q)) (.c 2513169434916))) (.ev (.b8 (q+1) (.app 17 q)) (.ev (.aH (r6 (.add (.v 18) (.c 1)))) (.again 30010 [.l (q+1),.i (.add (.v 18) (.c 1))]))))
def Li(v e q:Nat)(fl:Bool)(l0 l1:List BE)(first last:IE):aA:=
 ns l0 (.ev (.call 47 (.c true) [.l v,.l 1,.b (.c fl)] [.one (.s 4 [.b])] e) (.ite (.v 2) (ns l1 (Lh v e q first)) (Lh v e q last)))
def x30(s:Int)(d:Int):IE:=if d=0 then UA s else .add (UA s) (.c d)
def Rp(k:Nat)(s d:Int)(fl:Bool):aA:=WN k (UA s) (Li 21 2582 8727 fl ((if d=0 then [r6 (UA s)]else [r6 (UA s),r6 (x30 s d)])++[.sM (.len 1)]) [r6 (UA s)] (UA s) (.tmod (x30 s d) (.len 1)))
def abh:aA:=WN 11 (.v 18) (ns [.lt (.c 0) (.len 21)] (.ev (.b8 22 (.set 21 (.c 0) 0 (.inl (.c 0)))) (Li 22 2583 8728 false [r6 (.v 18),r6 (.add (.v 18) (.c 2)),.sM (.len 1)] [r6 (.v 18),r6 (.add (.v 18) (.c 1))] (.add (.v 18) (.c 1)) (.tmod (.add (.v 18) (.c 2)) (.len 1)))))
def JB(m:Int)(b:aA):Int×aA:=(m,Le 4 NB (.ev (.call 46 (.c true) [.i (.c m),.i (.len 1)] [oI] 16) (.loop 30010 [.nil,.i (.c 0)] [.n 104 [.s 3 i6,.s 4 .b,.c i6],.c i6] 17 (.ite (.lt (.v 18) (.v 16)) b (.ret [.l 17,.i (.c 0)])))))
def t30:aA:=.ite (.or (.lt (.v 0) (.c 0)) (.lt (.c 9) (.v 0))) (.ret [.nil,.i (.c 1)])
 (.ite (.lt (.c 256) (.len 1)) (.ret [.nil,.i (.c 8)])
 (.ite (.eq (.v 0) (.c 9)) (.ev (.call 44 (.c true) [.l 1] [.one (.n 104 [.s 3 i6,.s 4 .b,.c i6])] 3) (.ret [.l 3,.i (.c 0)]))
 (chain (.stuck "") [JB 0 (Rp 4 1 0 false),JB 1 (Rp 5 2 1 false),JB 2 (Rp 6 1 1 false),JB 3 (Rp 7 1 1 false),JB 4 (Rp 8 3 2 true),
   JB 5 (ns [.or (.not (.eq (.tmod (.v 18) (.c 2)) (.c 1))) (.lt (.c 0) (.len 10))] (.ite (.eq (.tmod (.v 18) (.c 2)) (.c 1)) (Rp 10 1 2 false) (Rp 9 1 2 false))),
   JB 6 abh,JB 7 (Rp 12 4 3 true),JB 8 (Rp 13 2 3 false)])))
theorem T30:TT PP 30=some ⟨30,t30,(rowOf 30).sub⟩:=by kernel_rfl
end
section
open Go.Sx
section
variable {E:Nat->List DV->List DV->Prop}{R:List DV->Prop}{Ps:List (Int->Prop)}{F:Nat->List DV->Prop}{G:List DV->Prop}
theorem Rq{k:Nat}{s:IE}{tail:aA}{ae:aF}{K:List Int}{S:Int}{n:Nat}(hk:(ae k).list=fh K)(alT:k<19)(hK:∀x∈K,0<=x/\x<=3)(hKl:K.length<=4)(hn:(ae 1).list.length=n)(iO:1<=n)
   (hs:∀e':aF,(∀m,m<19->e' m=ae m)->s.af e'=S) (hS0:0<=S) (hS:S<=2000)
   (ht:∀(e':aF) (V:List Int) (G':List DV->Prop),(∀m,m<19->e' m=ae m)->e' 21 = .l (fh V)->V.length=K.length->(∀x∈V,0<=x/\x<n)->tail.ir E R Ps e' (kO F 30017 G')) :
   (WN k s tail).ir E R Ps ae F:=by
 unfold WN;refine qu (by simp[IE.af,hk,dW]) (qu (by simp[IE.af,hk,dW];omega) (jl (M:=fh (List.replicate K.length 0)) (by simp[ew.af,IE.af,hk,dW,BT]) ?_));refine mh (fun ds=>∃(V:List Int) (i:Int),ds=[.i i,.l (fh V)]/\V.length=K.length/\(∀x∈V,0<=x/\x<n)/\0<=i/\i<=K.length) (fun| [.i i,_]=>((K.length:Int)-i).toNat|_=>0)
   ⟨List.replicate K.length 0,0,by simp[DE.af,IE.af,DV.list,aF.set],by simp,fun x hx=>by rw[List.eq_of_mem_replicate hx];omega,by omega,by omega⟩ ?_
 rintro _ ⟨V,i,rfl,hV,hx,sA,hi⟩;obtain⟨e1,mS⟩:∃e1:aF,e1=(ae.set 19 (.l (fh (List.replicate K.length 0)))).au 20 [.i i,.l (fh V)]:=⟨_,rfl⟩;have bQ:∀m,m<19->e1 m=ae m:=fun m hm=>by
   subst mS;simp only[aF.au,aF.set];rw[if_neg (by omega),if_neg (by omega),if_neg (by omega)]
 have Oa:e1 20 = .i i:=by subst mS;rfl
 have h21:e1 21 = .l (fh V):=by subst mS;rfl
 rw[<- mS];have h1:(e1 1).list.length=n:=by rw[bQ 1 (by omega),hn]
 have dH:(e1 k).list=fh K:=by rw[bQ k alT,hk]
 refine gQ (fun cM=>?_) (fun _=>ht _ V _ bQ h21 hV hx);simp only[IE.af,Oa,di,dH,dW]at cM;have hg:cellAt (fh K) i 0=K.getD i.toNat 0:=By sA cM;have hc:=hK _ (Bz (l:=K) (i:=i.toNat) (by omega));have hd:∀e':aF,(∀m,m<22->e' m=e1 m)->s.af e'=S:=fun e' h=>hs e' fun m hm=>by rw[h m (by omega),bQ m hm]
 have Ud:max (n:Int) 1=n:=by omega
 refine JF ?_ (jl (M:=fh (V.set i.toNat ((S+K.getD i.toNat 0).tmod n))) ?_ (yF ?_ (lA ⟨⟨_,i+1,by simp[DE.af,IE.af,di,dl,aF.set,Oa];rfl,by simp[hV],?_,by omega,by omega⟩,?_⟩)));intro p hp;simp only[bC,gu,or_false]at hp;rcases hp with rfl|rfl|rfl|rfl|rfl;exact ja (by simp only[IE.af,Oa,di];omega);exact nz (by rw[hd e1 fun _ _=>rfl];omega);exact nz (by simp only[IE.af,Oa,di,dH,hg,hd e1 fun _ _=>rfl];omega);exact ja (by simp only[IE.af,h1,Ud];omega);exact ja (by simp only[IE.af,Oa,h21,di,dl,dW];omega);simp only[ew.af,cg,IE.af,Oa,h21,di,dl,dH,hg,hd e1 fun _ _=>rfl,h1,Ud,xC];simp only[IE.af,aF.set,Oa,di];simp[Oa,di];omega;intro x hm;rcases List.mem_or_eq_of_mem_set hm with hm|rfl;exact hx x hm;have a0:0<=S+K.getD i.toNat 0:=by omega
 have a1:=Int.tmod_nonneg (n:Int) a0;have a2:=Int.tmod_lt_of_pos (S+K.getD i.toNat 0) (show(0:Int)<n by omega);exact⟨a1,a2⟩;simp[DE.af,IE.af,aF.set,Oa,di];omega
theorem Lj(CQ:∀ds,BR ds->∃rs,E 47 ds rs/\BS ds rs){v e q:Nat}{fl:Bool}{l0 l1:List BE}{first last:IE}{ae:aF}{V:List Int}{Fl out:List (List Int)}{m i a b:Int}{G G':List DV->Prop}
   (hve:v<e) (he:23<=e) (hq:e<q) (hv:ae v = .l (fh V)) (h1:ae 1 = .l Fl) (hV1:1<=V.length) (hV4:V.length<=4) (hV:∀x∈V,0<=x/\x<Fl.length)
   (hl0:∀p∈l0,p.af ae=true) (C6:∀e':aF,(∀k,k<22->e' k=ae k)->∀p∈l1,p.af e'=true)
   (hf:∀e':aF,(∀k,k<22->e' k=ae k)->first.af e'=a) (ha:0<=a/\a<Fl.length) (nC:∀e':aF,(∀k,k<22->e' k=ae k)->last.af e'=b) (hb:0<=b/\b<Fl.length)
   (vY:ae 17 = .l out) (hol:(out.length:Int)<=i) (hi:ae 18 = .i i) (sA:0<=i) (J2:i<=255) (hm4:4<=m->3<=V.length) (hm3:m<=3->V.length<=2)
   (hG:∀r,ud m Fl.length r->G [.l (out++[r]),.i (i+1)]):(Li v e q fl l0 l1 first last).ir E R Ps ae (kO (kO F 30010 G) 30017 G'):=by
 unfold Li;refine JF hl0 (jO CQ ⟨V,Fl,fl,by simp only[List.map,DE.af,BE.af,hv,h1,dl],by omega,fun _=>hV⟩ ?_);rintro _ _ ⟨E',rfl,h01,hE⟩;have hE:=hE V Fl fl (by simp only[List.map,DE.af,BE.af,hv,h1,dl]);obtain⟨e1,mS⟩:∃e1:aF,e1=ae.au e [.l (fh E')]:=⟨_,rfl⟩;rw[<- mS];have bQ:∀k,k<e->e1 k=ae k:=fun k hk=>by
   subst mS;simp only[aF.au,aF.set];rw[if_neg (by omega)]
 have h1e:e1 e = .l (fh E'):=by subst mS;simp[aF.au,aF.set]
 have jW:∀k,k<22->e1 k=ae k:=fun k hk=>bQ k (by omega);have one:∀(x:IE) (c:Int),(∀e':aF,(∀k,k<22->e' k=ae k)->x.af e'=c)->0<=c->c<Fl.length->(Lh v e q x).ir E R Ps e1 (kO (kO F 30010 G) 30017 G'):=by
   intro x c hx v8 uu;unfold Lh;refine jl (M:=[va V E' c]) (by simp only[ew.af,List.map,cN.head,cN.tail,cg,bQ v hve,h1e,hv,dl,hx e1 jW,dW,va,List.flatMap_cons,List.flatMap_nil,HU,vM,sR,nM]) ?_;have g17:(e1.set q (.l [va V E' c])) 17 = .l out:=by simp only[aF.set];rw[if_neg (by omega),jW 17 (by omega),vY]
   have gq:(e1.set q (.l [va V E' c])) q = .l [va V E' c]:=by simp[aF.set]
   refine qu (by simp only[IE.af,g17,gq,dl];simp;omega) (jl (M:=out++[va V E' c]) (by simp only[ew.af,g17,gq,dl]) ?_);have WO:∀M M',((e1.set q (.l M)).set (q+1) (.l M')) 18 = .i i:=fun M M'=>by simp only[aF.set];rw[if_neg (by omega),if_neg (by omega),jW 18 (by omega),hi]
   refine yF (by simp only[IE.af,WO,di];omega) (HO rfl ?_);have:=hG _ ⟨V,E',c,rfl,hV1,by omega,hV,v8,uu,h01,hE.1,hE.2,hm4,hm3⟩;simp only[List.map,DE.af,IE.af,WO,di];simpa[aF.set,dl]using this
 refine lU (fun _=>JF (C6 e1 jW) (one _ _ hf ha.1 ha.2)) (fun _=>one _ _ nC hb.1 hb.2)
end
theorem uP{e:aF}{s i:Int}(h:e 18 = .i i):(UA s).af e=s*i:=by
 unfold UA;split;rename_i h1;subst h1;simp only[IE.af,h,di];omega;simp only[IE.af,h,di]
theorem Lk{e:aF}{s d i:Int}(h:e 18 = .i i):(x30 s d).af e=s*i+d:=by
 unfold x30;split;rename_i h1;subst h1;rw[uP h];omega;simp only[IE.af,uP h]
structure abi(m0:Int)(F:List (List Int))(b:Bool)(e:aF)(out:List (List Int))(i c:Int)(G:List DV->Prop):Prop where
 ko:∀k,k<16->e k=(DY (a8.au 0 [.i m0,.l F,.b b]) 4 NB) k
 e17:e 17 = .l out
 e18:e 18 = .i i
 len:(out.length:Int)<=i
 i0:0<=i
 ic:i<c
 afp:c<=256
 afq:(wz m0).1*(c-1)+(wz m0).2<=F.length
 more:∀r,ud m0 F.length r->G [.l (out++[r]),.i (i+1)]
section
variable {E:Nat->List DV->List DV->Prop}{R:List DV->Prop}{F0:Nat->List DV->Prop}
variable{F:List (List Int)}{G:List DV->Prop}{c:Int}{e:aF}{m0:Int}{out:List (List Int)}
theorem xD(CQ:∀ds,BR ds->∃rs,E 47 ds rs/\BS ds rs){k:Nat}{s d i:Int}{fl b:Bool}{K:List Int}(h:abi m0 F b e out i c G)(hk:(DY (a8.au 0 [.i m0,.l F,.b b]) 4 NB) k = .l (fh K))(alU:k<16)
   (hK:∀x∈K,0<=x/\x<=3) (hK1:1<=K.length) (hK4:K.length<=4) (hs:(wz m0).1=s) (F9:1<=s) (hs4:s<=4) (hL:1<=(wz m0).2) (Cc:0<=d) (hd:d<=3) (h4:4<=m0->3<=K.length) (h3:m0<=3->K.length<=2) :
   (Rp k s d fl).ir E R [] e (kO F0 30010 G):=by
 have h1:e 1 = .l F:=h.ko 1 (by omega);have hp:=h.afq;rw[hs]at hp;have sA:=h.i0;have hic:=h.ic;have hc:=h.afp;have e1:s*i<=s*(c-1):=oK (by omega) (by omega);have e0:0<=s*i:=qJ (by omega) sA;have e2:s*i<=4*255:=zQ hs4 (by omega) sA (by omega);have hn:s*i<F.length:=by omega
 unfold Rp;refine Rq (K:=K) (S:=s*i) (n:=F.length) (by rw[h.ko k alU,hk];rfl) (by omega) hK hK4 (by rw[h1];rfl) (by omega) (fun e' he=>uP (by rw[he 18 (by omega)];exact h.e18)) e0 (by omega) ?_;intro e' V G' bQ hv hVl hV;have g18:e' 18 = .i i:=by rw[bQ 18 (by omega)];exact h.e18
 have g1:e' 1 = .l F:=by rw[bQ 1 (by omega)];exact h1
 have t0:=Int.tmod_nonneg (F.length:Int) (show 0<=s*i+d by omega);have t1:=Int.tmod_lt_of_pos (s*i+d) (show(0:Int)<F.length by omega);refine Lj (m:=m0) (i:=i) (a:=s*i) (b:=(s*i+d).tmod F.length) CQ (by omega) (by omega) (by omega) hv g1 (by omega) (by omega) hV ?_ ?_ ?_ ⟨e0,hn⟩ ?_ ⟨t0,t1⟩ (by rw[bQ 17 (by omega)];exact h.e17) h.len g18 sA (by omega) (fun q=>by have:=h4 q;omega) (fun q=>by have:=h3 q;omega) h.more;intro p hp;have n0:(BE.sM (.len 1)).af e'=true:=ja (by simp only[IE.af,g1,dl];omega);have r0:(r6 (UA s)).af e'=true:=nz (by rw[uP g18];omega);have r1:(r6 (x30 s d)).af e'=true:=nz (by rw[Lk g18];omega);split at hp<;>simp at hp<;>rcases hp with rfl|rfl|rfl<;>assumption;intro e2 nY p hp;simp only[iE]at hp;subst hp;exact nz (by rw[uP (by rw[nY 18 (by omega)];exact g18)];omega);intro e2 nY;exact uP (by rw[nY 18 (by omega)];exact g18);intro e2 nY;simp only[IE.af,Lk (show e2 18 = .i i by rw[nY 18 (by omega)];exact g18),nY 1 (by omega),g1,dl]
theorem abj(CQ:∀ds,BR ds->∃rs,E 47 ds rs/\BS ds rs){i:Int}{b:Bool}(h:abi 6 F b e out i c G):abh.ir E R [] e (kO F0 30010 G):=by
 have h1:e 1 = .l F:=h.ko 1 (by omega);have hp:1*(c-1)+3<=(F.length:Int):=h.afq;have sA:=h.i0;have hic:=h.ic;have hc:=h.afp;unfold abh;refine Rq (K:=[0,1,2]) (S:=i) (n:=F.length) (by rw[h.ko 11 (by omega)];rfl) (by omega) (by decide) (by decide) (by rw[h1];rfl) (by omega) (fun e' he=>by simp only[IE.af,he 18 (by omega),h.e18,di]) sA (by omega) ?_;intro e' V G' bQ hv hVl hV;have hVl:V.length=3:=hVl;have g18:e' 18 = .i i:=by rw[bQ 18 (by omega)];exact h.e18
 have g1:e' 1 = .l F:=by rw[bQ 1 (by omega)];exact h1
 refine JF (fun p hp=>?_) (jl (M:=fh (V.set 0 0)) ?_ ?_);simp only[iE]at hp;subst hp;exact ja (by simp only[IE.af,hv,dl,dW];omega);simp only[ew.af,cg,IE.af,hv,dl];exact xC;have s1:∀k,k<22->(e'.set 22 (.l (fh (V.set 0 0)))) k=e' k:=fun k hk=>by simp only[aF.set];rw[if_neg (by omega)]
 have WO:(e'.set 22 (.l (fh (V.set 0 0)))) 18 = .i i:=by rw[s1 18 (by omega)];exact g18
 have k1:(e'.set 22 (.l (fh (V.set 0 0)))) 1 = .l F:=by rw[s1 1 (by omega)];exact g1
 have t0:=Int.tmod_nonneg (F.length:Int) (show 0<=i+2 by omega);have t1:=Int.tmod_lt_of_pos (i+2) (show(0:Int)<F.length by omega);refine Lj (V:=V.set 0 0) (m:=6) (i:=i) (a:=i+1) (b:=(i+2).tmod F.length) CQ (by omega) (by omega) (by omega) (by simp[aF.set]) k1 (by simp;omega) (by simp;omega) ?_ ?_ ?_ ?_ ⟨by omega,by omega⟩ ?_ ⟨t0,t1⟩ (by rw[s1 17 (by omega),bQ 17 (by omega)];exact h.e17) h.len WO sA (by omega) (fun _=>by simp;omega) (fun q=>by omega) h.more;intro x hx;rcases List.mem_or_eq_of_mem_set hx with hx|rfl;exact hV x hx;omega;intro p hp;simp only[bC,gu,or_false]at hp;rcases hp with rfl|rfl|rfl;exact nz (by simp only[IE.af,WO,di];omega);exact nz (by simp only[IE.af,WO,di];omega);exact ja (by simp only[IE.af,k1,dl];omega);intro e2 nY p hp;have z18:e2 18 = .i i:=by rw[nY 18 (by omega)];exact WO
 simp only[bC,gu,or_false]at hp;rcases hp with rfl|rfl<;>exact nz (by simp only[IE.af,z18,di];omega);intro e2 nY;simp only[IE.af,nY 18 (by omega),WO,di];intro e2 nY;simp only[IE.af,nY 18 (by omega),nY 1 (by omega),WO,k1,di,dl]
theorem xE(La:∀ds,Lg ds->∃rs,E 46 ds rs/\HV ds rs){b:Bool}{B:aA}(h0:0<=m0)(h9:m0<=9)(hF:F.length<=256)
   (hB:∀(e:aF) (out:List (List Int)) (i c:Int) (G:List DV->Prop),abi m0 F b e out i c G->B.ir E (Hs [.i m0,.l F,.b b]) [] e (kO F0 30010 G)) :
   (JB m0 B).2.ir E (Hs [.i m0,.l F,.b b]) [] (a8.au 0 [.i m0,.l F,.b b]) F0:=by
 unfold JB;refine JE (jO La ⟨m0,F.length,rfl,h0,h9,by omega,by omega⟩ ?_);rintro _ _ ⟨c,rfl,v8,hc,H'⟩;have H':=H' m0 F.length rfl;refine mh (fun ds=>∃(out:List (List Int)) (i:Int),ds=[.l out,.i i]/\(out.length:Int)<=i/\0<=i/\i<=c/\∀r∈out,ud m0 F.length r) (fun| [_,.i i]=>(c-i).toNat|_=>0)
   ⟨[],0,rfl,by simp,by omega,by omega,fun r hr=>by cases hr⟩ ?_
 rintro _ ⟨out,i,rfl,hol,sA,hic,iA⟩;refine gQ (fun cM=>?_) (fun my=>?_);have cM:i<c:=cM;refine hB _ out i c _ ⟨?_,rfl,rfl,hol,sA,cM,hc,H' (by omega),?_⟩;intro k hk;simp only[aF.au,aF.set];rw[if_neg (by omega),if_neg (by omega),if_neg (by omega)];intro r hr;refine⟨⟨out++[r],i+1,rfl,by simp;omega,by omega,by omega,fun r' dj=>?_⟩,?_⟩;rcases jS.1 dj with dj|dj;exact iA r' dj;rw[iE]at dj;subst dj;exact hr;show(c-(i+1)).toNat<(c-i).toNat;omega;exact eH (rs:=[.l out,.i 0]) rfl ⟨out,0,rfl,by omega,by omega,fun m' F' b' e r hr=>by cases e;exact iA r hr⟩
theorem o30(h44:∀ds,Rn ds->∃rs,E 44 ds rs/\Ro ds rs)(La:∀ds,Lg ds->∃rs,E 46 ds rs/\HV ds rs)(CQ:∀ds,BR ds->∃rs,E 47 ds rs/\BS ds rs){ds:List DV}(hp:Qx ds):t30.ir E (Hs ds) [] (a8.au 0 ds) F0:=by
 obtain⟨m,F,b,rfl,hF⟩:=hp;unfold t30;refine lU (fun h=>?_) (fun h=>?_);exact eH (rs:=[.l [],.i 1]) rfl ⟨[],1,rfl,by simp,by omega,fun _ _ _ _ r hr=>by cases hr⟩;have hm:0<=m/\m<=9:=by
   simp[BE.af,IE.af,DV.int,aF.au,aF.set]at h;omega
 refine gQ (fun _=>?_) (fun _=>?_);exact eH (rs:=[.l [],.i 8]) rfl ⟨[],8,rfl,by simp,by omega,fun _ _ _ _ r hr=>by cases hr⟩;refine eM (fun e=>?_) (fun e9=>?_);have e:m=9:=e;subst e;refine jO h44 ⟨F,rfl,hF⟩ ?_;rintro _ _ ⟨L,rfl,hL,iA⟩;exact eH (rs:=[.l L,.i 0]) rfl ⟨L,0,rfl,by omega,by omega,fun m' F' b' e r hr=>by cases e;exact iA F rfl r hr⟩;refine eM (fun e=>?_) (fun e0=>?_);have e:m=0:=e;subst e;exact xE La (by omega) (by omega) hF fun e out i c G h=>xD CQ (K:=[0]) h rfl (by omega) (by decide) (by decide) (by decide) rfl (by omega) (by omega) (by decide) (by omega) (by omega) (by omega) (by decide);refine eM (fun e=>?_) (fun e1=>?_);have e:m=1:=e;subst e;exact xE La (by omega) (by omega) hF fun e out i c G h=>xD CQ (K:=[0,1]) h rfl (by omega) (by decide) (by decide) (by decide) rfl (by omega) (by omega) (by decide) (by omega) (by omega) (by omega) (by decide);refine eM (fun e=>?_) (fun e2=>?_);have e:m=2:=e;subst e;exact xE La (by omega) (by omega) hF fun e out i c G h=>xD CQ (K:=[0,1]) h rfl (by omega) (by decide) (by decide) (by decide) rfl (by omega) (by omega) (by decide) (by omega) (by omega) (by omega) (by decide);refine eM (fun e=>?_) (fun e3=>?_);have e:m=3:=e;subst e;exact xE La (by omega) (by omega) hF fun e out i c G h=>xD CQ (K:=[0,1]) h rfl (by omega) (by decide) (by decide) (by decide) rfl (by omega) (by omega) (by decide) (by omega) (by omega) (by omega) (by decide);refine eM (fun e=>?_) (fun e4=>?_);have e:m=4:=e;subst e;exact xE La (by omega) (by omega) hF fun e out i c G h=>xD CQ (K:=[0,1,2]) h rfl (by omega) (by decide) (by decide) (by decide) rfl (by omega) (by omega) (by decide) (by omega) (by omega) (by decide) (by omega);refine eM (fun e=>?_) (fun e5=>?_);have e:m=5:=e;subst e;refine xE La (by omega) (by omega) hF fun e out i c G h=>JF (fun p hp=>?_) (lU (fun _=>?_) (fun _=>?_));simp only[iE]at hp;subst hp;have:e 10 = .l (fh [1,0,2]):=h.ko 10 (by omega);simp[BE.af,IE.af,this,dl,fh];exact xD CQ (K:=[1,0,2]) h rfl (by omega) (by decide) (by decide) (by decide) rfl (by omega) (by omega) (by decide) (by omega) (by omega) (by decide) (by omega);exact xD CQ (K:=[0,1,2]) h rfl (by omega) (by decide) (by decide) (by decide) rfl (by omega) (by omega) (by decide) (by omega) (by omega) (by decide) (by omega);refine eM (fun e=>?_) (fun e6=>?_);have e:m=6:=e;subst e;exact xE La (by omega) (by omega) hF fun e out i c G h=>abj CQ h;refine eM (fun e=>?_) (fun e7=>?_);have e:m=7:=e;subst e;exact xE La (by omega) (by omega) hF fun e out i c G h=>xD CQ (K:=[0,1,2,3]) h rfl (by omega) (by decide) (by decide) (by decide) rfl (by omega) (by omega) (by decide) (by omega) (by omega) (by decide) (by omega);refine eM (fun e=>?_) (fun e8=>?_);have e:m=8:=e;subst e;exact xE La (by omega) (by omega) hF fun e out i c G h=>xD CQ (K:=[0,1,3,2]) h rfl (by omega) (by decide) (by decide) (by decide) rfl (by omega) (by omega) (by decide) (by omega) (by omega) (by decide) (by omega);have e0:m≠0:=e0;have e1:m≠1:=e1;have e2:m≠2:=e2;have e3:m≠3:=e3;have e4:m≠4:=e4;have e5:m≠5:=e5;have e6:m≠6:=e6;have e7:m≠7:=e7;have e8:m≠8:=e8;have e9:m≠9:=e9;omega
end
variable {X:bY}
theorem g47:ng (TT PP) X 47 BR BS:=mg T47 fun ds hp=>o47 hp
theorem g44:ng (TT PP) X 44 Rn Ro:=mg T44 fun ds hp=>o44 g47 hp
theorem g46:ng (TT PP) X 46 Lg HV:=mg T46 fun ds hp=>o46 hp
theorem Ys:ng (TT PP) X 30 Qx Hs:=mg T30 fun ds hp=>o30 g44 g46 g47 hp
end
section
open Go.Sx Go
def t57:aA:=
.ev (.call 80 (.c true) [.i (.v 0)] [.one (.s 146 [i6,i6]),oB] 3) (
.ite (.not (.v 4)) (
.ret [.i (.c 5)]) (
.ite (.not (.eq (.len 3) (.len 1))) (
.ret [.i (.c 1)]) (
.loop 57007 [.i (.c 0),.i (.c 0)] [.c i6,.c i6] 5 (
.ite (.lt (.v 6) (.len 1)) (
.ev (.aH (.le (.c 0) (.v 6))) (
.ev (.aH (.lt (.v 6) (.len 3))) (
.ite (.or (.lt (.get 1 (.v 6) 0) (.get 3 (.v 6) 0)) (.lt (.get 3 (.v 6) 1) (.get 1 (.v 6) 0))) (
.ret [.i (.c 4)]) (
.ev (.aH (r6 (.add (.v 6) (.c 1)))) (
.again 57007 [.i (.v 5),.i (.add (.v 6) (.c 1))]))))) (
.ret [.i (.c 0)])))))
theorem T57:TT PP 57=some ⟨57,t57,(rowOf 57).sub⟩:=by kernel_rfl
variable {X:bY}
theorem alV:ev (TT PP) X 40 80 [.i 1]=some [.l [[1,1024],[1,1024]],.b true]:=by kernel_rfl
def YE(ds:List DV):Prop:=ds=[.i 1]
def YF(ds rs:List DV):Prop:=rs=[.l [[1,1024],[1,1024]],.b true]
theorem alW:ng (TT PP) X 80 YE YF:=fun ds hp=>by
 obtain rfl:ds=[.i 1]:=hp;exact⟨_,⟨40,alV⟩,rfl⟩
theorem o57{E:Nat->List DV->List DV->Prop}(h80:∀ds,YE ds->∃rs,E 80 ds rs/\YF ds rs){ds:List DV}(hp:HR ds):t57.ir E (HS ds) [] (a8.au 0 ds) (fun _ _=>False):=by
 obtain⟨xs,rfl,hx⟩:=hp;unfold t57;refine jO h80 rfl ?_;rintro _ _ rfl;refine oZ (fun h=>?_) (fun _=>?_);have:true=false:=h;cases this;refine oZ (fun h=>?_) (fun h=>?_);have h:¬ ((2:Int)=xs.length):=Dc h;refine eH (rs:=[.i 1]) rfl ⟨1,rfl,by omega,fun ys e=>?_⟩;cases e;exact⟨fun h=>by omega,fun hs=>absurd (by rw[hs.1];rfl) h⟩;have h:(2:Int)=xs.length:=jY h;refine mh (fun ds=>∃q i:Int,ds=[.i q,.i i]/\0<=i/\i<=2/\(1<=i->1<=cellAt xs 0 0/\cellAt xs 0 0<=1024)/\(2<=i->1<=cellAt xs 1 0/\cellAt xs 1 0<=1024)) (fun| [_,.i i]=>(2-i).toNat|_=>0)
   ⟨0,0,rfl,by omega,by omega,fun h=>by omega,fun h=>by omega⟩ ?_
 rintro _ ⟨q,i,rfl,sA,P4,h0,h1⟩;refine gQ (fun cM=>?_) (fun my=>?_);have cM:i<(xs.length:Int):=cM;refine qu (show(0:Int)<=i from sA) (NA (show i<(2:Int)by omega) ?_);have hc:cellAt [[1,1024],[1,1024]] i 0=1/\cellAt [[1,1024],[1,1024]] i 1=1024:=by
   obtain rfl|rfl:i=0\/i=1:=by omega
   exact⟨rfl,rfl⟩;exact⟨rfl,rfl⟩
 refine lU (fun hb=>?_) (fun hb=>?_);have hb:(decide (cellAt xs i 0<cellAt [[1,1024],[1,1024]] i 0)||decide (cellAt [[1,1024],[1,1024]] i 1<cellAt xs i 0))=true:=hb;rw[hc.1,hc.2,hZ,aO,aO]at hb;refine eH (rs:=[.i 4]) rfl ⟨4,rfl,by omega,fun ys e=>?_⟩;cases e;refine⟨fun h=>by omega,fun hs=>?_⟩;obtain⟨_,s0,s1⟩:=hs;obtain rfl|rfl:i=0\/i=1:=by omega
 omega;omega;have hb:(decide (cellAt xs i 0<cellAt [[1,1024],[1,1024]] i 0)||decide (cellAt [[1,1024],[1,1024]] i 1<cellAt xs i 0))=false:=hb;rw[hc.1,hc.2,vF,sO,sO]at hb;refine yF (show(-9223372036854775808:Int)<=i+1/\i+1<=9223372036854775807 by omega) (lA ⟨⟨q,i+1,rfl,by omega,by omega,fun h=>?_,fun h=>?_⟩,?_⟩);rcases Int.lt_or_le 0 i with h5|h5;exact h0 (by omega);obtain rfl:i=0:=by omega
 omega;obtain rfl:i=1:=by omega
 omega;show(2-(i+1)).toNat<(2-i).toNat;omega;have my:(xs.length:Int)<=i:=my;refine eH (rs:=[.i 0]) rfl ⟨0,rfl,by omega,fun ys e=>?_⟩;cases e;exact⟨fun _=>⟨by omega,h0 (by omega),h1 (by omega)⟩,fun _=>rfl⟩
theorem alX:ng (TT PP) X 57 HR HS:=mg T57 fun ds hp=>o57 alW hp
end
section
open Go.Sx Go
variable {X:bY}
def w14:List (List Int):=[[0,255],[0,255],[0,255],[0,255]]
theorem afr:ev (TT PP) X 40 80 [.i 14]=some [.l [[0,255],[0,255],[0,255],[0,255]],.b true]:=by kernel_rfl
def Rr(ds:List DV):Prop:=ds=[.i 14]
def Rt(ds rs:List DV):Prop:=rs=[.l w14,.b true]
theorem alY:ng (TT PP) X 80 Rr Rt:=fun ds hp=>by
 obtain rfl:ds=[.i 14]:=hp;exact⟨_,⟨40,afr⟩,rfl⟩
def Ru(ds:List DV):Prop:=∃xs:List (List Int),ds=[.i 14,.l xs]/\xs.length<=40
def abk(xs:List (List Int))(n:Int):Prop:=∀j:Int,0<=j->j<n->cellAt w14 j 0<=cellAt xs j 0/\cellAt xs j 0<=cellAt w14 j 1
def Rv(ds rs:List DV):Prop:=∃e:Int,rs=[.i e]/\∀xs,ds=[.i 14,.l xs]->e=0->xs.length=4/\abk xs 4
theorem alZ{E:Nat->List DV->List DV->Prop}(h80:∀ds,Rr ds->∃rs,E 80 ds rs/\Rt ds rs){ds:List DV}(hp:Ru ds):t57.ir E (Rv ds) [] (a8.au 0 ds) (fun _ _=>False):=by
 obtain⟨xs,rfl,hx⟩:=hp;unfold t57;refine jO h80 rfl ?_;rintro _ _ rfl;refine oZ (fun h=>?_) (fun _=>?_);have:true=false:=h;cases this;refine oZ (fun h=>?_) (fun h=>?_);exact eH (rs:=[.i 1]) rfl ⟨1,rfl,fun ys e he=>by omega⟩;have h:(4:Int)=xs.length:=jY h;refine mh (fun ds=>∃q i:Int,ds=[.i q,.i i]/\0<=i/\i<=4/\abk xs i) (fun| [_,.i i]=>(4-i).toNat|_=>0)
   ⟨0,0,rfl,by omega,by omega,fun j h1 h2=>by omega⟩ ?_
 rintro _ ⟨q,i,rfl,sA,hi4,hI⟩;refine gQ (fun cM=>?_) (fun my=>?_);have cM:i<(xs.length:Int):=cM;refine qu (show(0:Int)<=i from sA) (NA (show i<(4:Int)by omega) ?_);refine lU (fun hb=>?_) (fun hb=>?_);exact eH (rs:=[.i 4]) rfl ⟨4,rfl,fun ys e he=>by omega⟩;have hb:(decide (cellAt xs i 0<cellAt w14 i 0)||decide (cellAt w14 i 1<cellAt xs i 0))=false:=hb;rw[vF,sO,sO]at hb;refine yF (show(-9223372036854775808:Int)<=i+1/\i+1<=9223372036854775807 by omega) (lA ⟨⟨q,i+1,rfl,by omega,by omega,fun j h1 h2=>?_⟩,?_⟩);by_cases hj:j<i;exact hI j h1 hj;obtain rfl:j=i:=by omega
 omega;show(4-(i+1)).toNat<(4-i).toNat;omega;have my:(xs.length:Int)<=i:=my;refine eH (rs:=[.i 0]) rfl ⟨0,rfl,fun ys e he=>?_⟩;cases e;exact⟨by omega,fun j h1 h2=>hI j h1 (by omega)⟩
theorem al0:ng (TT PP) X 57 Ru Rv:=mg T57 fun ds hp=>alZ alY hp
abbrev Ai:BE:=imp (.and (.eq (.v 0) (.c 14)) (.eq (rr 0) (.c 0))) (fb ((List.range 4).flatMap fun(j:Nat)=>mq 0 (.get 1 (.c j) 0) 255))
theorem HW{ae:aF}(m e:Int)(xs:List (List Int))(hm:ae 0 = .i m)(h0:ae R0 = .i e)(h1:ae 1 = .l xs)(h:m=14->e=0->xs.length=4/\abk xs 4):Ai.af ae=true:=by
 by_cases he:m=14/\e=0;obtain⟨s1,s2⟩:=h he.1 he.2;have k0:=s2 0 (by omega) (by omega);have k1:=s2 1 (by omega) (by omega);have k2:=s2 2 (by omega) (by omega);have k3:=s2 3 (by omega) (by omega);have k0:(0:Int)<=cellAt xs 0 0/\cellAt xs 0 0<=255:=k0;have k1:(0:Int)<=cellAt xs 1 0/\cellAt xs 1 0<=255:=k1;have k2:(0:Int)<=cellAt xs 2 0/\cellAt xs 2 0<=255:=k2;have k3:(0:Int)<=cellAt xs 3 0/\cellAt xs 3 0<=255:=k3;have e4:(List.range 4)=[0,1,2,3]:=rfl;simp[Ai,e4,imp,fb,mq,BE.af,IE.af,rr,hm,h0,h1,DV.int,DV.list,k0,k1,k2,k3];have:(decide (m=14)&&decide (e=0))=false:=by
   rw[OI,sO,sO];omega
 simp only[Ai,imp,BE.af,IE.af,rr,iy,h0,hm,DV.int,this,Bool.not_false,Bool.true_or]
end
section
open Go.Sx Go
abbrev RB(P:Program)(X:bY)(i k:Nat):Prop:=nj (TT P) X kc (ord.take i)->ng (TT P) X k (kc k).il (kc k).iK
theorem FU{k:Nat}(h:(kc k).pre.any (fun p=>p.beq (.c false))=true):∀ds,¬ (kc k).il ds:=fun ds hp=>by
 rw[la]at h;obtain⟨p,h1,h2⟩:=h;have e:=hp.2 _ h1;cases p<;>simp[BE.beq]at h2;subst h2;simp[BE.af]at e
variable {X:bY}
theorem ajf:RB PP X 19 47:=fun _ ds hp=>absurd hp (FU (by kernel_rfl) ds)
theorem ajg:RB PP X 20 44:=fun _ ds hp=>absurd hp (FU (by kernel_rfl) ds)
theorem ajk:RB PP X 160 12:=fun _ ds hp=>absurd hp (FU (by kernel_rfl) ds)
theorem ajo:RB PP X 174 17:=fun _ ds hp=>absurd hp (FU (by kernel_rfl) ds)
theorem amv:kc 30=⟨[.i mn mx,.l 0 (some 256) [],.b],[],[.l 0 (some 256) [(1,256),(0,256),(0,255)],.i mn mx],[]⟩:=by kernel_rfl
theorem ajh:RB PP X 22 30:=fun _=>by
 rw[amv];refine ng.weaken Ys (fun ds hp=>?_) (fun ds rs hp h=>?_);obtain⟨hp,_⟩:=hp
 match ds,hp with
 | [.i m,.l F,.b b],⟨_,⟨_,h2,_⟩,_⟩=>exact⟨m,F,b,rfl,by have:=h2 _ rfl;omega⟩
 obtain⟨hp,_⟩:=hp
 match ds,hp with
 | [.i m,.l F,.b b],⟨_,⟨_,h2,_⟩,_⟩=>
   have hF:=h2 _ rfl;obtain⟨L,e,rfl,hL,he,cJ⟩:=h;refine⟨⟨⟨by omega,fun y hy=>?_,fun r hr=>?_⟩,⟨?_,?_⟩,trivial⟩,fun p hp=>by cases hp⟩;cases hy;omega;obtain⟨V,E,p,rfl,v1,v2,_,p1,p2,_,e1,e2,_⟩:=cJ m F b rfl r hr;have hE:(E.length:Int)<=256:=by
     rcases oH V.length 3 with h|h;rw[e1 h];decide;rw[e2 h];omega
   have hF':(F.length:Int)<=256:=hF;refine⟨⟨?_,?_⟩,⟨?_,?_⟩,⟨?_,?_⟩,trivial⟩<;>simp only[va,List.getD_cons_zero,List.getD_cons_succ]<;>omega;show mn<=e;unfold mn;omega;show e<=mx;unfold mx;omega
theorem amw:kc 27=⟨[.l 0 (some 1099511627776) [],.i mn mx,.i mn mx],[],[.b],[]⟩:=by kernel_rfl
theorem ajn:RB PP X 173 27:=fun _=>by
 rw[amw];refine ng.weaken g27 (fun ds hp=>?_) (fun ds rs hp h=>?_);obtain⟨hp,_⟩:=hp
 match ds,hp with
 | [.l F,.i m,.i q],⟨⟨_,h2,_⟩,_⟩=>exact⟨F,m,q,rfl,by have:=h2 _ rfl;omega⟩
 obtain⟨b,rfl,_⟩:=h;exact⟨⟨trivial,trivial⟩,fun p hp=>by cases hp⟩
theorem amx:kc 64=⟨[.i 1 1],[],[.l 2 (some 2) [(1,1),(1024,1024)],.b],[rb 1]⟩:=by kernel_rfl
theorem ajl:RB PP X 171 64:=fun _=>by
 rw[amx];refine ng.weaken g64 (fun ds hp=>?_) (fun ds rs hp h=>?_);obtain⟨hp,_⟩:=hp
 match ds,hp with
 | [.i m],⟨⟨h1,h2⟩,_⟩=>
   obtain rfl:m=1:=by omega
   rfl
 . obtain rfl:rs=_:=h;refine⟨⟨⟨by decide,fun y hy=>?_,fun r hr=>?_⟩,trivial,trivial⟩,fun p hp=>?_⟩;cases hy;decide
   . obtain rfl|rfl:r=[1,1024]\/r=[1,1024]:=by simpa using hr
     all_goals exact⟨⟨by decide,by decide⟩,⟨by decide,by decide⟩,trivial⟩
   obtain rfl:p=rb 1:=by simpa using hp
   show((gD ds [.l [[1,1024],[1,1024]],.b true]) (R0+1)).bool=true;rw[gD,ny (by decide)];rfl
def szE(l:Nat):BE:=imp (.eq (rr 0) (.c 0)) (fb (sb l))
theorem WT{ae:aF}(e:Int)(xs:List (List Int))(h0:ae R0 = .i e)(h1:ae 1 = .l xs)(h:e=0->Sz xs):(szE 1).af ae=true:=by
 by_cases he:e=0;obtain⟨s1,s2,s3⟩:=h he;have e1:((xs.length:Int)==2)=true:=by rw[s1];rfl
 simp[szE,imp,fb,sb,mq,BE.af,IE.af,rr,h0,h1,DV.int,DV.list,s1,s2,s3];simp[szE,imp,BE.af,IE.af,rr,h0,DV.int,he]
theorem amy:kc 40=⟨[.i 1 1,.l 0 (some 40) [(mn,mx)]],[],[.i 0 12],[szE 1]⟩:=by kernel_rfl
theorem ajm:RB PP X 172 40:=fun _=>by
 rw[amy];refine ng.weaken g40 (fun ds hp=>?_) (fun ds rs hp h=>?_);obtain⟨hp,_⟩:=hp
 match ds,hp with
 | [.i m,.l xs],⟨⟨h1,h2⟩,⟨_,h3,_⟩,_⟩=>
   obtain rfl:m=1:=by omega
   exact⟨xs,rfl,by have:=h3 _ rfl;omega⟩
 obtain⟨hp,_⟩:=hp
 match ds,hp with
 | [.i m,.l xs],⟨⟨h1,h2⟩,⟨_,h3,_⟩,_⟩=>
   obtain rfl:m=1:=by omega
   obtain⟨e,rfl,he,hz⟩:=h;refine⟨⟨he,trivial⟩,fun p hp=>?_⟩;obtain rfl:p=szE 1:=by simpa using hp
   refine WT e xs ?_ ?_ (hz xs rfl).1;have:=ny (e:=a8.au 0 [.i 1,.l xs]) (b:=R0) (j:=0) (ds:=[.i e]) (Nat.zero_lt_one);exact this;rw[gD,aF.aT (by unfold R0;omega)];exact fH (ds:=[.i 1,.l xs]) (j:=1) (Nat.lt_succ_self 1)
abbrev FV:BE:=imp (.and (.eq (.v 0) (.c 1)) (.eq (rr 0) (.c 0))) (fb (sb 1))
theorem afu:kc 57=⟨[.i mn mx,.l 0 (some 40) [(mn,mx)]],[],[.i 0 12],(bare 57 (kc 57)).post++[Ai,FV]⟩:=by kernel_rfl
theorem JH:bare 57 (kc 57)=⟨[.i mn mx,.l 0 (some 40) [(mn,mx)]],[],[.i 0 12],(bare 57 (kc 57)).post⟩:=by kernel_rfl
theorem p57:(zu (Vw kc (ord.take 130)) (iU.mk 57 t57 (rowOf 57).sub).key (an 57) (bare 57 (kc 57)) t57).isEmpty=true:=by kernel_rfl
theorem JI{ae:aF}(m e:Int)(xs:List (List Int))(hm:ae 0 = .i m)(h0:ae R0 = .i e)(h1:ae 1 = .l xs)(h:m=1->e=0->Sz xs):FV.af ae=true:=by
 by_cases he:m=1/\e=0;obtain⟨s1,s2,s3⟩:=h he.1 he.2;simp[FV,imp,fb,sb,mq,BE.af,IE.af,rr,hm,h0,h1,DV.int,DV.list,s1,s2,s3];have:(decide (m=1)&&decide (e=0))=false:=by
   rw[OI,sO,sO];omega
 simp only[FV,imp,BE.af,IE.af,rr,iy,h0,hm,DV.int,this,Bool.not_false,Bool.true_or]
theorem ajj:RB PP X 130 57:=fun hG=>by
 have hb:ng (TT PP) X 57 (bare 57 (kc 57)).il (bare 57 (kc 57)).iK:=KJ T57 (Je hG) (aB 57) (by rw[JH];decide) p57;intro ds hp;rw[afu]at hp;obtain⟨rs,g,hq⟩:=hb ds (by rw[JH];exact hp);refine⟨rs,g,?_⟩;rw[afu];rw[JH]at hq;obtain⟨q1,q2⟩:=hq;refine⟨q1,fun p xK=>?_⟩;rcases jS.1 xK with h|h;exact q2 p h;obtain⟨hp,_⟩:=hp
 match ds,hp,rs,q1,g with
 | [.i m,.l xs],⟨_,⟨_,h3,_⟩,_⟩,[.i e],_,g=>
   have e0:gD [.i m,.l xs] [.i e] 0 = .i m:=by
     rw[gD,aF.aT (by unfold R0;omega)];exact fH (ds:=[.i m,.l xs]) (j:=0) (Nat.zero_lt_succ 1)
   have e1:gD [.i m,.l xs] [.i e] R0 = .i e:=ny (e:=a8.au 0 [.i m,.l xs]) (b:=R0) (j:=0) (ds:=[.i e]) Nat.zero_lt_one;have e2:gD [.i m,.l xs] [.i e] 1 = .l xs:=by
     rw[gD,aF.aT (by unfold R0;omega)];exact fH (ds:=[.i m,.l xs]) (j:=1) (Nat.lt_succ_self 1)
   have hx:xs.length<=40:=by have:=h3 _ rfl;omega
   rcases bC.1 h with rfl|h;refine HW m e xs e0 e1 e2 fun hm he=>?_;subst hm;obtain⟨fw,g',e',rfl,hz⟩:=al0 (X:=X) [.i 14,.l xs] ⟨xs,rfl,hx⟩;have:=cX.Ut g g';cases this;exact hz xs rfl he;obtain rfl:=iE.1 h;refine JI m e xs e0 e1 e2 fun hm he=>?_;subst hm;obtain⟨fw,g',e',rfl,_,hz⟩:=alX (X:=X) [.i 1,.l xs] ⟨xs,rfl,hx⟩;have:=cX.Ut g g';cases this;exact(hz xs rfl).1 he
end
section
open Go.Sx Go
theorem afz:kc 241=⟨[.i 0 18446744073709551615,.i 0 18446744073709551615,.i 0 18446744073709551615],[.lt (.v 0) (.v 2)],[.i 0 18446744073709551615,.i 0 18446744073709551615],[]⟩:=by kernel_rfl
theorem adN{X:bY}(hX:X 283=yD):RB PP X 48 241:=fun _=>by
 rw[afz];intro ds hp;obtain⟨ha,hq⟩:=hp
 match ds,ha,hq with
 | [.i hi,.i lo,.i y],⟨⟨a0,a1⟩,⟨b0,b1⟩,⟨c0,c1⟩,_⟩,hq=>
   have cM:hi<y:=jY (hq _ (aZ ..));obtain⟨rs,g,h⟩:=adx hX [.i hi,.i lo,.i y] ⟨hi,lo,y,rfl,a0,cM,by omega,b0,by omega⟩;have h:=h hi lo y rfl;refine⟨rs,g,?_⟩;rw[show rs=_ from h];have n0:0<=hi*18446744073709551616+lo:=by omega
   have q0:=uW n0 (show 0<=y by omega);have q1:(hi*18446744073709551616+lo)/y<18446744073709551616:=Ez (by omega) (by omega);have r0:=zG (hi*18446744073709551616+lo) (show y≠0 by omega);have r1:=ym (hi*18446744073709551616+lo) (show 0<y by omega);exact⟨⟨⟨q0,by omega⟩,⟨r0,by omega⟩,trivial⟩,fun p hp=>by cases hp⟩
end
end Go.Proofs.YtohebioanhliiaaGreatDoor.aN

/- Functions shown by hand: Run, opened, Prims, Right. -/
import Derived.Test.YtohebioanhliiaaGreatDoorJC1
import Derived.Test.YtohebioanhliiaaGreatDoorJB2
set_option maxRecDepth 100000
set_option linter.unusedVariables false
set_option linter.unusedSimpArgs false
namespace Go.Proofs.YtohebioanhliiaaGreatDoor.aF
section
open Go.Sx
def t12:au:=
.ev (.call 23 (.c true) [] [.agg od] 2) (
.loop 12003 [.i (.c 0),.i (.v 2),.i (.v 3),.i (.v 4),.l 5,.l 6,.i (.v 7),.i (.v 8),.i (.v 9),.i (.v 10),.i (.v 11),.i (.v 12),.i (.v 13),.i (.v 14),.i (.v 15),.i (.v 16),.l 17,.l 18,.i (.v 19),.i (.v 20),.i (.v 21),.i (.v 22),.i (.v 23),.i (.v 24),.i (.v 25),.i (.v 26),.i (.v 27),.i (.v 28),.i (.v 29),.i (.v 30),.i (.v 31),.i (.v 32),.i (.v 33),.i (.v 34),.i (.v 35),.i (.v 36),.i (.v 37),.i (.v 38),.i (.v 39),.i (.v 40),.i (.v 41),.i (.v 42),.i (.v 43),.i (.v 44),.i (.v 45),.i (.v 46),.i (.v 47),.i (.v 48),.b (.v 49),.b (.v 50),.b (.v 51),.b (.v 52),.b (.v 53),.b (.v 54),.i (.v 55),.i (.v 56),.i (.v 57),.i (.v 58),.b (.v 59),.b (.v 60),.i (.v 61),.l 62,.l 63,.i (.v 64),.b (.v 65),.b (.v 66),.i (.v 67),.i (.v 68),.i (.v 69),.i (.v 70),.i (.v 71),.i (.v 72),.i (.v 73),.b (.v 74),.i (.v 75),.b (.v 76),.i (.v 77),.i (.v 78),.b (.v 79),.b (.v 80),.b (.v 81),.i (.v 82),.i (.v 83),.i (.v 84),.i (.v 85),.b (.v 86),.i (.v 87),.b (.v 88),.b (.v 89),.i (.v 90),.i (.v 91),.b (.v 92),.b (.v 93),.b (.v 94),.b (.v 95)] [.c i6,.c i6,.c i6,.c i6,.s 3 [i6],.s 3 [i6],.c i6,.c i6,.c i6,.c i6,.c i6,.c i6,.c i6,.c i6,.c i6,.c i6,.s 138 [i6,i6,i6,i6,i6,i6,i6,i6,i6,i6,i6,i6,i6,i6,i6,i6],.s 138 [i6,i6,i6,i6,i6,i6,i6,i6,i6,i6,i6,i6,i6,i6,i6,i6],.c i6,.c i6,.c i6,.c i6,.c i6,.c i6,.c i6,.c i6,.c i6,.c i6,.c i6,.c i6,.c i6,.c i6,.c i6,.c i6,.c i6,.c i6,.c i6,.c i6,.c i6,.c i6,.c i6,.c i6,.c i6,.c i6,.c i6,.c i6,.c i6,.c i6,.c (.b),.c (.b),.c (.b),.c (.b),.c (.b),.c (.b),.c i6,.c i6,.c i6,.c i6,.c (.b),.c (.b),.c i6,.s 76 fo,.s 4 [.b],.c i6,.c (.b),.c (.b),.c i6,.c i6,.c i6,.c i6,.c i6,.c i6,.c i6,.c (.b),.c i6,.c (.b),.c i6,.c i6,.c (.b),.c (.b),.c (.b),.c i6,.c i6,.c i6,.c i6,.c (.b),.c i6,.c (.b),.c (.b),.c i6,.c i6,.c (.b),.c (.b),.c (.b),.c (.b)] 97 (
.ite (.lt (.v 97) (.len 0)) (
.ev (.aG (.le (.c 0) (.v 97))) (
.ev (.bW 193 (.sub 0 (.v 97) [.c i6,.s 3 i6] 1)) (
.ev (.call 24 (.c true) [.i (.v 98),.i (.v 99),.i (.v 100),.l 101,.l 102,.i (.v 103),.i (.v 104),.i (.v 105),.i (.v 106),.i (.v 107),.i (.v 108),.i (.v 109),.i (.v 110),.i (.v 111),.i (.v 112),.l 113,.l 114,.i (.v 115),.i (.v 116),.i (.v 117),.i (.v 118),.i (.v 119),.i (.v 120),.i (.v 121),.i (.v 122),.i (.v 123),.i (.v 124),.i (.v 125),.i (.v 126),.i (.v 127),.i (.v 128),.i (.v 129),.i (.v 130),.i (.v 131),.i (.v 132),.i (.v 133),.i (.v 134),.i (.v 135),.i (.v 136),.i (.v 137),.i (.v 138),.i (.v 139),.i (.v 140),.i (.v 141),.i (.v 142),.i (.v 143),.i (.v 144),.b (.v 145),.b (.v 146),.b (.v 147),.b (.v 148),.b (.v 149),.b (.v 150),.i (.v 151),.i (.v 152),.i (.v 153),.i (.v 154),.b (.v 155),.b (.v 156),.i (.v 157),.l 158,.l 159,.i (.v 160),.b (.v 161),.b (.v 162),.i (.v 163),.i (.v 164),.i (.v 165),.i (.v 166),.i (.v 167),.i (.v 168),.i (.v 169),.b (.v 170),.i (.v 171),.b (.v 172),.i (.v 173),.i (.v 174),.b (.v 175),.b (.v 176),.b (.v 177),.i (.v 178),.i (.v 179),.i (.v 180),.i (.v 181),.b (.v 182),.i (.v 183),.b (.v 184),.b (.v 185),.i (.v 186),.i (.v 187),.b (.v 188),.b (.v 189),.b (.v 190),.b (.v 191),.i (.get 0 (.v 97) 0),.l 193] [.agg od] 195) (
.ev (.aG (r6 (.add (.v 97) (.c 1)))) (
.again 12003 [.i (.add (.v 97) (.c 1)),.i (.v 195),.i (.v 196),.i (.v 197),.l 198,.l 199,.i (.v 200),.i (.v 201),.i (.v 202),.i (.v 203),.i (.v 204),.i (.v 205),.i (.v 206),.i (.v 207),.i (.v 208),.i (.v 209),.l 210,.l 211,.i (.v 212),.i (.v 213),.i (.v 214),.i (.v 215),.i (.v 216),.i (.v 217),.i (.v 218),.i (.v 219),.i (.v 220),.i (.v 221),.i (.v 222),.i (.v 223),.i (.v 224),.i (.v 225),.i (.v 226),.i (.v 227),.i (.v 228),.i (.v 229),.i (.v 230),.i (.v 231),.i (.v 232),.i (.v 233),.i (.v 234),.i (.v 235),.i (.v 236),.i (.v 237),.i (.v 238),.i (.v 239),.i (.v 240),.i (.v 241),.b (.v 242),.b (.v 243),.b (.v 244),.b (.v 245),.b (.v 246),.b (.v 247),.i (.v 248),.i (.v 249),.i (.v 250),.i (.v 251),.b (.v 252),.b (.v 253),.i (.v 254),.l 255,.l 256,.i (.v 257),.b (.v 258),.b (.v 259),.i (.v 260),.i (.v 261),.i (.v 262),.i (.v 263),.i (.v 264),.i (.v 265),.i (.v 266),.b (.v 267),.i (.v 268),.b (.v 269),.i (.v 270),.i (.v 271),.b (.v 272),.b (.v 273),.b (.v 274),.i (.v 275),.i (.v 276),.i (.v 277),.i (.v 278),.b (.v 279),.i (.v 280),.b (.v 281),.b (.v 282),.i (.v 283),.i (.v 284),.b (.v 285),.b (.v 286),.b (.v 287),.b (.v 288)]))))) (
.ret ([.i (.v 98),.i (.v 99),.i (.v 100),.l 101,.l 102]++iv 103 10++[.l 113,.l 114]++iv 115 30++[.b (.v 145),.b (.v 146),.b (.v 147),.b (.v 148),.b (.v 149),.b (.v 150)]++iv 151 4++[.b (.v 155),.b (.v 156),.i (.v 157),.l 158,.l 159,.i (.v 160),.b (.v 161),.b (.v 162)]++iv 163 7++[.b (.v 170),.i (.v 171),.b (.v 172),.i (.v 173),.i (.v 174),.b (.v 175),.b (.v 176),.b (.v 177)]++iv 178 4++[.b (.v 182),.i (.v 183),.b (.v 184),.b (.v 185),.i (.v 186),.i (.v 187),.b (.v 188),.b (.v 189),.b (.v 190),.b (.v 191)]))))
theorem T12:TT Tryz.prog 12=some ⟨12,t12,(rowOf 12).sub⟩:=by kernel_rfl
def t17:au:=
.ev (.call 27 (.c true) [.l 0,.i (.c 40),.i (.c 100)] [oB] 2) (
.ite (.not (.v 2)) (
.ret [.i (.c 0),.i (.c 0),.i (.c 0),.nil,.nil,.i (.c 0),.i (.c 0),.i (.c 0),.i (.c 0),.i (.c 0),.i (.c 0),.i (.c 0),.i (.c 0),.i (.c 0),.i (.c 0),.nil,.nil,.i (.c 0),.i (.c 0),.i (.c 0),.i (.c 0),.i (.c 0),.i (.c 0),.i (.c 0),.i (.c 0),.i (.c 0),.i (.c 0),.i (.c 0),.i (.c 0),.i (.c 0),.i (.c 0),.i (.c 0),.i (.c 0),.i (.c 0),.i (.c 0),.i (.c 0),.i (.c 0),.i (.c 0),.i (.c 0),.i (.c 0),.i (.c 0),.i (.c 0),.i (.c 0),.i (.c 0),.i (.c 0),.i (.c 0),.i (.c 0),.b (.c false),.b (.c false),.b (.c false),.b (.c false),.b (.c false),.b (.c false),.i (.c 0),.i (.c 0),.i (.c 0),.i (.c 0),.b (.c false),.b (.c false),.i (.c 0),.nil,.nil,.i (.c 0),.b (.c false),.b (.c false),.i (.c 0),.i (.c 0),.i (.c 0),.i (.c 0),.i (.c 0),.i (.c 0),.i (.c 0),.b (.c false),.i (.c 0),.b (.c false),.i (.c 0),.i (.c 0),.b (.c false),.b (.c false),.b (.c false),.i (.c 0),.i (.c 0),.i (.c 0),.i (.c 0),.b (.c false),.i (.c 0),.b (.c false),.b (.c false),.i (.c 0),.i (.c 0),.b (.c false),.b (.c false),.b (.c false),.b (.c false),.b (.c false)]) (
.ev (.call 12 (.c true) [.l 0] [.agg od] 3) (
.ev (.aG (.or (.not (.and (.and (.v 61) (.le (.c 1) (.v 4))) (.le (.c 1) (.v 5)))) (r6 (.mul (.v 4) (.v 5))))) (
.ret [.i (.v 3),.i (.v 4),.i (.v 5),.l 6,.l 7,.i (.v 8),.i (.v 9),.i (.v 10),.i (.v 11),.i (.v 12),.i (.v 13),.i (.v 14),.i (.v 15),.i (.v 16),.i (.v 17),.l 18,.l 19,.i (.v 20),.i (.v 21),.i (.v 22),.i (.v 23),.i (.v 24),.i (.v 25),.i (.v 26),.i (.v 27),.i (.v 28),.i (.v 29),.i (.v 30),.i (.v 31),.i (.v 32),.i (.v 33),.i (.v 34),.i (.v 35),.i (.v 36),.i (.v 37),.i (.v 38),.i (.v 39),.i (.v 40),.i (.v 41),.i (.v 42),.i (.v 43),.i (.v 44),.i (.v 45),.i (.v 46),.i (.v 47),.i (.v 48),.i (.v 49),.b (.v 50),.b (.v 51),.b (.v 52),.b (.v 53),.b (.v 54),.b (.v 55),.i (.v 56),.i (.v 57),.i (.v 58),.i (.v 59),.b (.v 60),.b (.v 61),.i (.v 62),.l 63,.l 64,.i (.v 65),.b (.v 66),.b (.v 67),.i (.v 68),.i (.v 69),.i (.v 70),.i (.v 71),.i (.v 72),.i (.v 73),.i (.v 74),.b (.v 75),.i (.v 76),.b (.v 77),.i (.v 78),.i (.v 79),.b (.v 80),.b (.v 81),.b (.v 82),.i (.v 83),.i (.v 84),.i (.v 85),.i (.v 86),.b (.v 87),.i (.v 88),.b (.v 89),.b (.v 90),.i (.v 91),.i (.v 92),.b (.v 93),.b (.v 94),.b (.v 95),.b (.v 96),.b (.and (.and (.and (.and (.v 61) (.le (.c 1) (.v 4))) (.le (.c 1) (.v 5))) (.eq (.len 6) (.mul (.v 4) (.v 5)))) (.eq (.len 7) (.len 6)))]))))
theorem T17:TT Tryz.prog 17=some ⟨17,t17,(rowOf 17).sub⟩:=by kernel_rfl
def pA:List A:=(kc 24).res
theorem Qg:pA.length=94:=by kernel_rfl
def uj(st:List DV)(j:Nat):Int:=(st.getD j (.i 0)).int
def pbool(st:List DV)(j:Nat):Bool:=(st.getD j (.i 0)).bool
def uD(st:List DV)(j:Nat):List (List Int):=(st.getD j (.i 0)).list
structure fy(st:List DV):Prop where
 has:kO pA st
 c3:((uD st 3).length:Int)=uj st 1*uj st 2
 c4:((uD st 4).length:Int)=uj st 1*uj st 2
 c60:(uD st 60).length=(uD st 61).length
theorem fy.len{st:List DV}(h:fy st):st.length=94:=by rw[<- h.has.len,Qg]
theorem mz{ds:List DV}{b j:Nat}{e:az}(h:j<ds.length):e.av b ds (b+j)=ds.getD j (.i 0):=by
 have:=az.c8 (ae:=e) (k:=b) (ds:=ds) (i:=j) (dG h);rw[this];simp[List.getD,h]
theorem iD{ds:List DV}{j:Nat}(h:j<ds.length):aR.av 0 ds j=ds.getD j (.i 0):=by
 have:=mz (e:=aR) (b:=0) h;rwa[fC]at this
theorem Kh{c:Cn}{ds rs:List DV}(hr:c.res=pA)(hq:c.post=tf R0)(h:c.ij ds rs):fy rs:=by
 obtain⟨h1,h2⟩:=h;rw[hr]at h1;rw[hq]at h2;have hl:rs.length=94:=by rw[<- h1.len,Qg]
 have ea:∀j,j<94->fU ds rs (R0+j)=rs.getD j (.i 0):=fun j hj=>mz (by omega);have p0:=mC (h2 (.eq (.len (R0+3)) (.mul (.v (R0+1)) (.v (R0+2)))) (by simp[tf]));have p1:=mC (h2 (.eq (.len (R0+4)) (.mul (.v (R0+1)) (.v (R0+2)))) (by simp[tf]));have p2:=mC (h2 (.eq (.len (R0+60)) (.len (R0+61))) (by simp[tf]));simp only[IE.af,ea 3 (by omega),ea 4 (by omega),ea 1 (by omega),ea 2 (by omega),ea 60 (by omega),ea 61 (by omega)]at p0 p1 p2;exact⟨h1,p0,p1,by unfold uD;omega⟩
theorem II{aa bs:List A}{ds es:List DV}:kO aa ds->kO bs es->kO (aa++bs) (ds++es):=by
 induction aa generalizing ds with
 | nil=>intro h1 h2;cases ds with
   |nil=>exact h2
   |cons d ds=>exact h1.elim
 | cons a aa ih=>intro h1 h2;cases ds with
   |nil=>exact h1.elim
   |cons d ds=>exact⟨h1.1,ih h1.2 h2⟩
structure Ki(op:Int)(xs:List (List Int)):Prop where
 opR: -9223372036854775808<=op/\op<=9223372036854775807
 len:xs.length<=40
 gh:∀r∈xs,-9223372036854775808<=r.getD 0 0/\r.getD 0 0<=9223372036854775807
 sz:op=1->Sz xs->cellAt xs 0 0*cellAt xs 1 0<=100
theorem aae:(kc 24).args=pA++[.i mn mx,.l 0 (some 40) [cI]]:=by kernel_rfl
theorem aeO:(kc 24).pre=tf 0++[imp (eG (.eq (.v 94) (.c 1)::rf 95)) (.le (.mul (.get 95 (.c 0) 0) (.get 95 (.c 1) 0)) (.c 100))]:=by kernel_rfl
theorem aaf{st:List DV}{op:Int}{xs:List (List Int)}(h:fy st)(hc:Ki op xs):(kc 24).gN (st++[.i op,.l xs]):=by
 have hl:=h.len;refine⟨?_,?_⟩;rw[aae];refine II h.has ⟨hc.opR,⟨by omega,fun y e=>?_,fun r hr=>⟨hc.gh r hr,trivial⟩⟩,trivial⟩;cases e;have:=hc.len;omega;have ea:∀j,j<94->aR.av 0 (st++[.i op,.l xs]) j=st.getD j (.i 0):=fun j hj=>by
   rw[iD (by simp;omega)];simp only[cq];rw[mJ (by omega)]
 have e94:aR.av 0 (st++[.i op,.l xs]) 94 = .i op:=by
   rw[iD (by simp;omega)];simp only[cq];rw[pB (by omega),hl];rfl
 have e95:aR.av 0 (st++[.i op,.l xs]) 95 = .l xs:=by
   rw[iD (by simp;omega)];simp only[cq];rw[pB (by omega),hl];rfl
 rw[aeO];intro p hp;rcases lQ.1 hp with hp|hp;simp only[tf,bD,gE,or_false,fC]at hp;rcases hp with rfl|rfl|rfl;exact gQ (by simp only[IE.af,ea 3 (by omega),ea 1 (by omega),ea 2 (by omega)];exact h.c3);exact gQ (by simp only[IE.af,ea 4 (by omega),ea 1 (by omega),ea 2 (by omega)];exact h.c4);exact gQ (by simp only[IE.af,ea 60 (by omega),ea 61 (by omega)];have:=h.c60;unfold uD at this;omega);simp only[lg]at hp;subst hp;simp only[imp,eG,rf,lG,qt,mP,BE.af,IE.af,e94,e95,di,dl,fF,mg,NY,tZ,aC];by_cases h1:op=1;by_cases hs:Sz xs;exact .inr (hc.sz h1 hs);refine .inl ?_;by_cases g0:(xs.length:Int)=2;by_cases g1:(1:Int)<=cellAt xs 0 0;by_cases g2:cellAt xs 0 0<=1024;by_cases g3:(1:Int)<=cellAt xs 1 0;by_cases g4:cellAt xs 1 0<=1024;exact absurd ⟨by omega,⟨g1,g2⟩,⟨g3,g4⟩⟩ hs;simp[g4];simp[g3];simp[g2];simp[g1];simp[g0];exact .inl (.inl h1)
def wE:List A->Nat->List DE->Bool
 | [],_,[]=>true
 |.i _ _::aa,b,.i (.v k)::ds=>Nat.beq k b&&wE aa (b+1) ds
 |.b::aa,b,.b (.v k)::ds=>Nat.beq k b&&wE aa (b+1) ds
 |.l _ _ _::aa,b,.l k::ds=>Nat.beq k b&&wE aa (b+1) ds
 |_,_,_=>false
theorem lF{e:az}:∀ {aa:List A} {st:List DV} {TG:List DE} {b:Nat},kO aa st->(∀j,j<st.length->e (b+j)=st.getD j (.i 0))->wE aa b TG=true->TG.map (DE.af e)=st:=by
 intro aa;induction aa with
 | nil=>
   intro st TG b h1 _ h3;cases st with
   | nil=>cases TG with
     |nil=>rfl
     |cons d ds=>simp[wE]at h3
   |cons d ds=>exact h1.elim
 | cons a aa ih=>
   intro st TG b h1 h2 h3;cases st with
   |nil=>exact h1.elim
   | cons d st=>
     have hd:e b=d:=h2 0 (by simp);have tl:∀j,j<st.length->e (b+1+j)=st.getD j (.i 0):=fun j hj=>by
       have:=h2 (j+1) (by simpa using hj);rw[show b+1+j=b+(j+1)by omega,this];rfl
     obtain⟨ha,hr⟩:=h1;cases a with
     | i lo hi=>
       cases d with
       | i n=>
         match TG,h3 with
         | .i (.v k)::ds,h3=>
           simp only[wE,ao,Nat.beq_eq]at h3;obtain⟨rfl,h3⟩:=h3;rw[jK,ih hr tl h3];simp only[DE.af,IE.af,hd,di]
       |_=>exact ha.elim
     | b=>
       cases d with
       | b n=>
         match TG,h3 with
         | .b (.v k)::ds,h3=>
           simp only[wE,ao,Nat.beq_eq]at h3;obtain⟨rfl,h3⟩:=h3;rw[jK,ih hr tl h3];simp only[DE.af,BE.af,hd,db]
       |_=>exact ha.elim
     | l x y z=>
       cases d with
       | l n=>
         match TG,h3 with
         | .l k::ds,h3=>
           simp only[wE,ao,Nat.beq_eq]at h3;obtain⟨rfl,h3⟩:=h3;rw[jK,ih hr tl h3];simp only[DE.af,hd,dl]
       |_=>exact ha.elim
     |t=>simp[wE]at h3
def E0:List DE:=[.i (.v 98),.i (.v 99),.i (.v 100),.l 101,.l 102,.i (.v 103),.i (.v 104),.i (.v 105),.i (.v 106),.i (.v 107),.i (.v 108),.i (.v 109),.i (.v 110),.i (.v 111),.i (.v 112),.l 113,.l 114,.i (.v 115),.i (.v 116),.i (.v 117),.i (.v 118),.i (.v 119),.i (.v 120),.i (.v 121),.i (.v 122),.i (.v 123),.i (.v 124),.i (.v 125),.i (.v 126),.i (.v 127),.i (.v 128),.i (.v 129),.i (.v 130),.i (.v 131),.i (.v 132),.i (.v 133),.i (.v 134),.i (.v 135),.i (.v 136),.i (.v 137),.i (.v 138),.i (.v 139),.i (.v 140),.i (.v 141),.i (.v 142),.i (.v 143),.i (.v 144),.b (.v 145),.b (.v 146),.b (.v 147),.b (.v 148),.b (.v 149),.b (.v 150),.i (.v 151),.i (.v 152),.i (.v 153),.i (.v 154),.b (.v 155),.b (.v 156),.i (.v 157),.l 158,.l 159,.i (.v 160),.b (.v 161),.b (.v 162),.i (.v 163),.i (.v 164),.i (.v 165),.i (.v 166),.i (.v 167),.i (.v 168),.i (.v 169),.b (.v 170),.i (.v 171),.b (.v 172),.i (.v 173),.i (.v 174),.b (.v 175),.b (.v 176),.b (.v 177),.i (.v 178),.i (.v 179),.i (.v 180),.i (.v 181),.b (.v 182),.i (.v 183),.b (.v 184),.b (.v 185),.i (.v 186),.i (.v 187),.b (.v 188),.b (.v 189),.b (.v 190),.b (.v 191)]
theorem Qh{E:Nat->List DV->List DV->Prop}{R:List DV->Prop}{Ps:List (Int->Prop)}{ae:az}{F:Nat->List DV->Prop}{id:Nat}{bG:List DE}{G:List DV->Prop}{vs:List DV}(e:bG.map (DE.af ae)=vs)(h:G vs):(au.again id bG).gC E R Ps ae (lN F id G):=lO (by rw[e];exact h)
def A8(E:Nat->List DV->List DV->Prop)(l:List (List Int)):Nat->List DV->Prop
 |0,st=>E 23 [] st
 |i+1,bc=>∃st,A8 E l i st/\E 24 (st++[.i (rQ (l.getD i [])),.l (b8 (l.getD i []))]) bc
def Qi(ds:List DV):Prop:=∃l:List (List Int),ds=[.l l]/\l.length<=1099511627776/\∀r∈l,Ki (rQ r) (b8 r)
def Xz(E:Nat->List DV->List DV->Prop)(ds rs:List DV):Prop:=fy rs/\∀l,ds=[.l l]->A8 E l l.length rs
structure Qc(E:Nat->List DV->List DV->Prop):Prop where
 new:∃rs,E 23 [] rs/\fy rs
 does:∀st op xs,fy st->Ki op xs->∃rs,E 24 (st++[.i op,.l xs]) rs/\fy rs
theorem o12{E:Nat->List DV->List DV->Prop}(hD:Qc E){ds:List DV}(hp:Qi ds):t12.gC E (Xz E ds) [] (aR.av 0 ds) (fun _ _=>False):=by
 obtain⟨l,rfl,hl,hc⟩:=hp;unfold t12;refine iy (pre:=fun ds=>ds=[]) (rel:=fun _ rs=>fy rs) (fun ds h=>by subst h;exact hD.new) rfl ?_;intro ck hE0 hP0;have hl0:=hP0.len;refine nZ (fun vs=>∃(i:Nat) (st:List DV),vs = .i i::st/\i<=l.length/\fy st/\A8 E l i st) (fun| .i i::_=>((l.length:Int)-i).toNat|_=>0) ⟨0,ck,?_,by omega,hP0,hE0⟩ ?_;rw[jK];congr 1;exact lF hP0.has (b:=2) (fun j hj=>mz hj) (by kernel_rfl);rintro _ ⟨i,st,rfl,hi,hP,hch⟩;have vx:=hP.len;obtain⟨e1,lH⟩:∃e1:az,e1=((aR.av 0 [.l l]).av 2 ck).av 97 (.i i::st):=⟨_,rfl⟩;have g0:e1 0 = .l l:=by rw[lH,az.bd (by omega),az.bd (by omega)];rfl
 have g97:e1 97 = .i i:=by rw[lH];exact az.c8 (i:=0) rfl
 have TH:∀j,j<st.length->e1 (98+j)=st.getD j (.i 0):=fun j hj=>by
   have:=mz (e:=(aR.av 0 [.l l]).av 2 ck) (b:=97) (ds:=.i i::st) (j:=j+1) (by simpa using hj);rw[lH,show 98+j=97+(j+1)by omega,this];rfl
 rw[<- lH];refine gZ (fun cJ=>?_) (fun mF=>?_);simp only[IE.af,g97,g0,di,dl]at cJ;have hm:l.getD i []∈l:=by simp[List.getD,show i<l.length by omega]
 have KX:=hc _ hm;refine pq (by simp only[IE.af,g97,di];omega) (iQ (M:=b8 (l.getD i [])) (by simp only[cU.af,IE.af,g97,g0,di,dl,qm];rfl) ?_);have e2:∀k,k<193->(e1.set 193 (.l (b8 (l.getD i [])))) k=e1 k:=fun k hk=>by simp only[az.set];rw[if_neg (by omega)]
 have key:=lF (e:=e1.set 193 (.l (b8 (l.getD i [])))) (b:=98) (TG:=E0) hP.has (fun j hj=>by rw[e2 _ (by omega)];exact TH j hj) (by kernel_rfl);have last: [DE.i (.get 0 (.v 97) 0),DE.l 193].map (DE.af (e1.set 193 (.l (b8 (l.getD i [])))))=[.i (rQ (l.getD i [])),.l (b8 (l.getD i []))]:=by
   simp only[List.map,DE.af,IE.af,e2 97 (by omega),e2 0 (by omega),g97,g0,di,dl];simp only[az.set,if_true,dl];unfold cellAt rQ;rw[qm]
 have hA:(E0++[DE.i (.get 0 (.v 97) 0),DE.l 193]).map (DE.af (e1.set 193 (.l (b8 (l.getD i [])))))=st++[.i (rQ (l.getD i [])),.l (b8 (l.getD i []))]:=by rw[ml,key,last]
 refine iy (pre:=fun ds=>ds=(st++[DV.i (rQ (l.getD i [])),DV.l (b8 (l.getD i []))]:List DV)) (rel:=fun _ rs=>fy rs) (fun ds (h:ds=_)=>by rw[h];exact hD.does _ _ _ hP KX) (show List.map _ (E0++[DE.i (.get 0 (.v 97) 0),DE.l 193])=_ from hA) ?_;intro rs hE hR;have hlr:=hR.len;obtain⟨e3,yG⟩:∃e3:az,e3=(e1.set 193 (.l (b8 (l.getD i [])))).av 195 rs:=⟨_,rfl⟩;have k97:e3 97 = .i i:=by
   rw[yG,az.bd (by omega)];simp only[az.set];rw[if_neg (by omega),g97]
 rw[<- yG];refine zc (by simp only[IE.af,k97,di];omega) (Qh (vs:=.i ((i+1:Nat):Int)::rs) ?_ ⟨⟨i+1,rs,rfl,by omega,hR,st,hch,?_⟩,?_⟩);rw[jK];have h0:DE.af e3 (.i (.add (.v 97) (.c 1))) = .i ((i+1:Nat):Int):=by simp only[DE.af,IE.af,k97,di];rfl
 rw[h0];congr 1;exact lF hR.has (b:=195) (fun j hj=>by rw[yG];exact mz hj) (by kernel_rfl);have PU:E 24 ((E0++[DE.i (.get 0 (.v 97) 0),DE.l 193]).map (DE.af (e1.set 193 (.l (b8 (l.getD i [])))))) rs:=hE;rw[hA]at PU;exact PU;show((l.length:Int)-((i+1:Nat):Int)).toNat<((l.length:Int)-i).toNat;omega;simp only[IE.af,g97,g0,di,dl]at mF;obtain rfl:i=l.length:=by omega
 refine dN (rs:=st) (lF hP.has (b:=98) TH (by kernel_rfl)) ⟨hP,fun l' e=>?_⟩;cases e;exact hch
def Qj:List DE:=[.i (.v 3),.i (.v 4),.i (.v 5),.l 6,.l 7,.i (.v 8),.i (.v 9),.i (.v 10),.i (.v 11),.i (.v 12),.i (.v 13),.i (.v 14),.i (.v 15),.i (.v 16),.i (.v 17),.l 18,.l 19,.i (.v 20),.i (.v 21),.i (.v 22),.i (.v 23),.i (.v 24),.i (.v 25),.i (.v 26),.i (.v 27),.i (.v 28),.i (.v 29),.i (.v 30),.i (.v 31),.i (.v 32),.i (.v 33),.i (.v 34),.i (.v 35),.i (.v 36),.i (.v 37),.i (.v 38),.i (.v 39),.i (.v 40),.i (.v 41),.i (.v 42),.i (.v 43),.i (.v 44),.i (.v 45),.i (.v 46),.i (.v 47),.i (.v 48),.i (.v 49),.b (.v 50),.b (.v 51),.b (.v 52),.b (.v 53),.b (.v 54),.b (.v 55),.i (.v 56),.i (.v 57),.i (.v 58),.i (.v 59),.b (.v 60),.b (.v 61),.i (.v 62),.l 63,.l 64,.i (.v 65),.b (.v 66),.b (.v 67),.i (.v 68),.i (.v 69),.i (.v 70),.i (.v 71),.i (.v 72),.i (.v 73),.i (.v 74),.b (.v 75),.i (.v 76),.b (.v 77),.i (.v 78),.i (.v 79),.b (.v 80),.b (.v 81),.b (.v 82),.i (.v 83),.i (.v 84),.i (.v 85),.i (.v 86),.b (.v 87),.i (.v 88),.b (.v 89),.b (.v 90),.i (.v 91),.i (.v 92),.b (.v 93),.b (.v 94),.b (.v 95),.b (.v 96)]
def A9:BE:=.and (.and (.and (.and (.v 61) (.le (.c 1) (.v 4))) (.le (.c 1) (.v 5))) (.eq (.len 6) (.mul (.v 4) (.v 5)))) (.eq (.len 7) (.len 6))
theorem Vs{X:bH}{n:Nat}(h:oc (TT Tryz.prog) X kc (ord.take n))(Kf:23∈ord.take n)(GQ:24∈ord.take n):Qc (fun k=>cK (TT Tryz.prog) X k) where
 new:=by
   obtain⟨rs,h1,h2⟩:=h 23 Kf [] ⟨trivial,fun p hp=>by cases hp⟩;exact⟨rs,h1,Kh (by kernel_rfl) (by kernel_rfl) h2⟩
 does:=fun st op xs hP hc=>by
   obtain⟨rs,h1,h2⟩:=h 24 GQ _ (aaf hP hc);exact⟨rs,h1,Kh rfl (by kernel_rfl) h2⟩
theorem A8.congr{E E':Nat->List DV->List DV->Prop}(Kf:∀ds rs,E 23 ds rs->E' 23 ds rs)(GQ:∀ds rs,E 24 ds rs->E' 24 ds rs){l:List (List Int)}:∀ {i:Nat} {st:List DV},A8 E l i st->A8 E' l i st:=by
 intro i;induction i with
 |zero=>intro st h;exact Kf _ _ h
 |succ i ih=>intro st h;obtain⟨kq,h1,h2⟩:=h;exact⟨kq,ih h1,GQ _ _ h2⟩
variable {X:bH}
theorem g12(hD:Qc (fun k=>cK (TT Tryz.prog) X k)):mb (TT Tryz.prog) X 12 Qi (Xz (fun k=>cK (TT Tryz.prog) X k)):=
 mb.weaken (lB T12 fun ds hp=>o12 (E:=fun g=>cK (TT Tryz.prog) X ((iG.mk 12 t12 (rowOf 12).sub).key g)) ⟨hD.new,hD.does⟩ hp) (fun _ h=>h) (fun ds rs _ h=>⟨h.1,fun l e=>A8.congr (E:=fun g=>cK (TT Tryz.prog) X ((iG.mk 12 t12 (rowOf 12).sub).key g)) (fun _ _ h=>h) (fun _ _ h=>h) (h.2 l e)⟩)
structure Good(E:Nat->List DV->List DV->Prop)(l:List (List Int))(st:List DV):Prop where
 ok:fy st
 run:E 12 [.l l] st
 alK:pbool st 58=true
 w:1<=uj st 1
 h:1<=uj st 2
def Kj(ds:List DV):Prop:=∃l:List (List Int),ds=[.l l]/\l.length<=9223372036854775807/\∀r∈l,(-9223372036854775808<=rQ r/\rQ r<=9223372036854775807)/\∀c∈b8 r,-9223372036854775808<=c.getD 0 0/\c.getD 0 0<=9223372036854775807
def XA(E:Nat->List DV->List DV->Prop)(ds rs:List DV):Prop:=rs.length=95/\∃b,rs.getD 94 (.i 0) = .b b/\∀l,ds=[.l l]->b=true->Good E l (rs.take 94)
theorem o17{E:Nat->List DV->List DV->Prop}(Np:∀ds,Qk ds->∃rs,E 27 ds rs/\GU ds rs)(h12:∀ds,Qi ds->∃rs,E 12 ds rs/\fy rs){ds:List DV}(hp:Kj ds):t17.gC E (XA E ds) [] (aR.av 0 ds) (fun _ _=>False):=by
 obtain⟨l,rfl,hl,hc⟩:=hp;unfold t17;refine iy Np ⟨l,40,100,rfl,hl⟩ ?_;rintro _ anE ⟨b,rfl,hb⟩;refine og (fun h=>?_) (fun h=>?_);exact OO ⟨rfl,false,rfl,fun _ _ h=>by cases h⟩;have h:b=true:=h;subst h;have hs:=hb l 40 100 rfl rfl;have KX:∀r∈l,Ki (rQ r) (b8 r):=fun r hr=>⟨(hc r hr).1,(hs.2 r hr).1,(hc r hr).2,(hs.2 r hr).2⟩;refine iy (pre:=fun ds=>ds=[DV.l l]) (rel:=fun _ rs=>fy rs) (fun ds (h:ds=_)=>by rw[h];exact h12 _ ⟨l,rfl,by have:=hs.1;omega,KX⟩) rfl ?_;intro st alL hP;have vx:=hP.len;obtain⟨e1,lH⟩:∃e1:az,e1=((aR.av 0 [.l l]).av 2 [.b true]).av 3 st:=⟨_,rfl⟩;have TH:∀j,j<94->e1 (3+j)=st.getD j (.i 0):=fun j hj=>by rw[lH];exact mz (by omega)
 have b1:0<=uj st 1/\uj st 1<=100:=by
   obtain⟨d,hd,ha⟩:=hP.has.at (i:=1) (a:=.i 0 100) (by kernel_rfl);unfold uj;simp only[cq,hd];cases d with
   |i n=>exact ha
   |_=>exact ha.elim
 have b2:0<=uj st 2/\uj st 2<=100:=by
   obtain⟨d,hd,ha⟩:=hP.has.at (i:=2) (a:=.i 0 100) (by kernel_rfl);unfold uj;simp only[cq,hd];cases d with
   |i n=>exact ha
   |_=>exact ha.elim
 have i4:(e1 4).int=uj st 1:=by rw[TH 1 (by omega)];rfl
 have i5:(e1 5).int=uj st 2:=by rw[TH 2 (by omega)];rfl
 have m1:=yX b1.2 b2.2 b2.1 (by omega);have m0:=sy b1.1 b2.1;rw[<- lH];refine jP ?_ ?_;show(!((BE.and _ _).af e1)||(r6 (.mul (.v 4) (.v 5))).af e1)=true;rw[mA (by simp only[IE.af,i4,i5];omega)];simp;have dV:=lF (e:=e1) (b:=3) (TG:=Qj) hP.has (fun j hj=>TH j (by omega)) (by kernel_rfl);have hv:(Qj++[DE.b A9]).map (DE.af e1)=st++[.b (A9.af e1)]:=by rw[ml,dV];rfl
 refine dN (rs:=st++[DV.b (A9.af e1)]) (show List.map _ (Qj++[DE.b A9])=_ from hv) ⟨by simp[vx],A9.af e1,?_,fun l' e hc=>?_⟩;simp only[cq];rw[pB (by omega),vx];rfl;cases e;rw[DL (by omega),pI (by omega)];have hc:(((((e1 61).bool&&decide (1<=(e1 4).int))&&decide (1<=(e1 5).int))&&_)&&_)=true:=hc;simp only[ao,aC]at hc;refine⟨hP,alL,?_,by rw[<- i4];exact hc.1.1.1.2,by rw[<- i5];exact hc.1.1.2⟩;have:(e1 61).bool=pbool st 58:=by rw[TH 58 (by omega)];rfl
 rw[<- this];exact hc.1.1.1.1
theorem g17(hD:Qc (fun k=>cK (TT Tryz.prog) X k)):mb (TT Tryz.prog) X 17 Kj (XA (fun k=>cK (TT Tryz.prog) X k)):=
 mb.weaken (lB T17 fun ds hp=>o17 (E:=fun g=>cK (TT Tryz.prog) X ((iG.mk 17 t17 (rowOf 17).sub).key g)) g27 (fun ds h=>by obtain⟨rs,h1,h2⟩:=g12 hD ds h;exact⟨rs,h1,h2.1⟩) hp) (fun _ h=>h)
   (fun ds rs _ h=>⟨h.1,by obtain⟨b,h1,h2⟩:=h.2;exact⟨b,h1,fun l e hb=>by obtain⟨a1,a2,a3,a4,a5⟩:=h2 l e hb;exact⟨a1,a2,a3,a4,a5⟩⟩⟩)
end
section
open Go.Sx
def t47:au:=
.ite (.lt (.len 0) (.c 3)) (
.ret [.nil]) (
.ev (.aG (.le (.c 0) (.len 0))) (
.ev (.aG (.le (.len 0) (.c 140737488355328))) (
.ev (.bW 3 (.rep (.len 0) [0])) (
.loop 47005 [.l 3,.i (.c 0)] [.s 4 [.b],.c i6] 4 (
.ite (.lt (.v 5) (.len 0)) (
.ev (.aG (.le (.c 0) (.v 5))) (
.ev (.aG (.or (.not (.v 2)) (.le (.c 0) (.get 0 (.v 5) 0)))) (
.ev (.aG (.or (.not (.v 2)) (.lt (.get 0 (.v 5) 0) (.len 1)))) (
.ev (.aG (.lt (.v 5) (.len 4))) (
.ev (.bW 6 (.set 4 (.v 5) 0 (.inr (.or (.not (.v 2)) (.tu (.get 1 (.get 0 (.v 5) 0) 0)))))) (
.ev (.aG (r6 (.add (.v 5) (.c 1)))) (
.again 47005 [.l 6,.i (.add (.v 5) (.c 1))]))))))) (
.ret [.l 4]))))))
theorem T47:TT Tryz.prog 47=some ⟨47,t47,(rowOf 47).sub⟩:=by kernel_rfl
def t44:au:=
.ite (.lt (.len 0) (.c 3)) (
.ret [.nil]) (
.ev (.aG (.le (.c 0) (.len 0))) (
.ev (.aG (.le (.len 0) (.c 17592186044416))) (
.ev (.bW 1 (.rep (.len 0) [0])) (
.loop 44005 [.i (.c 0),.l 1] [.c i6,.s 3 [i6]] 2 (
.ite (.lt (.v 2) (.len 1)) (
.ev (.aG (.le (.c 0) (.v 2))) (
.ev (.aG (.lt (.v 2) (.len 3))) (
.ev (.bW 4 (.set 3 (.v 2) 0 (.inl (.v 2)))) (
.ev (.aG (r6 (.add (.v 2) (.c 1)))) (
.again 44005 [.i (.add (.v 2) (.c 1)),.l 4]))))) (
.ev (.call 47 (.c true) [.l 3,.l 0,.b (.c true)] [.one (.s 4 [.b])] 4) (
.ev (.bW 5 (.BL [[.s 3,.s 4,.c (.inl (.c 0))]])) (
.ret [.l 5]))))))))
theorem T44:TT Tryz.prog 44=some ⟨44,t44,(rowOf 44).sub⟩:=by kernel_rfl
variable {X:bH}
def IJ(l:List Int):Prop:=∀x∈l,x=0\/x=1
def A'(ds:List DV):Prop:=∃(V:List Int) (F:List (List Int)) (b:Bool),ds=[.l (eK V),.l F,.b b]/\V.length<=256/\(b=true->∀x∈V,0<=x/\x<F.length)
def Ba(ds rs:List DV):Prop:=∃E:List Int,rs=[.l (eK E)]/\IJ E/\∀V F b,ds=[.l (eK V),.l F,.b b]->(V.length<3->E=[])/\(3<=V.length->E.length=V.length)
theorem GY{a b:List Int}(h:eK a=eK b):a=b:=by
 have:=congrArg (List.map fun r:List Int=>r.getD 0 0) h;simpa[eK,List.map_map,Function.comp_def]using this
theorem o47{E:Nat->List DV->List DV->Prop}{ds:List DV}(hp:A' ds):t47.gC E (Ba ds) [] (aR.av 0 ds) (fun _ _=>False):=by
 obtain⟨V,F,b,rfl,hV,hb⟩:=hp;unfold t47;refine gZ (fun h=>?_) (fun h=>?_);simp[IE.af,DV.list,az.av,az.set,dz]at h;refine dN (rs:=[.l (eK [])]) (by simp[DE.af,eK]) ⟨[],rfl,(fun x hx=>by cases hx),?_⟩;intro V' F' b' e;simp only[List.cons.injEq,DV.l.injEq]at e;have:=GY e.1;subst this;exact⟨fun _=>rfl,fun h'=>by omega⟩;simp[IE.af,DV.list,az.av,az.set,dz]at h;refine pq (by simp[IE.af,DV.list,az.av,az.set,dz]) ?_;refine pq (by simp[IE.af,DV.list,az.av,az.set,dz];omega) ?_;refine iQ (M:=eK (List.replicate V.length 0)) (by simp[cU.af,IE.af,DV.list,az.av,az.set,dz,Bb]) ?_;refine nZ (fun ds=>∃(E:List Int) (i:Int),ds=[.l (eK E),.i i]/\E.length=V.length/\IJ E/\0<=i/\i<=V.length) (fun| [_,.i i]=>((V.length:Int)-i).toNat|_=>0)
   ⟨List.replicate V.length 0,0,by simp[DE.af,IE.af,DV.list,az.av,az.set],by simp,fun x hx=>.inl (List.eq_of_mem_replicate hx),by omega,by omega⟩ ?_
 rintro _ ⟨E,i,rfl,hE,h01,rK,hi⟩;refine gZ (fun h1=>?_) (fun h1=>?_);simp[IE.af,DV.int,DV.list,az.av,az.set,dz]at h1;refine pq (by simp[IE.af,DV.int,az.av,az.set];omega) ?_;have hm:=A0 (l:=V) rK h1;have hx:V.getD i.toNat 0∈V:=A1 (by omega);refine jP ?_ (jP ?_ ?_);cases b with
 |false=>simp[BE.af,DV.bool,az.av,az.set]
 |true=>simp[BE.af,IE.af,DV.int,DV.list,DV.bool,az.av,az.set,hm];have:=hb rfl _ hx;simpa using this.1
 cases b with
 |false=>simp[BE.af,DV.bool,az.av,az.set]
 |true=>simp[BE.af,IE.af,DV.int,DV.list,DV.bool,az.av,az.set,hm];have:=hb rfl _ hx;simpa using this.2
 refine MF (by simp[IE.af,DV.int,DV.list,az.av,az.set,dz,hE];omega) ?_;refine iQ (M:=eK (E.set i.toNat (if(!b||decide (cellAt F (V.getD i.toNat 0) 0≠0))=true then 1 else 0))) (by simp[cU.af,b9,BE.af,IE.af,DV.int,DV.list,DV.bool,az.av,az.set,hm,wG]) ?_;refine zc (by simp[IE.af,DV.int,az.av,az.set];omega) (lO ⟨⟨E.set i.toNat (if(!b||decide (cellAt F (V.getD i.toNat 0) 0≠0))=true then 1 else 0),i+1,by simp[DE.af,IE.af,DV.int,DV.list,az.av,az.set],by simp[hE],?_,by omega,by omega⟩,?_⟩);intro x hx;rcases List.mem_or_eq_of_mem_set hx with hx|rfl;exact h01 x hx;split;exact .inr rfl;exact .inl rfl;simp[DE.af,IE.af,DV.int,az.av,az.set];omega;simp[IE.af,DV.int,DV.list,az.av,az.set,dz]at h1;refine dN (rs:=[.l (eK E)]) (by simp[DE.af,az.av,az.set,DV.list]) ⟨E,rfl,h01,?_⟩;intro V' F' b' e;simp only[List.cons.injEq,DV.l.injEq]at e;have:=GY e.1;subst this;exact⟨fun h'=>by omega,fun _=>hE⟩
def ui(V E:List Int)(p:Int):List Int:=(V.length:Int)::(E.length:Int)::p::(V++E)
def vp(m:Int)(n:Nat)(r:List Int):Prop:=∃(V E:List Int) (p:Int),r=ui V E p/\1<=V.length/\V.length<=256/\(∀x∈V,0<=x/\x<n)/\0<=p/\p<n/\IJ E/\(V.length<3->E=[])/\(3<=V.length->E.length=V.length)/\(4<=m->3<=V.length)/\(m<=3->V.length<=2)
def PW(ds:List DV):Prop:=∃(m:Int) (F:List (List Int)) (b:Bool),ds=[.i m,.l F,.b b]/\F.length<=256
def GD(ds rs:List DV):Prop:=∃(L:List (List Int)) (e:Int),rs=[.l L,.i e]/\L.length<=256/\(0<=e/\e<=12)/\∀m F b,ds=[.i m,.l F,.b b]->∀r∈L,vp m F.length r
def Ql(ds:List DV):Prop:=∃F:List (List Int),ds=[.l F]/\F.length<=256
def Qm(ds rs:List DV):Prop:=∃L:List (List Int),rs=[.l L]/\L.length<=1/\∀F,ds=[.l F]->∀r∈L,vp 9 F.length r
theorem GZ{l:List Int}:(eK l).map (fun r=>r.getD 0 0)=l:=by simp[eK,List.map_map,Function.comp_def]
theorem o44{E:Nat->List DV->List DV->Prop}(Cd:∀ds,A' ds->∃rs,E 47 ds rs/\Ba ds rs){ds:List DV}(hp:Ql ds):t44.gC E (Qm ds) [] (aR.av 0 ds) (fun _ _=>False):=by
 obtain⟨F,rfl,hF⟩:=hp;unfold t44;refine gZ (fun h=>?_) (fun h=>?_);exact dN (rs:=[.l []]) (by simp[DE.af]) ⟨[],rfl,by simp,fun _ _ r hr=>by cases hr⟩;simp[IE.af,DV.list,az.av,az.set]at h;refine pq (by simp[IE.af,DV.list,az.av,az.set]) ?_;refine pq (by simp[IE.af,DV.list,az.av,az.set];omega) ?_;refine iQ (M:=eK (List.replicate F.length 0)) (by simp[cU.af,IE.af,DV.list,az.av,az.set,Bb]) ?_;refine nZ (fun ds=>∃(V:List Int) (i:Int),ds=[.i i,.l (eK V)]/\V.length=F.length/\(∀x∈V,0<=x/\x<F.length)/\0<=i/\i<=F.length) (fun| [.i i,_]=>((F.length:Int)-i).toNat|_=>0)
   ⟨List.replicate F.length 0,0,by simp[DE.af,IE.af,DV.list,az.av,az.set],by simp,fun x hx=>by rw[List.eq_of_mem_replicate hx];omega,by omega,by omega⟩ ?_
 rintro _ ⟨V,i,rfl,hV,hx,rK,hi⟩;refine gZ (fun h1=>?_) (fun h1=>?_);simp[IE.af,DV.int,DV.list,az.av,az.set,dz]at h1;refine pq (by simp[IE.af,DV.int,az.av,az.set];omega) ?_;refine MF (by simp[IE.af,DV.int,DV.list,az.av,az.set,dz];omega) ?_;refine iQ (M:=eK (V.set i.toNat i)) (by simp[cU.af,b9,IE.af,DV.int,DV.list,az.av,az.set,wG]) ?_;refine zc (by simp[IE.af,DV.int,az.av,az.set];omega) (lO ⟨⟨V.set i.toNat i,i+1,by simp[DE.af,IE.af,DV.int,DV.list,az.av,az.set],by simp[hV],?_,by omega,by omega⟩,?_⟩);intro x hm;rcases List.mem_or_eq_of_mem_set hm with hm|rfl;exact hx x hm;omega;simp[DE.af,IE.af,DV.int,az.av,az.set];omega;refine iy Cd ⟨V,F,true,by simp[DE.af,BE.af,DV.list,az.av,az.set],by omega,fun _=>hx⟩ ?_;rintro _ _ ⟨E',rfl,h01,hE⟩;have hE:=hE V F true (by simp[DE.af,BE.af,DV.list,az.av,az.set]);refine iQ (M:=[ui V E' 0]) (by simp[cU.af,cc.head,cc.tail,b9,IE.af,DV.int,DV.list,az.av,az.set,dz,ui,<- List.getD_eq_getElem?_getD,GZ]) ?_;refine dN (rs:=[.l [ui V E' 0]]) (by simp[DE.af,DV.list,az.av,az.set]) ⟨_,rfl,by simp,?_⟩;intro F' e r hr;cases e;rw[lg]at hr;exact⟨V,E',0,hr,by omega,by omega,hx,by omega,by omega,h01,hE.1,hE.2,fun _=>by omega,fun h=>by omega⟩
def MG:List (List Int):=[[0],[0,1],[0,1],[0,1],[0,1,2],[0,1,2],[1,0,2],[0,1,2],[0,1,2,3],[0,1,3,2]]
def aah(l:List Int):cU:=.lit (l.map fun n=>[.inl (.c n)])
def Kk(b:Nat):List (List Int)->au->au
 | [],t=>t
 |l::ls,t=>.ev (.bW b (aah l)) (Kk (b+1) ls t)
theorem VC{ae:az}{l:List Int}:(aah l).af ae=eK l:=by
 simp[aah,cU.af,eK,b9,IE.af,Function.comp_def]
def Df(ae:az)(b:Nat):List (List Int)->az
 | []=>ae
 |l::ls=>Df (ae.set b (.l (eK l))) (b+1) ls
section
variable {E:Nat->List DV->List DV->Prop}{R:List DV->Prop}{Ps:List (Int->Prop)}{F:Nat->List DV->Prop}{t t':au}
theorem IK:∀ {ls:List (List Int)} {b:Nat} {ae:az},t.gC E R Ps (Df ae b ls) F->(Kk b ls t).gC E R Ps ae F
 | [],_,_,h=>h
 |l::ls,b,ae,h=>iQ VC (IK (ls:=ls) h)
end
def TI(s:Int):IE:=if s=1 then .v 18 else .mul (.c s) (.v 18)
def Bc(k:Nat)(s:Int):au:=Kk 3 MG (.ite (.lt (.v 1) (.len k)) (.ret [.i (.c 0)])
 (ns [r6 (.sub (.v 1) (.len k)),r6 (.tdiv (.sub (.v 1) (.len k)) (.c s)),r6 (.add (.tdiv (.sub (.v 1) (.len k)) (.c s)) (.c 1))] (.ret [.i (.add (.tdiv (.sub (.v 1) (.len k)) (.c s)) (.c 1))])))
def chain(b:au):List (Int×au)->au
 | []=>b
 |(m,t)::r=>.ite (.eq (.v 0) (.c m)) t (chain b r)
def t46:au:=.ite (.or (.or (.or (.lt (.v 0) (.c 0)) (.lt (.c 9) (.v 0))) (.lt (.v 1) (.c 1))) (.lt (.c 256) (.v 1))) (.ret [.i (.c 0)])
 (.ite (.eq (.v 0) (.c 9)) (.ev (.aG (r6 (.tdiv (.v 1) (.c 3)))) (.ret [.i (.min (.tdiv (.v 1) (.c 3)) (.c 1))]))
 (.ite (.eq (.v 0) (.c 3)) (.ite (.eq (.v 1) (.c 1)) (.ret [.i (.c 0)]) (.ret [.i (.v 1)]))
 (chain (.stuck "") [(0,Bc 3 1),(1,Bc 4 2),(2,Bc 5 1),(3,Bc 6 1),(4,Bc 7 3),(5,Bc 8 1),(6,Bc 10 1),(7,Bc 11 4),(8,Bc 12 2)])))
def vr(m:Int):Int×Int:=if m=0 then(1,1)else if m=1 then(2,2)else if m=2 then(1,2)else if m=3 then(1,1)else if m=4 then(3,3)else if m=5 then(1,3)else if m=6 then(1,3)else if m=7 then(4,4)else if m=8 then(2,4)else(3,3)
def Kl(ds:List DV):Prop:=∃m n:Int,ds=[.i m,.i n]/\0<=m/\m<=9/\0<=n/\n<=256
def G0(ds rs:List DV):Prop:=∃c:Int,rs=[.i c]/\0<=c/\c<=256/\∀m n,ds=[.i m,.i n]->0<c->(vr m).1*(c-1)+(vr m).2<=n
theorem o46{E:Nat->List DV->List DV->Prop}{ds:List DV}(hp:Kl ds):t46.gC E (G0 ds) [] (aR.av 0 ds) (fun _ _=>False):=by
 obtain⟨m,n,rfl,h0,h9,iq,hn⟩:=hp;have br:∀(k:Nat) (s:Int) (L:Nat),1<=s->(vr m)=(s,(L:Int))->(((Df (aR.av 0 [.i m,.i n]) 3 MG) k).list.length=L)->1<=L->(Bc k s).gC E (G0 [.i m,.i n]) [] (aR.av 0 [.i m,.i n]) (fun _ _=>False):=by
   intro k s L hs hp hk hL;unfold Bc;have e1:((Df (aR.av 0 [.i m,.i n]) 3 MG) 1).int=n:=rfl;refine IK (gZ (fun h=>?_) (fun h=>?_));exact dN (rs:=[.i 0]) rfl ⟨0,rfl,by omega,by omega,fun _ _ _ h=>by omega⟩;simp only[IE.af,e1,hk]at h;have Bv:0<=(n-(L:Int)).tdiv s:=Int.tdiv_nonneg (by omega) (by omega);have zl:(n-(L:Int)).tdiv s*s<=n-L:=by rw[DQ (by omega)];exact Int.ediv_mul_le _ (by omega)
   have hd2:(n-(L:Int)).tdiv s<=n-L:=by rw[DQ (by omega)];exact Int.ediv_le_self _ (by omega)
   refine IL ?_ (dN (rs:=[.i ((n-(L:Int)).tdiv s+1)]) (by simp only[List.map,DE.af,IE.af,e1,hk]) ⟨_,rfl,by omega,by omega,?_⟩);intro p hp;simp only[bD,gE,or_false]at hp;rcases hp with rfl|rfl|rfl<;>refine mA ?_<;>simp only[IE.af,e1,hk]<;>omega;intro m' n' e _;cases e;rw[hp];show s*_+(L:Int)<=_;have:s*((n-(L:Int)).tdiv s+1-1)=(n-(L:Int)).tdiv s*s:=by rw[Int.add_sub_cancel,ko]
   omega
 unfold t46;refine lY (fun h=>?_) (fun h=>?_);exact dN (rs:=[.i 0]) rfl ⟨0,rfl,by omega,by omega,fun _ _ _ h=>by omega⟩;have fP:1<=n:=by
   simp[BE.af,IE.af,DV.int,az.av,az.set]at h;omega
 refine dW (fun h9'=>?_) (fun h9'=>?_);simp[IE.af,DV.int,az.av,az.set]at h9';subst h9';have Bv:0<=n.tdiv 3:=Int.tdiv_nonneg (by omega) (by omega);have zl:n.tdiv 3*3<=n:=by rw[DQ (by omega)];exact Int.ediv_mul_le _ (by omega)
 refine zc (by simp[IE.af,DV.int,az.av,az.set];omega) (dN (rs:=[.i (min (n.tdiv 3) 1)]) (by simp[DE.af,IE.af,DV.int,az.av,az.set]) ⟨_,rfl,by omega,by omega,?_⟩);intro m' n' e hc;cases e;show 3*_+3<=n;omega;refine dW (fun h3=>?_) (fun h3=>?_);simp[IE.af,DV.int,az.av,az.set]at h3;subst h3;refine dW (fun h1=>?_) (fun h1=>?_);exact dN (rs:=[.i 0]) rfl ⟨0,rfl,by omega,by omega,fun _ _ _ h=>by omega⟩;refine dN (rs:=[.i n]) (by simp[DE.af,IE.af,DV.int,az.av,az.set]) ⟨_,rfl,by omega,by omega,?_⟩;intro m' n' e hc;cases e;show 1*_+1<=n;omega;simp[IE.af,DV.int,az.av,az.set]at h9' h3;refine dW (fun e=>?_) (fun e0=>?_);have e:m=0:=e;subst e;exact br 3 1 1 (by omega) rfl rfl (by omega);refine dW (fun e=>?_) (fun e1=>?_);have e:m=1:=e;subst e;exact br 4 2 2 (by omega) rfl rfl (by omega);refine dW (fun e=>?_) (fun e2=>?_);have e:m=2:=e;subst e;exact br 5 1 2 (by omega) rfl rfl (by omega);refine dW (fun e=>absurd (show m=3 from e) h3) (fun _=>?_);refine dW (fun e=>?_) (fun e4=>?_);have e:m=4:=e;subst e;exact br 7 3 3 (by omega) rfl rfl (by omega);refine dW (fun e=>?_) (fun e5=>?_);have e:m=5:=e;subst e;exact br 8 1 3 (by omega) rfl rfl (by omega);refine dW (fun e=>?_) (fun e6=>?_);have e:m=6:=e;subst e;exact br 10 1 3 (by omega) rfl rfl (by omega);refine dW (fun e=>?_) (fun e7=>?_);have e:m=7:=e;subst e;exact br 11 4 4 (by omega) rfl rfl (by omega);refine dW (fun e=>?_) (fun e8=>?_);have e:m=8:=e;subst e;exact br 12 2 4 (by omega) rfl rfl (by omega);have e0:m≠0:=e0;have e1:m≠1:=e1;have e2:m≠2:=e2;have e4:m≠4:=e4;have e5:m≠5:=e5;have e6:m≠6:=e6;have e7:m≠7:=e7;have e8:m≠8:=e8;omega
theorem T46:TT Tryz.prog 46=some ⟨46,t46,(rowOf 46).sub⟩:=by kernel_rfl
end
section
open Go.Sx
def VD(k:Nat)(s:IE)(tail:au):au:=
 .ev (.aG (.le (.c 0) (.len k))) (.ev (.aG (.le (.len k) (.c 17592186044416))) (.ev (.bW 19 (.rep (.len k) [0])) (.loop 30017 [.i (.c 0),.l 19] [.c i6,.s 3 [i6]] 20 (.ite (.lt (.v 20) (.len k))
   (ns [.le (.c 0) (.v 20),r6 s,r6 (.add s (.get k (.v 20) 0)),.tu (.max (.len 1) (.c 1)),.lt (.v 20) (.len 21)]
     (.ev (.bW 22 (.set 21 (.v 20) 0 (.inl (.tmod (.add s (.get k (.v 20) 0)) (.max (.len 1) (.c 1)))))) (.ev (.aG (r6 (.add (.v 20) (.c 1)))) (.again 30017 [.i (.add (.v 20) (.c 1)),.l 22]))))
   tail))))
def Km(v e q:Nat)(x:IE):au:=.ev (.bW q (.BL [[.s v,.s e,.c (.inl x)]])) (.ev (.aG (.le (.add (.len 17) (.len q)) (.c 2513169434916))) (.ev (.bW (q+1) (.app 17 q)) (.ev (.aG (r6 (.add (.v 18) (.c 1)))) (.again 30010 [.l (q+1),.i (.add (.v 18) (.c 1))]))))
def Kn(v e q:Nat)(fl:Bool)(l0 l1:List BE)(first last:IE):au:=
 ns l0 (.ev (.call 47 (.c true) [.l v,.l 1,.b (.c fl)] [.one (.s 4 [.b])] e) (.ite (.v 2) (ns l1 (Km v e q first)) (Km v e q last)))
def x30(s:Int)(d:Int):IE:=if d=0 then TI s else .add (TI s) (.c d)
def Qn(k:Nat)(s d:Int)(fl:Bool):au:=VD k (TI s) (Kn 21 2582 8727 fl ((if d=0 then [r6 (TI s)]else [r6 (TI s),r6 (x30 s d)])++[.tu (.len 1)]) [r6 (TI s)] (TI s) (.tmod (x30 s d) (.len 1)))
def aai:au:=VD 11 (.v 18) (ns [.lt (.c 0) (.len 21)] (.ev (.bW 22 (.set 21 (.c 0) 0 (.inl (.c 0)))) (Kn 22 2583 8728 false [r6 (.v 18),r6 (.add (.v 18) (.c 2)),.tu (.len 1)] [r6 (.v 18),r6 (.add (.v 18) (.c 1))] (.add (.v 18) (.c 1)) (.tmod (.add (.v 18) (.c 2)) (.len 1)))))
def MD(m:Int)(b:au):Int×au:=(m,Kk 4 MG (.ev (.call 46 (.c true) [.i (.c m),.i (.len 1)] [oI] 16) (.loop 30010 [.nil,.i (.c 0)] [.n 104 [.s 3 i6,.s 4 .b,.c i6],.c i6] 17 (.ite (.lt (.v 18) (.v 16)) b (.ret [.l 17,.i (.c 0)])))))
def t30:au:=.ite (.or (.lt (.v 0) (.c 0)) (.lt (.c 9) (.v 0))) (.ret [.nil,.i (.c 1)])
 (.ite (.lt (.c 256) (.len 1)) (.ret [.nil,.i (.c 8)])
 (.ite (.eq (.v 0) (.c 9)) (.ev (.call 44 (.c true) [.l 1] [.one (.n 104 [.s 3 i6,.s 4 .b,.c i6])] 3) (.ret [.l 3,.i (.c 0)]))
 (chain (.stuck "") [MD 0 (Qn 4 1 0 false),MD 1 (Qn 5 2 1 false),MD 2 (Qn 6 1 1 false),MD 3 (Qn 7 1 1 false),MD 4 (Qn 8 3 2 true),
   MD 5 (ns [.or (.not (.eq (.tmod (.v 18) (.c 2)) (.c 1))) (.lt (.c 0) (.len 10))] (.ite (.eq (.tmod (.v 18) (.c 2)) (.c 1)) (Qn 10 1 2 false) (Qn 9 1 2 false))),
   MD 6 aai,MD 7 (Qn 12 4 3 true),MD 8 (Qn 13 2 3 false)])))
theorem T30:TT Tryz.prog 30=some ⟨30,t30,(rowOf 30).sub⟩:=by kernel_rfl
end
section
open Go.Sx
section
variable {E:Nat->List DV->List DV->Prop}{R:List DV->Prop}{Ps:List (Int->Prop)}{F:Nat->List DV->Prop}{G:List DV->Prop}
theorem Qo{k:Nat}{s:IE}{tail:au}{ae:az}{K:List Int}{S:Int}{n:Nat}(hk:(ae k).list=eK K)(alN:k<19)(hK:∀x∈K,0<=x/\x<=3)(hKl:K.length<=4)(hn:(ae 1).list.length=n)(iq:1<=n)
   (hs:∀e':az,(∀m,m<19->e' m=ae m)->s.af e'=S) (hS0:0<=S) (hS:S<=2000)
   (ht:∀(e':az) (V:List Int) (G':List DV->Prop),(∀m,m<19->e' m=ae m)->e' 21 = .l (eK V)->V.length=K.length->(∀x∈V,0<=x/\x<n)->tail.gC E R Ps e' (lN F 30017 G')) :
   (VD k s tail).gC E R Ps ae F:=by
 unfold VD;refine pq (by simp[IE.af,hk,dz]) (pq (by simp[IE.af,hk,dz];omega) (iQ (M:=eK (List.replicate K.length 0)) (by simp[cU.af,IE.af,hk,dz,Bb]) ?_));refine nZ (fun ds=>∃(V:List Int) (i:Int),ds=[.i i,.l (eK V)]/\V.length=K.length/\(∀x∈V,0<=x/\x<n)/\0<=i/\i<=K.length) (fun| [.i i,_]=>((K.length:Int)-i).toNat|_=>0)
   ⟨List.replicate K.length 0,0,by simp[DE.af,IE.af,DV.list,az.set],by simp,fun x hx=>by rw[List.eq_of_mem_replicate hx];omega,by omega,by omega⟩ ?_
 rintro _ ⟨V,i,rfl,hV,hx,rK,hi⟩;obtain⟨e1,lH⟩:∃e1:az,e1=(ae.set 19 (.l (eK (List.replicate K.length 0)))).av 20 [.i i,.l (eK V)]:=⟨_,rfl⟩;have bL:∀m,m<19->e1 m=ae m:=fun m hm=>by
   subst lH;simp only[az.av,az.set];rw[if_neg (by omega),if_neg (by omega),if_neg (by omega)]
 have Nn:e1 20 = .i i:=by subst lH;rfl
 have h21:e1 21 = .l (eK V):=by subst lH;rfl
 rw[<- lH];have h1:(e1 1).list.length=n:=by rw[bL 1 (by omega),hn]
 have cY:(e1 k).list=eK K:=by rw[bL k alN,hk]
 refine gZ (fun cJ=>?_) (fun _=>ht _ V _ bL h21 hV hx);simp only[IE.af,Nn,di,cY,dz]at cJ;have hg:cellAt (eK K) i 0=K.getD i.toNat 0:=A0 rK cJ;have hc:=hK _ (A1 (l:=K) (i:=i.toNat) (by omega));have hd:∀e':az,(∀m,m<22->e' m=e1 m)->s.af e'=S:=fun e' h=>hs e' fun m hm=>by rw[h m (by omega),bL m hm]
 have Tn:max (n:Int) 1=n:=by omega
 refine IL ?_ (iQ (M:=eK (V.set i.toNat ((S+K.getD i.toNat 0).tmod n))) ?_ (zc ?_ (lO ⟨⟨_,i+1,by simp[DE.af,IE.af,di,dl,az.set,Nn];rfl,by simp[hV],?_,by omega,by omega⟩,?_⟩)));intro p hp;simp only[bD,gE,or_false]at hp;rcases hp with rfl|rfl|rfl|rfl|rfl;exact gQ (by simp only[IE.af,Nn,di];omega);exact mA (by rw[hd e1 fun _ _=>rfl];omega);exact mA (by simp only[IE.af,Nn,di,cY,hg,hd e1 fun _ _=>rfl];omega);exact gQ (by simp only[IE.af,h1,Tn];omega);exact gQ (by simp only[IE.af,Nn,h21,di,dl,dz];omega);simp only[cU.af,b9,IE.af,Nn,h21,di,dl,cY,hg,hd e1 fun _ _=>rfl,h1,Tn,wG];simp only[IE.af,az.set,Nn,di];simp[Nn,di];omega;intro x hm;rcases List.mem_or_eq_of_mem_set hm with hm|rfl;exact hx x hm;have a0:0<=S+K.getD i.toNat 0:=by omega
 have a1:=Int.tmod_nonneg (n:Int) a0;have a2:=Int.tmod_lt_of_pos (S+K.getD i.toNat 0) (show(0:Int)<n by omega);exact⟨a1,a2⟩;simp[DE.af,IE.af,az.set,Nn,di];omega
theorem Ko(Cd:∀ds,A' ds->∃rs,E 47 ds rs/\Ba ds rs){v e q:Nat}{fl:Bool}{l0 l1:List BE}{first last:IE}{ae:az}{V:List Int}{Fl out:List (List Int)}{m i a b:Int}{G G':List DV->Prop}
   (hve:v<e) (he:23<=e) (hq:e<q) (hv:ae v = .l (eK V)) (h1:ae 1 = .l Fl) (hV1:1<=V.length) (hV4:V.length<=4) (hV:∀x∈V,0<=x/\x<Fl.length)
   (hl0:∀p∈l0,p.af ae=true) (Ct:∀e':az,(∀k,k<22->e' k=ae k)->∀p∈l1,p.af e'=true)
   (hf:∀e':az,(∀k,k<22->e' k=ae k)->first.af e'=a) (ha:0<=a/\a<Fl.length) (nB:∀e':az,(∀k,k<22->e' k=ae k)->last.af e'=b) (hb:0<=b/\b<Fl.length)
   (ve:ae 17 = .l out) (hol:(out.length:Int)<=i) (hi:ae 18 = .i i) (rK:0<=i) (Ji:i<=255) (hm4:4<=m->3<=V.length) (hm3:m<=3->V.length<=2)
   (hG:∀r,vp m Fl.length r->G [.l (out++[r]),.i (i+1)]):(Kn v e q fl l0 l1 first last).gC E R Ps ae (lN (lN F 30010 G) 30017 G'):=by
 unfold Kn;refine IL hl0 (iy Cd ⟨V,Fl,fl,by simp only[List.map,DE.af,BE.af,hv,h1,dl],by omega,fun _=>hV⟩ ?_);rintro _ _ ⟨E',rfl,h01,hE⟩;have hE:=hE V Fl fl (by simp only[List.map,DE.af,BE.af,hv,h1,dl]);obtain⟨e1,lH⟩:∃e1:az,e1=ae.av e [.l (eK E')]:=⟨_,rfl⟩;rw[<- lH];have bL:∀k,k<e->e1 k=ae k:=fun k hk=>by
   subst lH;simp only[az.av,az.set];rw[if_neg (by omega)]
 have h1e:e1 e = .l (eK E'):=by subst lH;simp[az.av,az.set]
 have jB:∀k,k<22->e1 k=ae k:=fun k hk=>bL k (by omega);have one:∀(x:IE) (c:Int),(∀e':az,(∀k,k<22->e' k=ae k)->x.af e'=c)->0<=c->c<Fl.length->(Km v e q x).gC E R Ps e1 (lN (lN F 30010 G) 30017 G'):=by
   intro x c hx wN tC;unfold Km;refine iQ (M:=[ui V E' c]) (by simp only[cU.af,List.map,cc.head,cc.tail,b9,bL v hve,h1e,hv,dl,hx e1 jB,dz,ui,List.flatMap_cons,List.flatMap_nil,GZ,yS,qt,mP]) ?_;have g17:(e1.set q (.l [ui V E' c])) 17 = .l out:=by simp only[az.set];rw[if_neg (by omega),jB 17 (by omega),ve]
   have gq:(e1.set q (.l [ui V E' c])) q = .l [ui V E' c]:=by simp[az.set]
   refine pq (by simp only[IE.af,g17,gq,dl];simp;omega) (iQ (M:=out++[ui V E' c]) (by simp only[cU.af,g17,gq,dl]) ?_);have VE:∀M M',((e1.set q (.l M)).set (q+1) (.l M')) 18 = .i i:=fun M M'=>by simp only[az.set];rw[if_neg (by omega),if_neg (by omega),jB 18 (by omega),hi]
   refine zc (by simp only[IE.af,VE,di];omega) (Qp rfl ?_);have:=hG _ ⟨V,E',c,rfl,hV1,by omega,hV,wN,tC,h01,hE.1,hE.2,hm4,hm3⟩;simp only[List.map,DE.af,IE.af,VE,di];simpa[az.set,dl]using this
 refine lY (fun _=>IL (Ct e1 jB) (one _ _ hf ha.1 ha.2)) (fun _=>one _ _ nB hb.1 hb.2)
end
theorem tU{e:az}{s i:Int}(h:e 18 = .i i):(TI s).af e=s*i:=by
 unfold TI;split;rename_i h1;subst h1;simp only[IE.af,h,di];omega;simp only[IE.af,h,di]
theorem Kq{e:az}{s d i:Int}(h:e 18 = .i i):(x30 s d).af e=s*i+d:=by
 unfold x30;split;rename_i h1;subst h1;rw[tU h];omega;simp only[IE.af,tU h]
structure aaj(m0:Int)(F:List (List Int))(b:Bool)(e:az)(out:List (List Int))(i c:Int)(G:List DV->Prop):Prop where
 jO:∀k,k<16->e k=(Df (aR.av 0 [.i m0,.l F,.b b]) 4 MG) k
 e17:e 17 = .l out
 e18:e 18 = .i i
 len:(out.length:Int)<=i
 i0:0<=i
 ic:i<c
 aeS:c<=256
 aeT:(vr m0).1*(c-1)+(vr m0).2<=F.length
 more:∀r,vp m0 F.length r->G [.l (out++[r]),.i (i+1)]
section
variable {E:Nat->List DV->List DV->Prop}{R:List DV->Prop}{F0:Nat->List DV->Prop}
theorem wH(Cd:∀ds,A' ds->∃rs,E 47 ds rs/\Ba ds rs){k:Nat}{s d m0 i c:Int}{fl b:Bool}{K:List Int}{F out:List (List Int)}{e:az}{G:List DV->Prop}(h:aaj m0 F b e out i c G)(hk:(Df (aR.av 0 [.i m0,.l F,.b b]) 4 MG) k = .l (eK K))(alO:k<16)
   (hK:∀x∈K,0<=x/\x<=3) (hK1:1<=K.length) (hK4:K.length<=4) (hs:(vr m0).1=s) (Fi:1<=s) (hs4:s<=4) (hL:1<=(vr m0).2) (Bv:0<=d) (hd:d<=3) (h4:4<=m0->3<=K.length) (h3:m0<=3->K.length<=2) :
   (Qn k s d fl).gC E R [] e (lN F0 30010 G):=by
 have h1:e 1 = .l F:=h.jO 1 (by omega);have hp:=h.aeT;rw[hs]at hp;have rK:=h.i0;have hic:=h.ic;have hc:=h.aeS;have e1:s*i<=s*(c-1):=o9 (by omega) (by omega);have e0:0<=s*i:=sy (by omega) rK;have e2:s*i<=4*255:=yX hs4 (by omega) rK (by omega);have hn:s*i<F.length:=by omega
 unfold Qn;refine Qo (K:=K) (S:=s*i) (n:=F.length) (by rw[h.jO k alO,hk];rfl) (by omega) hK hK4 (by rw[h1];rfl) (by omega) (fun e' he=>tU (by rw[he 18 (by omega)];exact h.e18)) e0 (by omega) ?_;intro e' V G' bL hv hVl hV;have g18:e' 18 = .i i:=by rw[bL 18 (by omega)];exact h.e18
 have g1:e' 1 = .l F:=by rw[bL 1 (by omega)];exact h1
 have t0:=Int.tmod_nonneg (F.length:Int) (show 0<=s*i+d by omega);have t1:=Int.tmod_lt_of_pos (s*i+d) (show(0:Int)<F.length by omega);refine Ko (m:=m0) (i:=i) (a:=s*i) (b:=(s*i+d).tmod F.length) Cd (by omega) (by omega) (by omega) hv g1 (by omega) (by omega) hV ?_ ?_ ?_ ⟨e0,hn⟩ ?_ ⟨t0,t1⟩ (by rw[bL 17 (by omega)];exact h.e17) h.len g18 rK (by omega) (fun q=>by have:=h4 q;omega) (fun q=>by have:=h3 q;omega) h.more;intro p hp;have n0:(BE.tu (.len 1)).af e'=true:=gQ (by simp only[IE.af,g1,dl];omega);have r0:(r6 (TI s)).af e'=true:=mA (by rw[tU g18];omega);have r1:(r6 (x30 s d)).af e'=true:=mA (by rw[Kq g18];omega);split at hp<;>simp at hp<;>rcases hp with rfl|rfl|rfl<;>assumption;intro e2 mY p hp;simp only[lg]at hp;subst hp;exact mA (by rw[tU (by rw[mY 18 (by omega)];exact g18)];omega);intro e2 mY;exact tU (by rw[mY 18 (by omega)];exact g18);intro e2 mY;simp only[IE.af,Kq (show e2 18 = .i i by rw[mY 18 (by omega)];exact g18),mY 1 (by omega),g1,dl]
theorem aak(Cd:∀ds,A' ds->∃rs,E 47 ds rs/\Ba ds rs){i c:Int}{b:Bool}{F out:List (List Int)}{e:az}{G:List DV->Prop}(h:aaj 6 F b e out i c G):aai.gC E R [] e (lN F0 30010 G):=by
 have h1:e 1 = .l F:=h.jO 1 (by omega);have hp:1*(c-1)+3<=(F.length:Int):=h.aeT;have rK:=h.i0;have hic:=h.ic;have hc:=h.aeS;unfold aai;refine Qo (K:=[0,1,2]) (S:=i) (n:=F.length) (by rw[h.jO 11 (by omega)];rfl) (by omega) (by decide) (by decide) (by rw[h1];rfl) (by omega) (fun e' he=>by simp only[IE.af,he 18 (by omega),h.e18,di]) rK (by omega) ?_;intro e' V G' bL hv hVl hV;have hVl:V.length=3:=hVl;have g18:e' 18 = .i i:=by rw[bL 18 (by omega)];exact h.e18
 have g1:e' 1 = .l F:=by rw[bL 1 (by omega)];exact h1
 refine IL (fun p hp=>?_) (iQ (M:=eK (V.set 0 0)) ?_ ?_);simp only[lg]at hp;subst hp;exact gQ (by simp only[IE.af,hv,dl,dz];omega);simp only[cU.af,b9,IE.af,hv,dl];exact wG;have s1:∀k,k<22->(e'.set 22 (.l (eK (V.set 0 0)))) k=e' k:=fun k hk=>by simp only[az.set];rw[if_neg (by omega)]
 have VE:(e'.set 22 (.l (eK (V.set 0 0)))) 18 = .i i:=by rw[s1 18 (by omega)];exact g18
 have k1:(e'.set 22 (.l (eK (V.set 0 0)))) 1 = .l F:=by rw[s1 1 (by omega)];exact g1
 have t0:=Int.tmod_nonneg (F.length:Int) (show 0<=i+2 by omega);have t1:=Int.tmod_lt_of_pos (i+2) (show(0:Int)<F.length by omega);refine Ko (V:=V.set 0 0) (m:=6) (i:=i) (a:=i+1) (b:=(i+2).tmod F.length) Cd (by omega) (by omega) (by omega) (by simp[az.set]) k1 (by simp;omega) (by simp;omega) ?_ ?_ ?_ ?_ ⟨by omega,by omega⟩ ?_ ⟨t0,t1⟩ (by rw[s1 17 (by omega),bL 17 (by omega)];exact h.e17) h.len VE rK (by omega) (fun _=>by simp;omega) (fun q=>by omega) h.more;intro x hx;rcases List.mem_or_eq_of_mem_set hx with hx|rfl;exact hV x hx;omega;intro p hp;simp only[bD,gE,or_false]at hp;rcases hp with rfl|rfl|rfl;exact mA (by simp only[IE.af,VE,di];omega);exact mA (by simp only[IE.af,VE,di];omega);exact gQ (by simp only[IE.af,k1,dl];omega);intro e2 mY p hp;have z18:e2 18 = .i i:=by rw[mY 18 (by omega)];exact VE
 simp only[bD,gE,or_false]at hp;rcases hp with rfl|rfl<;>exact mA (by simp only[IE.af,z18,di];omega);intro e2 mY;simp only[IE.af,mY 18 (by omega),VE,di];intro e2 mY;simp only[IE.af,mY 18 (by omega),mY 1 (by omega),VE,k1,di,dl]
theorem wI(Kg:∀ds,Kl ds->∃rs,E 46 ds rs/\G0 ds rs){m0:Int}{F:List (List Int)}{b:Bool}{B:au}(h0:0<=m0)(h9:m0<=9)(hF:F.length<=256)
   (hB:∀(e:az) (out:List (List Int)) (i c:Int) (G:List DV->Prop),aaj m0 F b e out i c G->B.gC E (GD [.i m0,.l F,.b b]) [] e (lN F0 30010 G)) :
   (MD m0 B).2.gC E (GD [.i m0,.l F,.b b]) [] (aR.av 0 [.i m0,.l F,.b b]) F0:=by
 unfold MD;refine IK (iy Kg ⟨m0,F.length,rfl,h0,h9,by omega,by omega⟩ ?_);rintro _ _ ⟨c,rfl,wN,hc,Hg⟩;have Hg:=Hg m0 F.length rfl;refine nZ (fun ds=>∃(out:List (List Int)) (i:Int),ds=[.l out,.i i]/\(out.length:Int)<=i/\0<=i/\i<=c/\∀r∈out,vp m0 F.length r) (fun| [_,.i i]=>(c-i).toNat|_=>0)
   ⟨[],0,rfl,by simp,by omega,by omega,fun r hr=>by cases hr⟩ ?_
 rintro _ ⟨out,i,rfl,hol,rK,hic,gD⟩;refine gZ (fun cJ=>?_) (fun mF=>?_);have cJ:i<c:=cJ;refine hB _ out i c _ ⟨?_,rfl,rfl,hol,rK,cJ,hc,Hg (by omega),?_⟩;intro k hk;simp only[az.av,az.set];rw[if_neg (by omega),if_neg (by omega),if_neg (by omega)];intro r hr;refine⟨⟨out++[r],i+1,rfl,by simp;omega,by omega,by omega,fun r' cO=>?_⟩,?_⟩;rcases lQ.1 cO with cO|cO;exact gD r' cO;rw[lg]at cO;subst cO;exact hr;show(c-(i+1)).toNat<(c-i).toNat;omega;exact dN (rs:=[.l out,.i 0]) rfl ⟨out,0,rfl,by omega,by omega,fun m' F' b' e r hr=>by cases e;exact gD r hr⟩
theorem o30(h44:∀ds,Ql ds->∃rs,E 44 ds rs/\Qm ds rs)(Kg:∀ds,Kl ds->∃rs,E 46 ds rs/\G0 ds rs)(Cd:∀ds,A' ds->∃rs,E 47 ds rs/\Ba ds rs){ds:List DV}(hp:PW ds):t30.gC E (GD ds) [] (aR.av 0 ds) F0:=by
 obtain⟨m,F,b,rfl,hF⟩:=hp;unfold t30;refine lY (fun h=>?_) (fun h=>?_);exact dN (rs:=[.l [],.i 1]) rfl ⟨[],1,rfl,by simp,by omega,fun _ _ _ _ r hr=>by cases hr⟩;have hm:0<=m/\m<=9:=by
   simp[BE.af,IE.af,DV.int,az.av,az.set]at h;omega
 refine gZ (fun _=>?_) (fun _=>?_);exact dN (rs:=[.l [],.i 8]) rfl ⟨[],8,rfl,by simp,by omega,fun _ _ _ _ r hr=>by cases hr⟩;refine dW (fun e=>?_) (fun e9=>?_);have e:m=9:=e;subst e;refine iy h44 ⟨F,rfl,hF⟩ ?_;rintro _ _ ⟨L,rfl,hL,gD⟩;exact dN (rs:=[.l L,.i 0]) rfl ⟨L,0,rfl,by omega,by omega,fun m' F' b' e r hr=>by cases e;exact gD F rfl r hr⟩;refine dW (fun e=>?_) (fun e0=>?_);have e:m=0:=e;subst e;exact wI Kg (by omega) (by omega) hF fun e out i c G h=>wH Cd (K:=[0]) h rfl (by omega) (by decide) (by decide) (by decide) rfl (by omega) (by omega) (by decide) (by omega) (by omega) (by omega) (by decide);refine dW (fun e=>?_) (fun e1=>?_);have e:m=1:=e;subst e;exact wI Kg (by omega) (by omega) hF fun e out i c G h=>wH Cd (K:=[0,1]) h rfl (by omega) (by decide) (by decide) (by decide) rfl (by omega) (by omega) (by decide) (by omega) (by omega) (by omega) (by decide);refine dW (fun e=>?_) (fun e2=>?_);have e:m=2:=e;subst e;exact wI Kg (by omega) (by omega) hF fun e out i c G h=>wH Cd (K:=[0,1]) h rfl (by omega) (by decide) (by decide) (by decide) rfl (by omega) (by omega) (by decide) (by omega) (by omega) (by omega) (by decide);refine dW (fun e=>?_) (fun e3=>?_);have e:m=3:=e;subst e;exact wI Kg (by omega) (by omega) hF fun e out i c G h=>wH Cd (K:=[0,1]) h rfl (by omega) (by decide) (by decide) (by decide) rfl (by omega) (by omega) (by decide) (by omega) (by omega) (by omega) (by decide);refine dW (fun e=>?_) (fun e4=>?_);have e:m=4:=e;subst e;exact wI Kg (by omega) (by omega) hF fun e out i c G h=>wH Cd (K:=[0,1,2]) h rfl (by omega) (by decide) (by decide) (by decide) rfl (by omega) (by omega) (by decide) (by omega) (by omega) (by decide) (by omega);refine dW (fun e=>?_) (fun e5=>?_);have e:m=5:=e;subst e;refine wI Kg (by omega) (by omega) hF fun e out i c G h=>IL (fun p hp=>?_) (lY (fun _=>?_) (fun _=>?_));simp only[lg]at hp;subst hp;have:e 10 = .l (eK [1,0,2]):=h.jO 10 (by omega);simp[BE.af,IE.af,this,dl,eK];exact wH Cd (K:=[1,0,2]) h rfl (by omega) (by decide) (by decide) (by decide) rfl (by omega) (by omega) (by decide) (by omega) (by omega) (by decide) (by omega);exact wH Cd (K:=[0,1,2]) h rfl (by omega) (by decide) (by decide) (by decide) rfl (by omega) (by omega) (by decide) (by omega) (by omega) (by decide) (by omega);refine dW (fun e=>?_) (fun e6=>?_);have e:m=6:=e;subst e;exact wI Kg (by omega) (by omega) hF fun e out i c G h=>aak Cd h;refine dW (fun e=>?_) (fun e7=>?_);have e:m=7:=e;subst e;exact wI Kg (by omega) (by omega) hF fun e out i c G h=>wH Cd (K:=[0,1,2,3]) h rfl (by omega) (by decide) (by decide) (by decide) rfl (by omega) (by omega) (by decide) (by omega) (by omega) (by decide) (by omega);refine dW (fun e=>?_) (fun e8=>?_);have e:m=8:=e;subst e;exact wI Kg (by omega) (by omega) hF fun e out i c G h=>wH Cd (K:=[0,1,3,2]) h rfl (by omega) (by decide) (by decide) (by decide) rfl (by omega) (by omega) (by decide) (by omega) (by omega) (by decide) (by omega);have e0:m≠0:=e0;have e1:m≠1:=e1;have e2:m≠2:=e2;have e3:m≠3:=e3;have e4:m≠4:=e4;have e5:m≠5:=e5;have e6:m≠6:=e6;have e7:m≠7:=e7;have e8:m≠8:=e8;have e9:m≠9:=e9;omega
end
variable {X:bH}
theorem g47:mb (TT Tryz.prog) X 47 A' Ba:=lB T47 fun ds hp=>o47 hp
theorem g44:mb (TT Tryz.prog) X 44 Ql Qm:=lB T44 fun ds hp=>o44 g47 hp
theorem g46:mb (TT Tryz.prog) X 46 Kl G0:=lB T46 fun ds hp=>o46 hp
theorem g30:mb (TT Tryz.prog) X 30 PW GD:=lB T30 fun ds hp=>o30 g44 g46 g47 hp
end
section
open Go.Sx Go
def t57:au:=
.ev (.call 80 (.c true) [.i (.v 0)] [.one (.s 146 [i6,i6]),oB] 3) (
.ite (.not (.v 4)) (
.ret [.i (.c 5)]) (
.ite (.not (.eq (.len 3) (.len 1))) (
.ret [.i (.c 1)]) (
.loop 57007 [.i (.c 0),.i (.c 0)] [.c i6,.c i6] 5 (
.ite (.lt (.v 6) (.len 1)) (
.ev (.aG (.le (.c 0) (.v 6))) (
.ev (.aG (.lt (.v 6) (.len 3))) (
.ite (.or (.lt (.get 1 (.v 6) 0) (.get 3 (.v 6) 0)) (.lt (.get 3 (.v 6) 1) (.get 1 (.v 6) 0))) (
.ret [.i (.c 4)]) (
.ev (.aG (r6 (.add (.v 6) (.c 1)))) (
.again 57007 [.i (.v 5),.i (.add (.v 6) (.c 1))]))))) (
.ret [.i (.c 0)])))))
theorem T57:TT Tryz.prog 57=some ⟨57,t57,(rowOf 57).sub⟩:=by kernel_rfl
variable {X:bH}
theorem alP:ev (TT Tryz.prog) X 40 80 [.i 1]=some [.l [[1,1024],[1,1024]],.b true]:=by kernel_rfl
def XE(ds:List DV):Prop:=ds=[.i 1]
def XG(ds rs:List DV):Prop:=rs=[.l [[1,1024],[1,1024]],.b true]
theorem alQ:mb (TT Tryz.prog) X 80 XE XG:=fun ds hp=>by
 obtain rfl:ds=[.i 1]:=hp;exact⟨_,⟨40,alP⟩,rfl⟩
theorem o57{E:Nat->List DV->List DV->Prop}(h80:∀ds,XE ds->∃rs,E 80 ds rs/\XG ds rs){ds:List DV}(hp:GV ds):t57.gC E (GX ds) [] (aR.av 0 ds) (fun _ _=>False):=by
 obtain⟨xs,rfl,hx⟩:=hp;unfold t57;refine iy h80 rfl ?_;rintro _ _ rfl;refine og (fun h=>?_) (fun _=>?_);have:true=false:=h;cases this;refine og (fun h=>?_) (fun h=>?_);have h:¬ ((2:Int)=xs.length):=Fc h;refine dN (rs:=[.i 1]) rfl ⟨1,rfl,by omega,fun ys e=>?_⟩;cases e;exact⟨fun h=>by omega,fun hs=>absurd (by rw[hs.1];rfl) h⟩;have h:(2:Int)=xs.length:=mC h;refine nZ (fun ds=>∃q i:Int,ds=[.i q,.i i]/\0<=i/\i<=2/\(1<=i->1<=cellAt xs 0 0/\cellAt xs 0 0<=1024)/\(2<=i->1<=cellAt xs 1 0/\cellAt xs 1 0<=1024)) (fun| [_,.i i]=>(2-i).toNat|_=>0)
   ⟨0,0,rfl,by omega,by omega,fun h=>by omega,fun h=>by omega⟩ ?_
 rintro _ ⟨q,i,rfl,rK,Pf,h0,h1⟩;refine gZ (fun cJ=>?_) (fun mF=>?_);have cJ:i<(xs.length:Int):=cJ;refine pq (show(0:Int)<=i from rK) (MF (show i<(2:Int)by omega) ?_);have hc:cellAt [[1,1024],[1,1024]] i 0=1/\cellAt [[1,1024],[1,1024]] i 1=1024:=by
   obtain rfl|rfl:i=0\/i=1:=by omega
   exact⟨rfl,rfl⟩;exact⟨rfl,rfl⟩
 refine lY (fun hb=>?_) (fun hb=>?_);have hb:(decide (cellAt xs i 0<cellAt [[1,1024],[1,1024]] i 0)||decide (cellAt [[1,1024],[1,1024]] i 1<cellAt xs i 0))=true:=hb;rw[hc.1,hc.2,fF,aC,aC]at hb;refine dN (rs:=[.i 4]) rfl ⟨4,rfl,by omega,fun ys e=>?_⟩;cases e;refine⟨fun h=>by omega,fun hs=>?_⟩;obtain⟨_,s0,s1⟩:=hs;obtain rfl|rfl:i=0\/i=1:=by omega
 omega;omega;have hb:(decide (cellAt xs i 0<cellAt [[1,1024],[1,1024]] i 0)||decide (cellAt [[1,1024],[1,1024]] i 1<cellAt xs i 0))=false:=hb;rw[hc.1,hc.2,uL,tZ,tZ]at hb;refine zc (show(-9223372036854775808:Int)<=i+1/\i+1<=9223372036854775807 by omega) (lO ⟨⟨q,i+1,rfl,by omega,by omega,fun h=>?_,fun h=>?_⟩,?_⟩);rcases Int.lt_or_le 0 i with h5|h5;exact h0 (by omega);obtain rfl:i=0:=by omega
 omega;obtain rfl:i=1:=by omega
 omega;show(2-(i+1)).toNat<(2-i).toNat;omega;have mF:(xs.length:Int)<=i:=mF;refine dN (rs:=[.i 0]) rfl ⟨0,rfl,by omega,fun ys e=>?_⟩;cases e;exact⟨fun _=>⟨by omega,h0 (by omega),h1 (by omega)⟩,fun _=>rfl⟩
theorem alR:mb (TT Tryz.prog) X 57 GV GX:=lB T57 fun ds hp=>o57 alQ hp
end
section
open Go.Sx Go
variable {X:bH}
def Xf:List (List Int):=[[0,255],[0,255],[0,255],[0,255]]
theorem aeU:ev (TT Tryz.prog) X 40 80 [.i 14]=some [.l [[0,255],[0,255],[0,255],[0,255]],.b true]:=by kernel_rfl
def Qq(ds:List DV):Prop:=ds=[.i 14]
def Qr(ds rs:List DV):Prop:=rs=[.l Xf,.b true]
theorem alS:mb (TT Tryz.prog) X 80 Qq Qr:=fun ds hp=>by
 obtain rfl:ds=[.i 14]:=hp;exact⟨_,⟨40,aeU⟩,rfl⟩
def Qt(ds:List DV):Prop:=∃xs:List (List Int),ds=[.i 14,.l xs]/\xs.length<=40
def aal(xs:List (List Int))(n:Int):Prop:=∀j:Int,0<=j->j<n->cellAt Xf j 0<=cellAt xs j 0/\cellAt xs j 0<=cellAt Xf j 1
def Qu(ds rs:List DV):Prop:=∃e:Int,rs=[.i e]/\∀xs,ds=[.i 14,.l xs]->e=0->xs.length=4/\aal xs 4
theorem alT{E:Nat->List DV->List DV->Prop}(h80:∀ds,Qq ds->∃rs,E 80 ds rs/\Qr ds rs){ds:List DV}(hp:Qt ds):t57.gC E (Qu ds) [] (aR.av 0 ds) (fun _ _=>False):=by
 obtain⟨xs,rfl,hx⟩:=hp;unfold t57;refine iy h80 rfl ?_;rintro _ _ rfl;refine og (fun h=>?_) (fun _=>?_);have:true=false:=h;cases this;refine og (fun h=>?_) (fun h=>?_);exact dN (rs:=[.i 1]) rfl ⟨1,rfl,fun ys e he=>by omega⟩;have h:(4:Int)=xs.length:=mC h;refine nZ (fun ds=>∃q i:Int,ds=[.i q,.i i]/\0<=i/\i<=4/\aal xs i) (fun| [_,.i i]=>(4-i).toNat|_=>0)
   ⟨0,0,rfl,by omega,by omega,fun j h1 h2=>by omega⟩ ?_
 rintro _ ⟨q,i,rfl,rK,hi4,hI⟩;refine gZ (fun cJ=>?_) (fun mF=>?_);have cJ:i<(xs.length:Int):=cJ;refine pq (show(0:Int)<=i from rK) (MF (show i<(4:Int)by omega) ?_);refine lY (fun hb=>?_) (fun hb=>?_);exact dN (rs:=[.i 4]) rfl ⟨4,rfl,fun ys e he=>by omega⟩;have hb:(decide (cellAt xs i 0<cellAt Xf i 0)||decide (cellAt Xf i 1<cellAt xs i 0))=false:=hb;rw[uL,tZ,tZ]at hb;refine zc (show(-9223372036854775808:Int)<=i+1/\i+1<=9223372036854775807 by omega) (lO ⟨⟨q,i+1,rfl,by omega,by omega,fun j h1 h2=>?_⟩,?_⟩);by_cases hj:j<i;exact hI j h1 hj;obtain rfl:j=i:=by omega
 omega;show(4-(i+1)).toNat<(4-i).toNat;omega;have mF:(xs.length:Int)<=i:=mF;refine dN (rs:=[.i 0]) rfl ⟨0,rfl,fun ys e he=>?_⟩;cases e;exact⟨by omega,fun j h1 h2=>hI j h1 (by omega)⟩
theorem alU:mb (TT Tryz.prog) X 57 Qt Qu:=lB T57 fun ds hp=>alT alS hp
abbrev zr:BE:=imp (.and (.eq (.v 0) (.c 14)) (.eq (rr 0) (.c 0))) (eG ((List.range 4).flatMap fun(j:Nat)=>lG 0 (.get 1 (.c j) 0) 255))
theorem G1{ae:az}(m e:Int)(xs:List (List Int))(hm:ae 0 = .i m)(h0:ae R0 = .i e)(h1:ae 1 = .l xs)(h:m=14->e=0->xs.length=4/\aal xs 4):zr.af ae=true:=by
 by_cases he:m=14/\e=0;obtain⟨s1,s2⟩:=h he.1 he.2;have k0:=s2 0 (by omega) (by omega);have k1:=s2 1 (by omega) (by omega);have k2:=s2 2 (by omega) (by omega);have k3:=s2 3 (by omega) (by omega);have k0:(0:Int)<=cellAt xs 0 0/\cellAt xs 0 0<=255:=k0;have k1:(0:Int)<=cellAt xs 1 0/\cellAt xs 1 0<=255:=k1;have k2:(0:Int)<=cellAt xs 2 0/\cellAt xs 2 0<=255:=k2;have k3:(0:Int)<=cellAt xs 3 0/\cellAt xs 3 0<=255:=k3;have e4:(List.range 4)=[0,1,2,3]:=rfl;simp[zr,e4,imp,eG,lG,BE.af,IE.af,rr,hm,h0,h1,DV.int,DV.list,k0,k1,k2,k3];have:(decide (m=14)&&decide (e=0))=false:=by
   rw[NY,tZ,tZ];omega
 simp only[zr,imp,BE.af,IE.af,rr,gP,h0,hm,DV.int,this,Bool.not_false,Bool.true_or]
end
section
open Go.Sx Go
abbrev QD(P:Program)(X:bH)(i k:Nat):Prop:=oc (TT P) X kc (ord.take i)->mb (TT P) X k (kc k).gN (kc k).ij
theorem E2{k:Nat}(h:(kc k).pre.any (fun p=>p.beq (.c false))=true):∀ds,¬ (kc k).gN ds:=fun ds hp=>by
 rw[lT]at h;obtain⟨p,h1,h2⟩:=h;have e:=hp.2 _ h1;cases p<;>simp[BE.beq]at h2;subst h2;simp[BE.af]at e
variable {X:bH}
theorem ajL:QD Tryz.prog X 19 47:=fun _ ds hp=>absurd hp (E2 (by kernel_rfl) ds)
theorem ajM:QD Tryz.prog X 20 44:=fun _ ds hp=>absurd hp (E2 (by kernel_rfl) ds)
theorem ajQ:QD Tryz.prog X 160 12:=fun _ ds hp=>absurd hp (E2 (by kernel_rfl) ds)
theorem ajU:QD Tryz.prog X 174 17:=fun _ ds hp=>absurd hp (E2 (by kernel_rfl) ds)
theorem amr:kc 30=⟨[.i mn mx,.l 0 (some 256) [],.b],[],[.l 0 (some 256) [(1,256),(0,256),(0,255)],.i mn mx],[]⟩:=by kernel_rfl
theorem ajN:QD Tryz.prog X 22 30:=fun _=>by
 rw[amr];refine mb.weaken g30 (fun ds hp=>?_) (fun ds rs hp h=>?_);obtain⟨hp,_⟩:=hp
 match ds,hp with
 | [.i m,.l F,.b b],⟨_,⟨_,h2,_⟩,_⟩=>exact⟨m,F,b,rfl,by have:=h2 _ rfl;omega⟩
 obtain⟨hp,_⟩:=hp
 match ds,hp with
 | [.i m,.l F,.b b],⟨_,⟨_,h2,_⟩,_⟩=>
   have hF:=h2 _ rfl;obtain⟨L,e,rfl,hL,he,ch⟩:=h;refine⟨⟨⟨by omega,fun y hy=>?_,fun r hr=>?_⟩,⟨?_,?_⟩,trivial⟩,fun p hp=>by cases hp⟩;cases hy;omega;obtain⟨V,E,p,rfl,v1,v2,_,p1,p2,_,e1,e2,_⟩:=ch m F b rfl r hr;have hE:(E.length:Int)<=256:=by
     rcases mS V.length 3 with h|h;rw[e1 h];decide;rw[e2 h];omega
   have hF':(F.length:Int)<=256:=hF;refine⟨⟨?_,?_⟩,⟨?_,?_⟩,⟨?_,?_⟩,trivial⟩<;>simp only[ui,List.getD_cons_zero,List.getD_cons_succ]<;>omega;show mn<=e;unfold mn;omega;show e<=mx;unfold mx;omega
theorem ams:kc 27=⟨[.l 0 (some 1099511627776) [],.i mn mx,.i mn mx],[],[.b],[]⟩:=by kernel_rfl
theorem ajT:QD Tryz.prog X 173 27:=fun _=>by
 rw[ams];refine mb.weaken g27 (fun ds hp=>?_) (fun ds rs hp h=>?_);obtain⟨hp,_⟩:=hp
 match ds,hp with
 | [.l F,.i m,.i q],⟨⟨_,h2,_⟩,_⟩=>exact⟨F,m,q,rfl,by have:=h2 _ rfl;omega⟩
 obtain⟨b,rfl,_⟩:=h;exact⟨⟨trivial,trivial⟩,fun p hp=>by cases hp⟩
theorem amt:kc 64=⟨[.i 1 1],[],[.l 2 (some 2) [(1,1),(1024,1024)],.b],[rb 1]⟩:=by kernel_rfl
theorem ajR:QD Tryz.prog X 171 64:=fun _=>by
 rw[amt];refine mb.weaken g64 (fun ds hp=>?_) (fun ds rs hp h=>?_);obtain⟨hp,_⟩:=hp
 match ds,hp with
 | [.i m],⟨⟨h1,h2⟩,_⟩=>
   obtain rfl:m=1:=by omega
   rfl
 . obtain rfl:rs=_:=h;refine⟨⟨⟨by decide,fun y hy=>?_,fun r hr=>?_⟩,trivial,trivial⟩,fun p hp=>?_⟩;cases hy;decide
   . obtain rfl|rfl:r=[1,1024]\/r=[1,1024]:=by simpa using hr
     all_goals exact⟨⟨by decide,by decide⟩,⟨by decide,by decide⟩,trivial⟩
   obtain rfl:p=rb 1:=by simpa using hp
   show((fU ds [.l [[1,1024],[1,1024]],.b true]) (R0+1)).bool=true;rw[fU,mz (by decide)];rfl
def szE(l:Nat):BE:=imp (.eq (rr 0) (.c 0)) (eG (rf l))
theorem VK{ae:az}(e:Int)(xs:List (List Int))(h0:ae R0 = .i e)(h1:ae 1 = .l xs)(h:e=0->Sz xs):(szE 1).af ae=true:=by
 by_cases he:e=0;obtain⟨s1,s2,s3⟩:=h he;have e1:((xs.length:Int)==2)=true:=by rw[s1];rfl
 simp[szE,imp,eG,rf,lG,BE.af,IE.af,rr,h0,h1,DV.int,DV.list,s1,s2,s3];simp[szE,imp,BE.af,IE.af,rr,h0,DV.int,he]
theorem amu:kc 40=⟨[.i 1 1,.l 0 (some 40) [(mn,mx)]],[],[.i 0 12],[szE 1]⟩:=by kernel_rfl
theorem ajS:QD Tryz.prog X 172 40:=fun _=>by
 rw[amu];refine mb.weaken g40 (fun ds hp=>?_) (fun ds rs hp h=>?_);obtain⟨hp,_⟩:=hp
 match ds,hp with
 | [.i m,.l xs],⟨⟨h1,h2⟩,⟨_,h3,_⟩,_⟩=>
   obtain rfl:m=1:=by omega
   exact⟨xs,rfl,by have:=h3 _ rfl;omega⟩
 obtain⟨hp,_⟩:=hp
 match ds,hp with
 | [.i m,.l xs],⟨⟨h1,h2⟩,⟨_,h3,_⟩,_⟩=>
   obtain rfl:m=1:=by omega
   obtain⟨e,rfl,he,hz⟩:=h;refine⟨⟨he,trivial⟩,fun p hp=>?_⟩;obtain rfl:p=szE 1:=by simpa using hp
   refine VK e xs ?_ ?_ (hz xs rfl).1;have:=mz (e:=aR.av 0 [.i 1,.l xs]) (b:=R0) (j:=0) (ds:=[.i e]) (Nat.zero_lt_one);exact this;rw[fU,az.bd (by unfold R0;omega)];exact iD (ds:=[.i 1,.l xs]) (j:=1) (Nat.lt_succ_self 1)
abbrev E3:BE:=imp (.and (.eq (.v 0) (.c 1)) (.eq (rr 0) (.c 0))) (eG (rf 1))
theorem ae0:kc 57=⟨[.i mn mx,.l 0 (some 40) [(mn,mx)]],[],[.i 0 12],(bare 57 (kc 57)).post++[zr,E3]⟩:=by kernel_rfl
theorem IQ:bare 57 (kc 57)=⟨[.i mn mx,.l 0 (some 40) [(mn,mx)]],[],[.i 0 12],(bare 57 (kc 57)).post⟩:=by kernel_rfl
theorem p57:(yF (UG kc (ord.take 130)) (iG.mk 57 t57 (rowOf 57).sub).key (an 57) (bare 57 (kc 57)) t57).isEmpty=true:=by kernel_rfl
theorem IS{ae:az}(m e:Int)(xs:List (List Int))(hm:ae 0 = .i m)(h0:ae R0 = .i e)(h1:ae 1 = .l xs)(h:m=1->e=0->Sz xs):E3.af ae=true:=by
 by_cases he:m=1/\e=0;obtain⟨s1,s2,s3⟩:=h he.1 he.2;simp[E3,imp,eG,rf,lG,BE.af,IE.af,rr,hm,h0,h1,DV.int,DV.list,s1,s2,s3];have:(decide (m=1)&&decide (e=0))=false:=by
   rw[NY,tZ,tZ];omega
 simp only[E3,imp,BE.af,IE.af,rr,gP,h0,hm,DV.int,this,Bool.not_false,Bool.true_or]
theorem ajP:QD Tryz.prog X 130 57:=fun hG=>by
 have hb:mb (TT Tryz.prog) X 57 (bare 57 (kc 57)).gN (bare 57 (kc 57)).ij:=JY T57 (Ih hG) (aw 57) (by rw[IQ];decide) p57;intro ds hp;rw[ae0]at hp;obtain⟨rs,g,hq⟩:=hb ds (by rw[IQ];exact hp);refine⟨rs,g,?_⟩;rw[ae0];rw[IQ]at hq;obtain⟨q1,q2⟩:=hq;refine⟨q1,fun p xx=>?_⟩;rcases lQ.1 xx with h|h;exact q2 p h;obtain⟨hp,_⟩:=hp
 match ds,hp,rs,q1,g with
 | [.i m,.l xs],⟨_,⟨_,h3,_⟩,_⟩,[.i e],_,g=>
   have e0:fU [.i m,.l xs] [.i e] 0 = .i m:=by
     rw[fU,az.bd (by unfold R0;omega)];exact iD (ds:=[.i m,.l xs]) (j:=0) (Nat.zero_lt_succ 1)
   have e1:fU [.i m,.l xs] [.i e] R0 = .i e:=mz (e:=aR.av 0 [.i m,.l xs]) (b:=R0) (j:=0) (ds:=[.i e]) Nat.zero_lt_one;have e2:fU [.i m,.l xs] [.i e] 1 = .l xs:=by
     rw[fU,az.bd (by unfold R0;omega)];exact iD (ds:=[.i m,.l xs]) (j:=1) (Nat.lt_succ_self 1)
   have hx:xs.length<=40:=by have:=h3 _ rfl;omega
   rcases bD.1 h with rfl|h;refine G1 m e xs e0 e1 e2 fun hm he=>?_;subst hm;obtain⟨eo,g',e',rfl,hz⟩:=alU (X:=X) [.i 14,.l xs] ⟨xs,rfl,hx⟩;have:=cK.uf g g';cases this;exact hz xs rfl he;obtain rfl:=lg.1 h;refine IS m e xs e0 e1 e2 fun hm he=>?_;subst hm;obtain⟨eo,g',e',rfl,_,hz⟩:=alR (X:=X) [.i 1,.l xs] ⟨xs,rfl,hx⟩;have:=cK.uf g g';cases this;exact(hz xs rfl).1 he
end
section
open Go.Sx Go
theorem ae5:kc 241=⟨[.i 0 18446744073709551615,.i 0 18446744073709551615,.i 0 18446744073709551615],[.lt (.v 0) (.v 2)],[.i 0 18446744073709551615,.i 0 18446744073709551615],[]⟩:=by kernel_rfl
theorem adC{X:bH}(hX:X 283=xI):QD Tryz.prog X 48 241:=fun _=>by
 rw[ae5];intro ds hp;obtain⟨ha,hq⟩:=hp
 match ds,ha,hq with
 | [.i hi,.i lo,.i y],⟨⟨a0,a1⟩,⟨b0,b1⟩,⟨c0,c1⟩,_⟩,hq=>
   have cJ:hi<y:=mC (hq _ (aK ..));obtain⟨rs,g,h⟩:=adl hX [.i hi,.i lo,.i y] ⟨hi,lo,y,rfl,a0,cJ,by omega,b0,by omega⟩;have h:=h hi lo y rfl;refine⟨rs,g,?_⟩;rw[show rs=_ from h];have n0:0<=hi*18446744073709551616+lo:=by omega
   have q0:=uU n0 (show 0<=y by omega);have q1:(hi*18446744073709551616+lo)/y<18446744073709551616:=DS (by omega) (by omega);have r0:=yM (hi*18446744073709551616+lo) (show y≠0 by omega);have r1:=xp (hi*18446744073709551616+lo) (show 0<y by omega);exact⟨⟨⟨q0,by omega⟩,⟨r0,by omega⟩,trivial⟩,fun p hp=>by cases hp⟩
end
end Go.Proofs.YtohebioanhliiaaGreatDoor.aF

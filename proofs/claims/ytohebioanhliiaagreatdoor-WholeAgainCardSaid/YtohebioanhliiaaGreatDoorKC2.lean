/- Functions shown by hand: Run, opened, Prims, Right. -/
import Derived.Test.YtohebioanhliiaaGreatDoorKC1
import Derived.Test.YtohebioanhliiaaGreatDoorKB2
set_option maxRecDepth 100000
set_option linter.unusedVariables false
set_option linter.unusedSimpArgs false
namespace Go.Proofs.YtohebioanhliiaaGreatDoor.aD
open Go.Sx
def t12:aw:=
.ev (.call 23 (.c true) [] [.agg [.c i6,.c i6,.c i6,.s 3 [i6],.s 3 [i6],.c i6,.c i6,.c i6,.c i6,.c i6,.c i6,.c i6,.c i6,.c i6,.c i6,.s 138 [i6,i6,i6,i6,i6,i6,i6,i6,i6,i6,i6,i6,i6,i6,i6,i6],.s 138 [i6,i6,i6,i6,i6,i6,i6,i6,i6,i6,i6,i6,i6,i6,i6,i6],.c i6,.c i6,.c i6,.c i6,.c i6,.c i6,.c i6,.c i6,.c i6,.c i6,.c i6,.c i6,.c i6,.c i6,.c i6,.c i6,.c i6,.c i6,.c i6,.c i6,.c i6,.c i6,.c i6,.c i6,.c i6,.c i6,.c i6,.c i6,.c i6,.c i6,.c (.b),.c (.b),.c (.b),.c (.b),.c (.b),.c (.b),.c i6,.c i6,.c i6,.c i6,.c (.b),.c (.b),.c i6,.s 76 bY,.s 4 [.b],.c i6,.c (.b),.c (.b),.c i6,.c i6,.c i6,.c i6,.c i6,.c i6,.c i6,.c (.b),.c i6,.c (.b),.c i6,.c i6,.c (.b),.c (.b),.c (.b),.c i6,.c i6,.c i6,.c i6,.c (.b),.c i6,.c (.b),.c (.b),.c i6,.c i6,.c (.b),.c (.b),.c (.b),.c (.b)]] 2) (
.loop 12003 [.i (.c 0),.i (.v 2),.i (.v 3),.i (.v 4),.l 5,.l 6,.i (.v 7),.i (.v 8),.i (.v 9),.i (.v 10),.i (.v 11),.i (.v 12),.i (.v 13),.i (.v 14),.i (.v 15),.i (.v 16),.l 17,.l 18,.i (.v 19),.i (.v 20),.i (.v 21),.i (.v 22),.i (.v 23),.i (.v 24),.i (.v 25),.i (.v 26),.i (.v 27),.i (.v 28),.i (.v 29),.i (.v 30),.i (.v 31),.i (.v 32),.i (.v 33),.i (.v 34),.i (.v 35),.i (.v 36),.i (.v 37),.i (.v 38),.i (.v 39),.i (.v 40),.i (.v 41),.i (.v 42),.i (.v 43),.i (.v 44),.i (.v 45),.i (.v 46),.i (.v 47),.i (.v 48),.b (.v 49),.b (.v 50),.b (.v 51),.b (.v 52),.b (.v 53),.b (.v 54),.i (.v 55),.i (.v 56),.i (.v 57),.i (.v 58),.b (.v 59),.b (.v 60),.i (.v 61),.l 62,.l 63,.i (.v 64),.b (.v 65),.b (.v 66),.i (.v 67),.i (.v 68),.i (.v 69),.i (.v 70),.i (.v 71),.i (.v 72),.i (.v 73),.b (.v 74),.i (.v 75),.b (.v 76),.i (.v 77),.i (.v 78),.b (.v 79),.b (.v 80),.b (.v 81),.i (.v 82),.i (.v 83),.i (.v 84),.i (.v 85),.b (.v 86),.i (.v 87),.b (.v 88),.b (.v 89),.i (.v 90),.i (.v 91),.b (.v 92),.b (.v 93),.b (.v 94),.b (.v 95)] [.c i6,.c i6,.c i6,.c i6,.s 3 [i6],.s 3 [i6],.c i6,.c i6,.c i6,.c i6,.c i6,.c i6,.c i6,.c i6,.c i6,.c i6,.s 138 [i6,i6,i6,i6,i6,i6,i6,i6,i6,i6,i6,i6,i6,i6,i6,i6],.s 138 [i6,i6,i6,i6,i6,i6,i6,i6,i6,i6,i6,i6,i6,i6,i6,i6],.c i6,.c i6,.c i6,.c i6,.c i6,.c i6,.c i6,.c i6,.c i6,.c i6,.c i6,.c i6,.c i6,.c i6,.c i6,.c i6,.c i6,.c i6,.c i6,.c i6,.c i6,.c i6,.c i6,.c i6,.c i6,.c i6,.c i6,.c i6,.c i6,.c i6,.c (.b),.c (.b),.c (.b),.c (.b),.c (.b),.c (.b),.c i6,.c i6,.c i6,.c i6,.c (.b),.c (.b),.c i6,.s 76 bY,.s 4 [.b],.c i6,.c (.b),.c (.b),.c i6,.c i6,.c i6,.c i6,.c i6,.c i6,.c i6,.c (.b),.c i6,.c (.b),.c i6,.c i6,.c (.b),.c (.b),.c (.b),.c i6,.c i6,.c i6,.c i6,.c (.b),.c i6,.c (.b),.c (.b),.c i6,.c i6,.c (.b),.c (.b),.c (.b),.c (.b)] 97 (
.ite (.lt (.v 97) (.len 0)) (
.ev (.aG (.le (.c 0) (.v 97))) (
.ev (.ch 193 (.sub 0 (.v 97) [.c i6,.s 3 i6] 1)) (
.ev (.call 24 (.c true) [.i (.v 98),.i (.v 99),.i (.v 100),.l 101,.l 102,.i (.v 103),.i (.v 104),.i (.v 105),.i (.v 106),.i (.v 107),.i (.v 108),.i (.v 109),.i (.v 110),.i (.v 111),.i (.v 112),.l 113,.l 114,.i (.v 115),.i (.v 116),.i (.v 117),.i (.v 118),.i (.v 119),.i (.v 120),.i (.v 121),.i (.v 122),.i (.v 123),.i (.v 124),.i (.v 125),.i (.v 126),.i (.v 127),.i (.v 128),.i (.v 129),.i (.v 130),.i (.v 131),.i (.v 132),.i (.v 133),.i (.v 134),.i (.v 135),.i (.v 136),.i (.v 137),.i (.v 138),.i (.v 139),.i (.v 140),.i (.v 141),.i (.v 142),.i (.v 143),.i (.v 144),.b (.v 145),.b (.v 146),.b (.v 147),.b (.v 148),.b (.v 149),.b (.v 150),.i (.v 151),.i (.v 152),.i (.v 153),.i (.v 154),.b (.v 155),.b (.v 156),.i (.v 157),.l 158,.l 159,.i (.v 160),.b (.v 161),.b (.v 162),.i (.v 163),.i (.v 164),.i (.v 165),.i (.v 166),.i (.v 167),.i (.v 168),.i (.v 169),.b (.v 170),.i (.v 171),.b (.v 172),.i (.v 173),.i (.v 174),.b (.v 175),.b (.v 176),.b (.v 177),.i (.v 178),.i (.v 179),.i (.v 180),.i (.v 181),.b (.v 182),.i (.v 183),.b (.v 184),.b (.v 185),.i (.v 186),.i (.v 187),.b (.v 188),.b (.v 189),.b (.v 190),.b (.v 191),.i (.get 0 (.v 97) 0),.l 193] [.agg [.c i6,.c i6,.c i6,.s 3 [i6],.s 3 [i6],.c i6,.c i6,.c i6,.c i6,.c i6,.c i6,.c i6,.c i6,.c i6,.c i6,.s 138 [i6,i6,i6,i6,i6,i6,i6,i6,i6,i6,i6,i6,i6,i6,i6,i6],.s 138 [i6,i6,i6,i6,i6,i6,i6,i6,i6,i6,i6,i6,i6,i6,i6,i6],.c i6,.c i6,.c i6,.c i6,.c i6,.c i6,.c i6,.c i6,.c i6,.c i6,.c i6,.c i6,.c i6,.c i6,.c i6,.c i6,.c i6,.c i6,.c i6,.c i6,.c i6,.c i6,.c i6,.c i6,.c i6,.c i6,.c i6,.c i6,.c i6,.c i6,.c (.b),.c (.b),.c (.b),.c (.b),.c (.b),.c (.b),.c i6,.c i6,.c i6,.c i6,.c (.b),.c (.b),.c i6,.s 76 bY,.s 4 [.b],.c i6,.c (.b),.c (.b),.c i6,.c i6,.c i6,.c i6,.c i6,.c i6,.c i6,.c (.b),.c i6,.c (.b),.c i6,.c i6,.c (.b),.c (.b),.c (.b),.c i6,.c i6,.c i6,.c i6,.c (.b),.c i6,.c (.b),.c (.b),.c i6,.c i6,.c (.b),.c (.b),.c (.b),.c (.b)]] 195) (
.ev (.aG (r6 (.add (.v 97) (.c 1)))) (
.again 12003 [.i (.add (.v 97) (.c 1)),.i (.v 195),.i (.v 196),.i (.v 197),.l 198,.l 199,.i (.v 200),.i (.v 201),.i (.v 202),.i (.v 203),.i (.v 204),.i (.v 205),.i (.v 206),.i (.v 207),.i (.v 208),.i (.v 209),.l 210,.l 211,.i (.v 212),.i (.v 213),.i (.v 214),.i (.v 215),.i (.v 216),.i (.v 217),.i (.v 218),.i (.v 219),.i (.v 220),.i (.v 221),.i (.v 222),.i (.v 223),.i (.v 224),.i (.v 225),.i (.v 226),.i (.v 227),.i (.v 228),.i (.v 229),.i (.v 230),.i (.v 231),.i (.v 232),.i (.v 233),.i (.v 234),.i (.v 235),.i (.v 236),.i (.v 237),.i (.v 238),.i (.v 239),.i (.v 240),.i (.v 241),.b (.v 242),.b (.v 243),.b (.v 244),.b (.v 245),.b (.v 246),.b (.v 247),.i (.v 248),.i (.v 249),.i (.v 250),.i (.v 251),.b (.v 252),.b (.v 253),.i (.v 254),.l 255,.l 256,.i (.v 257),.b (.v 258),.b (.v 259),.i (.v 260),.i (.v 261),.i (.v 262),.i (.v 263),.i (.v 264),.i (.v 265),.i (.v 266),.b (.v 267),.i (.v 268),.b (.v 269),.i (.v 270),.i (.v 271),.b (.v 272),.b (.v 273),.b (.v 274),.i (.v 275),.i (.v 276),.i (.v 277),.i (.v 278),.b (.v 279),.i (.v 280),.b (.v 281),.b (.v 282),.i (.v 283),.i (.v 284),.b (.v 285),.b (.v 286),.b (.v 287),.b (.v 288)]))))) (
.ret ([.i (.v 98),.i (.v 99),.i (.v 100),.l 101,.l 102]++iv 103 10++[.l 113,.l 114]++iv 115 30++[.b (.v 145),.b (.v 146),.b (.v 147),.b (.v 148),.b (.v 149),.b (.v 150)]++iv 151 4++[.b (.v 155),.b (.v 156),.i (.v 157),.l 158,.l 159,.i (.v 160),.b (.v 161),.b (.v 162)]++iv 163 7++[.b (.v 170),.i (.v 171),.b (.v 172),.i (.v 173),.i (.v 174),.b (.v 175),.b (.v 176),.b (.v 177)]++iv 178 4++[.b (.v 182),.i (.v 183),.b (.v 184),.b (.v 185),.i (.v 186),.i (.v 187),.b (.v 188),.b (.v 189),.b (.v 190),.b (.v 191)]))))
theorem T12:TT Tryz.prog 12=some ⟨12,t12,(rowOf 12).sub⟩:=by kernel_rfl
def t17:aw:=
.ev (.call 27 (.c true) [.l 0,.i (.c 40),.i (.c 100)] [oB] 2) (
.ite (.not (.v 2)) (
.ret [.i (.c 0),.i (.c 0),.i (.c 0),.nil,.nil,.i (.c 0),.i (.c 0),.i (.c 0),.i (.c 0),.i (.c 0),.i (.c 0),.i (.c 0),.i (.c 0),.i (.c 0),.i (.c 0),.nil,.nil,.i (.c 0),.i (.c 0),.i (.c 0),.i (.c 0),.i (.c 0),.i (.c 0),.i (.c 0),.i (.c 0),.i (.c 0),.i (.c 0),.i (.c 0),.i (.c 0),.i (.c 0),.i (.c 0),.i (.c 0),.i (.c 0),.i (.c 0),.i (.c 0),.i (.c 0),.i (.c 0),.i (.c 0),.i (.c 0),.i (.c 0),.i (.c 0),.i (.c 0),.i (.c 0),.i (.c 0),.i (.c 0),.i (.c 0),.i (.c 0),.b (.c false),.b (.c false),.b (.c false),.b (.c false),.b (.c false),.b (.c false),.i (.c 0),.i (.c 0),.i (.c 0),.i (.c 0),.b (.c false),.b (.c false),.i (.c 0),.nil,.nil,.i (.c 0),.b (.c false),.b (.c false),.i (.c 0),.i (.c 0),.i (.c 0),.i (.c 0),.i (.c 0),.i (.c 0),.i (.c 0),.b (.c false),.i (.c 0),.b (.c false),.i (.c 0),.i (.c 0),.b (.c false),.b (.c false),.b (.c false),.i (.c 0),.i (.c 0),.i (.c 0),.i (.c 0),.b (.c false),.i (.c 0),.b (.c false),.b (.c false),.i (.c 0),.i (.c 0),.b (.c false),.b (.c false),.b (.c false),.b (.c false),.b (.c false)]) (
.ev (.call 12 (.c true) [.l 0] [.agg [.c i6,.c i6,.c i6,.s 3 [i6],.s 3 [i6],.c i6,.c i6,.c i6,.c i6,.c i6,.c i6,.c i6,.c i6,.c i6,.c i6,.s 138 [i6,i6,i6,i6,i6,i6,i6,i6,i6,i6,i6,i6,i6,i6,i6,i6],.s 138 [i6,i6,i6,i6,i6,i6,i6,i6,i6,i6,i6,i6,i6,i6,i6,i6],.c i6,.c i6,.c i6,.c i6,.c i6,.c i6,.c i6,.c i6,.c i6,.c i6,.c i6,.c i6,.c i6,.c i6,.c i6,.c i6,.c i6,.c i6,.c i6,.c i6,.c i6,.c i6,.c i6,.c i6,.c i6,.c i6,.c i6,.c i6,.c i6,.c i6,.c (.b),.c (.b),.c (.b),.c (.b),.c (.b),.c (.b),.c i6,.c i6,.c i6,.c i6,.c (.b),.c (.b),.c i6,.s 76 bY,.s 4 [.b],.c i6,.c (.b),.c (.b),.c i6,.c i6,.c i6,.c i6,.c i6,.c i6,.c i6,.c (.b),.c i6,.c (.b),.c i6,.c i6,.c (.b),.c (.b),.c (.b),.c i6,.c i6,.c i6,.c i6,.c (.b),.c i6,.c (.b),.c (.b),.c i6,.c i6,.c (.b),.c (.b),.c (.b),.c (.b)]] 3) (
.ev (.aG (.or (.not (.and (.and (.v 61) (.le (.c 1) (.v 4))) (.le (.c 1) (.v 5)))) (r6 (.mul (.v 4) (.v 5))))) (
.ret [.i (.v 3),.i (.v 4),.i (.v 5),.l 6,.l 7,.i (.v 8),.i (.v 9),.i (.v 10),.i (.v 11),.i (.v 12),.i (.v 13),.i (.v 14),.i (.v 15),.i (.v 16),.i (.v 17),.l 18,.l 19,.i (.v 20),.i (.v 21),.i (.v 22),.i (.v 23),.i (.v 24),.i (.v 25),.i (.v 26),.i (.v 27),.i (.v 28),.i (.v 29),.i (.v 30),.i (.v 31),.i (.v 32),.i (.v 33),.i (.v 34),.i (.v 35),.i (.v 36),.i (.v 37),.i (.v 38),.i (.v 39),.i (.v 40),.i (.v 41),.i (.v 42),.i (.v 43),.i (.v 44),.i (.v 45),.i (.v 46),.i (.v 47),.i (.v 48),.i (.v 49),.b (.v 50),.b (.v 51),.b (.v 52),.b (.v 53),.b (.v 54),.b (.v 55),.i (.v 56),.i (.v 57),.i (.v 58),.i (.v 59),.b (.v 60),.b (.v 61),.i (.v 62),.l 63,.l 64,.i (.v 65),.b (.v 66),.b (.v 67),.i (.v 68),.i (.v 69),.i (.v 70),.i (.v 71),.i (.v 72),.i (.v 73),.i (.v 74),.b (.v 75),.i (.v 76),.b (.v 77),.i (.v 78),.i (.v 79),.b (.v 80),.b (.v 81),.b (.v 82),.i (.v 83),.i (.v 84),.i (.v 85),.i (.v 86),.b (.v 87),.i (.v 88),.b (.v 89),.b (.v 90),.i (.v 91),.i (.v 92),.b (.v 93),.b (.v 94),.b (.v 95),.b (.v 96),.b (.and (.and (.and (.and (.v 61) (.le (.c 1) (.v 4))) (.le (.c 1) (.v 5))) (.eq (.len 6) (.mul (.v 4) (.v 5)))) (.eq (.len 7) (.len 6)))]))))
theorem T17:TT Tryz.prog 17=some ⟨17,t17,(rowOf 17).sub⟩:=by kernel_rfl
def pA:List A:=(kc 24).res
theorem Nw:pA.length=94:=by kernel_rfl
def sh(st:List DV)(j:Nat):Int:=(st.getD j (.i 0)).int
def pbool(st:List DV)(j:Nat):Bool:=(st.getD j (.i 0)).bool
def sD(st:List DV)(j:Nat):List (List Int):=(st.getD j (.i 0)).list
structure eZ(st:List DV):Prop where
 has:kT pA st
 c3:((sD st 3).length:Int)=sh st 1*sh st 2
 c4:((sD st 4).length:Int)=sh st 1*sh st 2
 c60:(sD st 60).length=(sD st 61).length
theorem eZ.len{st:List DV}(h:eZ st):st.length=94:=by rw[<- h.has.len,Nw]
theorem kX{ds:List DV}{b j:Nat}{e:az}(h:j<ds.length):e.ar b ds (b+j)=ds.getD j (.i 0):=by
 have:=az.cm (U:=e) (k:=b) (ds:=ds) (i:=j) (dJ h);rw[this];simp[List.getD,h]
theorem jC{ds:List DV}{j:Nat}(h:j<ds.length):aM.ar 0 ds j=ds.getD j (.i 0):=by
 have:=kX (e:=aM) (b:=0) h;rwa[Nat.zero_add]at this
theorem HQ{c:Cn}{ds rs:List DV}(hr:c.res=pA)(hq:c.post=qX R0)(h:c.fX ds rs):eZ rs:=by
 obtain⟨h1,h2⟩:=h;rw[hr]at h1;rw[hq]at h2;have hl:rs.length=94:=by rw[<- h1.len,Nw]
 have ea:∀j,j<94->fK ds rs (R0+j)=rs.getD j (.i 0):=fun j hj=>kX (by omega)
 have p0:=of_decide_eq_true (h2 (.eq (.len (R0+3)) (.mul (.v (R0+1)) (.v (R0+2)))) (by simp[qX]))
 have p1:=of_decide_eq_true (h2 (.eq (.len (R0+4)) (.mul (.v (R0+1)) (.v (R0+2)))) (by simp[qX]))
 have p2:=of_decide_eq_true (h2 (.eq (.len (R0+60)) (.len (R0+61))) (by simp[qX]))
 simp only[IE.ae,ea 3 (by omega),ea 4 (by omega),ea 1 (by omega),ea 2 (by omega),ea 60 (by omega),ea 61 (by omega)]at p0 p1 p2
 exact⟨h1,p0,p1,by unfold sD;omega⟩
theorem Gg{aa bs:List A}{ds es:List DV}:kT aa ds->kT bs es->kT (aa++bs) (ds++es):=by
 induction aa generalizing ds with
 | nil=>intro h1 h2;cases ds with
   |nil=>exact h2
   |cons d ds=>exact h1.elim
 | cons a aa ih=>intro h1 h2;cases ds with
   |nil=>exact h1.elim
   |cons d ds=>exact⟨h1.1,ih h1.2 h2⟩
structure HR(op:Int)(xs:List (List Int)):Prop where
 opR: -9223372036854775808<=op/\op<=9223372036854775807
 len:xs.length<=40
 gG:∀r∈xs,-9223372036854775808<=r.getD 0 0/\r.getD 0 0<=9223372036854775807
 sz:op=1->Sz xs->cellAt xs 0 0*cellAt xs 1 0<=100
theorem WW:(kc 24).args=pA++[.i mn mx,.l 0 (some 40) [cI]]:=by kernel_rfl
theorem acG:(kc 24).pre=qX 0++[imp (eA (.eq (.v 94) (.c 1)::pg 95)) (.le (.mul (.get 95 (.c 0) 0) (.get 95 (.c 1) 0)) (.c 100))]:=by kernel_rfl
theorem WX{st:List DV}{op:Int}{xs:List (List Int)}(h:eZ st)(hc:HR op xs):(kc 24).fS (st++[.i op,.l xs]):=by
 have hl:=h.len;refine⟨?_,?_⟩
 . rw[WW];refine Gg h.has ⟨hc.opR,⟨by omega,fun y e=>?_,fun r hr=>⟨hc.gG r hr,trivial⟩⟩,trivial⟩
   cases e;have:=hc.len;omega
 . have ea:∀j,j<94->aM.ar 0 (st++[.i op,.l xs]) j=st.getD j (.i 0):=fun j hj=>by
     rw[jC (by simp;omega)]
     simp only[cH];rw[List.getElem?_append_left (by omega)]
   have e94:aM.ar 0 (st++[.i op,.l xs]) 94 = .i op:=by
     rw[jC (by simp;omega)]
     simp only[cH];rw[List.getElem?_append_right (by omega),hl]
     rfl
   have e95:aM.ar 0 (st++[.i op,.l xs]) 95 = .l xs:=by
     rw[jC (by simp;omega)]
     simp only[cH];rw[List.getElem?_append_right (by omega),hl]
     rfl
   rw[acG];intro p hp;rcases List.mem_append.1 hp with hp|hp
   . simp only[qX,bq,List.not_mem_nil,or_false,Nat.zero_add]at hp;rcases hp with rfl|rfl|rfl
     . exact decide_eq_true (by simp only[IE.ae,ea 3 (by omega),ea 1 (by omega),ea 2 (by omega)];exact h.c3)
     . exact decide_eq_true (by simp only[IE.ae,ea 4 (by omega),ea 1 (by omega),ea 2 (by omega)];exact h.c4)
     . exact decide_eq_true (by simp only[IE.ae,ea 60 (by omega),ea 61 (by omega)];have:=h.c60;unfold sD at this;omega)
   . simp only[List.mem_singleton]at hp;subst hp;simp only[imp,eA,pg,kI,List.cons_append,List.nil_append,BE.ae,IE.ae,e94,e95,di,dl,fy,Bool.not_eq_true',Bool.and_eq_false_iff,decide_eq_false_iff_not,aC];by_cases h1:op=1
     . by_cases hs:Sz xs
       . exact .inr (hc.sz h1 hs)
       . refine .inl ?_;by_cases g0:(xs.length:Int)=2
         . by_cases g1:(1:Int)<=cellAt xs 0 0
           . by_cases g2:cellAt xs 0 0<=1024
             . by_cases g3:(1:Int)<=cellAt xs 1 0
               . by_cases g4:cellAt xs 1 0<=1024
                 . exact absurd ⟨by omega,⟨g1,g2⟩,⟨g3,g4⟩⟩ hs
                 . simp[g4]
               . simp[g3]
             . simp[g2]
           . simp[g1]
         . simp[g0]
     . exact .inl (.inl h1)
def uq:List A->Nat->List DE->Bool
 | [],_,[]=>true
 |.i _ _::aa,b,.i (.v k)::ds=>Nat.beq k b&&uq aa (b+1) ds
 |.b::aa,b,.b (.v k)::ds=>Nat.beq k b&&uq aa (b+1) ds
 |.l _ _ _::aa,b,.l k::ds=>Nat.beq k b&&uq aa (b+1) ds
 |_,_,_=>false
theorem lW{e:az}:∀ {aa:List A} {st:List DV} {Qz:List DE} {b:Nat},kT aa st->(∀j,j<st.length->e (b+j)=st.getD j (.i 0))->uq aa b Qz=true->Qz.map (DE.ae e)=st:=by
 intro aa;induction aa with
 | nil=>
   intro st Qz b h1 _ h3;cases st with
   | nil=>cases Qz with
     |nil=>rfl
     |cons d ds=>simp[uq]at h3
   |cons d ds=>exact h1.elim
 | cons a aa ih=>
   intro st Qz b h1 h2 h3;cases st with
   |nil=>exact h1.elim
   | cons d st=>
     have hd:e b=d:=h2 0 (by simp)
     have tl:∀j,j<st.length->e (b+1+j)=st.getD j (.i 0):=fun j hj=>by
       have:=h2 (j+1) (by simpa using hj)
       rw[show b+1+j=b+(j+1)by omega,this]
       rfl
     obtain⟨ha,hr⟩:=h1;cases a with
     | i lo hi=>
       cases d with
       | i n=>
         match Qz,h3 with
         | .i (.v k)::ds,h3=>
           simp only[uq,ao,Nat.beq_eq]at h3;obtain⟨rfl,h3⟩:=h3;rw[List.map_cons,ih hr tl h3];simp only[DE.ae,IE.ae,hd,di]
       |_=>exact ha.elim
     | b=>
       cases d with
       | b n=>
         match Qz,h3 with
         | .b (.v k)::ds,h3=>
           simp only[uq,ao,Nat.beq_eq]at h3;obtain⟨rfl,h3⟩:=h3;rw[List.map_cons,ih hr tl h3];simp only[DE.ae,BE.ae,hd,db]
       |_=>exact ha.elim
     | l x y z=>
       cases d with
       | l n=>
         match Qz,h3 with
         | .l k::ds,h3=>
           simp only[uq,ao,Nat.beq_eq]at h3;obtain⟨rfl,h3⟩:=h3;rw[List.map_cons,ih hr tl h3];simp only[DE.ae,hd,dl]
       |_=>exact ha.elim
     |t=>simp[uq]at h3
def CM:List DE:=[.i (.v 98),.i (.v 99),.i (.v 100),.l 101,.l 102,.i (.v 103),.i (.v 104),.i (.v 105),.i (.v 106),.i (.v 107),.i (.v 108),.i (.v 109),.i (.v 110),.i (.v 111),.i (.v 112),.l 113,.l 114,.i (.v 115),.i (.v 116),.i (.v 117),.i (.v 118),.i (.v 119),.i (.v 120),.i (.v 121),.i (.v 122),.i (.v 123),.i (.v 124),.i (.v 125),.i (.v 126),.i (.v 127),.i (.v 128),.i (.v 129),.i (.v 130),.i (.v 131),.i (.v 132),.i (.v 133),.i (.v 134),.i (.v 135),.i (.v 136),.i (.v 137),.i (.v 138),.i (.v 139),.i (.v 140),.i (.v 141),.i (.v 142),.i (.v 143),.i (.v 144),.b (.v 145),.b (.v 146),.b (.v 147),.b (.v 148),.b (.v 149),.b (.v 150),.i (.v 151),.i (.v 152),.i (.v 153),.i (.v 154),.b (.v 155),.b (.v 156),.i (.v 157),.l 158,.l 159,.i (.v 160),.b (.v 161),.b (.v 162),.i (.v 163),.i (.v 164),.i (.v 165),.i (.v 166),.i (.v 167),.i (.v 168),.i (.v 169),.b (.v 170),.i (.v 171),.b (.v 172),.i (.v 173),.i (.v 174),.b (.v 175),.b (.v 176),.b (.v 177),.i (.v 178),.i (.v 179),.i (.v 180),.i (.v 181),.b (.v 182),.i (.v 183),.b (.v 184),.b (.v 185),.i (.v 186),.i (.v 187),.b (.v 188),.b (.v 189),.b (.v 190),.b (.v 191)]
theorem Nx{E:Nat->List DV->List DV->Prop}{R:List DV->Prop}{Ps:List (Int->Prop)}{U:az}{F:Nat->List DV->Prop}{id:Nat}{bJ:List DE}{G:List DV->Prop}{vs:List DV}(e:bJ.map (DE.ae U)=vs)(h:G vs):(aw.again id bJ).fW E R Ps U (ox F id G):=ko (by rw[e];exact h)
def yQ(E:Nat->List DV->List DV->Prop)(l:List (List Int)):Nat->List DV->Prop
 |0,st=>E 23 [] st
 |i+1,aZ=>∃st,yQ E l i st/\E 24 (st++[.i (pN (l.getD i [])),.l (bU (l.getD i []))]) aZ
def Ny(ds:List DV):Prop:=∃l:List (List Int),ds=[.l l]/\l.length<=1099511627776/\∀r∈l,HR (pN r) (bU r)
def T7(E:Nat->List DV->List DV->Prop)(ds rs:List DV):Prop:=eZ rs/\∀l,ds=[.l l]->yQ E l l.length rs
structure Nu(E:Nat->List DV->List DV->Prop):Prop where
 new:∃rs,E 23 [] rs/\eZ rs
 does:∀st op xs,eZ st->HR op xs->∃rs,E 24 (st++[.i op,.l xs]) rs/\eZ rs
theorem o12{E:Nat->List DV->List DV->Prop}(hD:Nu E){ds:List DV}(hp:Ny ds):t12.fW E (T7 E ds) [] (aM.ar 0 ds) (fun _ _=>False):=by
 obtain⟨l,rfl,hl,hc⟩:=hp;unfold t12;refine iB (pre:=fun ds=>ds=[]) (rel:=fun _ rs=>eZ rs) (fun ds h=>by subst h;exact hD.new) rfl ?_
 intro cc hE0 hP0;have hl0:=hP0.len;refine my (fun vs=>∃(i:Nat) (st:List DV),vs = .i i::st/\i<=l.length/\eZ st/\yQ E l i st) (fun| .i i::_=>((l.length:Int)-i).toNat|_=>0) ⟨0,cc,?_,by omega,hP0,hE0⟩ ?_
 . rw[List.map_cons];congr 1;exact lW hP0.has (b:=2) (fun j hj=>kX hj) (by kernel_rfl)
 rintro _ ⟨i,st,rfl,hi,hP,hch⟩;have uz:=hP.len;obtain⟨e1,nc⟩:∃e1:az,e1=((aM.ar 0 [.l l]).ar 2 cc).ar 97 (.i i::st):=⟨_,rfl⟩;have g0:e1 0 = .l l:=by rw[nc,az.aX (by omega),az.aX (by omega)];rfl
 have YR:e1 97 = .i i:=by rw[nc];exact az.cm (i:=0) rfl
 have Qw:∀j,j<st.length->e1 (98+j)=st.getD j (.i 0):=fun j hj=>by
   have:=kX (e:=(aM.ar 0 [.l l]).ar 2 cc) (b:=97) (ds:=.i i::st) (j:=j+1) (by simpa using hj)
   rw[nc,show 98+j=97+(j+1)by omega,this]
   rfl
 rw[<- nc];refine gb (fun cQ=>?_) (fun sS=>?_)
 . simp only[IE.ae,YR,g0,di,dl]at cQ;have hm:l.getD i []∈l:=by simp[List.getD,show i<l.length by omega]
   have Ip:=hc _ hm;refine nK (by simp only[IE.ae,YR,di];omega) (gT (M:=bU (l.getD i [])) (by simp only[cZ.ae,IE.ae,YR,g0,di,dl,Int.toNat_natCast];rfl) ?_)
   have e2:∀k,k<193->(e1.set 193 (.l (bU (l.getD i [])))) k=e1 k:=fun k hk=>by simp only[az.set];rw[if_neg (by omega)]
   have key:=lW (e:=e1.set 193 (.l (bU (l.getD i [])))) (b:=98) (Qz:=CM) hP.has (fun j hj=>by rw[e2 _ (by omega)];exact Qw j hj) (by kernel_rfl)
   have last: [DE.i (.get 0 (.v 97) 0),DE.l 193].map (DE.ae (e1.set 193 (.l (bU (l.getD i [])))))=[.i (pN (l.getD i [])),.l (bU (l.getD i []))]:=by
     simp only[List.map,DE.ae,IE.ae,e2 97 (by omega),e2 0 (by omega),YR,g0,di,dl]
     simp only[az.set,if_true,dl];unfold cellAt pN;rw[Int.toNat_natCast]
   have hA:(CM++[DE.i (.get 0 (.v 97) 0),DE.l 193]).map (DE.ae (e1.set 193 (.l (bU (l.getD i [])))))=st++[.i (pN (l.getD i [])),.l (bU (l.getD i []))]:=by rw[List.map_append,key,last]
   refine iB (pre:=fun ds=>ds=(st++[DV.i (pN (l.getD i [])),DV.l (bU (l.getD i []))]:List DV)) (rel:=fun _ rs=>eZ rs) (fun ds (h:ds=_)=>by rw[h];exact hD.does _ _ _ hP Ip) (show List.map _ (CM++[DE.i (.get 0 (.v 97) 0),DE.l 193])=_ from hA) ?_
   intro rs hE hR;have hlr:=hR.len;obtain⟨e3,wm⟩:∃e3:az,e3=(e1.set 193 (.l (bU (l.getD i [])))).ar 195 rs:=⟨_,rfl⟩;have k97:e3 97 = .i i:=by
     rw[wm,az.aX (by omega)]
     simp only[az.set];rw[if_neg (by omega),YR]
   rw[<- wm];refine yK (by simp only[IE.ae,k97,di];omega) (Nx (vs:=.i ((i+1:Nat):Int)::rs) ?_ ⟨⟨i+1,rs,rfl,by omega,hR,st,hch,?_⟩,?_⟩)
   . rw[List.map_cons];have h0:DE.ae e3 (.i (.add (.v 97) (.c 1))) = .i ((i+1:Nat):Int):=by simp only[DE.ae,IE.ae,k97,di];rfl
     rw[h0];congr 1;exact lW hR.has (b:=195) (fun j hj=>by rw[wm];exact kX hj) (by kernel_rfl)
   . have Nb:E 24 ((CM++[DE.i (.get 0 (.v 97) 0),DE.l 193]).map (DE.ae (e1.set 193 (.l (bU (l.getD i [])))))) rs:=hE;rw[hA]at Nb;exact Nb
   . show((l.length:Int)-((i+1:Nat):Int)).toNat<((l.length:Int)-i).toNat;omega
 . simp only[IE.ae,YR,g0,di,dl]at sS;obtain rfl:i=l.length:=by omega
   refine dT (rs:=st) (lW hP.has (b:=98) Qw (by kernel_rfl)) ⟨hP,fun l' e=>?_⟩
   cases e;exact hch
def Nz:List DE:=[.i (.v 3),.i (.v 4),.i (.v 5),.l 6,.l 7,.i (.v 8),.i (.v 9),.i (.v 10),.i (.v 11),.i (.v 12),.i (.v 13),.i (.v 14),.i (.v 15),.i (.v 16),.i (.v 17),.l 18,.l 19,.i (.v 20),.i (.v 21),.i (.v 22),.i (.v 23),.i (.v 24),.i (.v 25),.i (.v 26),.i (.v 27),.i (.v 28),.i (.v 29),.i (.v 30),.i (.v 31),.i (.v 32),.i (.v 33),.i (.v 34),.i (.v 35),.i (.v 36),.i (.v 37),.i (.v 38),.i (.v 39),.i (.v 40),.i (.v 41),.i (.v 42),.i (.v 43),.i (.v 44),.i (.v 45),.i (.v 46),.i (.v 47),.i (.v 48),.i (.v 49),.b (.v 50),.b (.v 51),.b (.v 52),.b (.v 53),.b (.v 54),.b (.v 55),.i (.v 56),.i (.v 57),.i (.v 58),.i (.v 59),.b (.v 60),.b (.v 61),.i (.v 62),.l 63,.l 64,.i (.v 65),.b (.v 66),.b (.v 67),.i (.v 68),.i (.v 69),.i (.v 70),.i (.v 71),.i (.v 72),.i (.v 73),.i (.v 74),.b (.v 75),.i (.v 76),.b (.v 77),.i (.v 78),.i (.v 79),.b (.v 80),.b (.v 81),.b (.v 82),.i (.v 83),.i (.v 84),.i (.v 85),.i (.v 86),.b (.v 87),.i (.v 88),.b (.v 89),.b (.v 90),.i (.v 91),.i (.v 92),.b (.v 93),.b (.v 94),.b (.v 95),.b (.v 96)]
def yR:BE:=.and (.and (.and (.and (.v 61) (.le (.c 1) (.v 4))) (.le (.c 1) (.v 5))) (.eq (.len 6) (.mul (.v 4) (.v 5)))) (.eq (.len 7) (.len 6))
theorem Sr{X:bA}{n:Nat}(h:mE (TT Tryz.prog) X kc (ord.take n))(YP:23∈ord.take n)(T6:24∈ord.take n):Nu (fun k=>bK (TT Tryz.prog) X k) where
 new:=by
   obtain⟨rs,h1,h2⟩:=h 23 YP [] ⟨trivial,fun p hp=>by cases hp⟩
   exact⟨rs,h1,HQ (by kernel_rfl) (by kernel_rfl) h2⟩
 does:=fun st op xs hP hc=>by
   obtain⟨rs,h1,h2⟩:=h 24 T6 _ (WX hP hc);exact⟨rs,h1,HQ rfl (by kernel_rfl) h2⟩
theorem yQ.congr{E E':Nat->List DV->List DV->Prop}(YP:∀ds rs,E 23 ds rs->E' 23 ds rs)(T6:∀ds rs,E 24 ds rs->E' 24 ds rs){l:List (List Int)}:∀ {i:Nat} {st:List DV},yQ E l i st->yQ E' l i st:=by
 intro i;induction i with
 |zero=>intro st h;exact YP _ _ h
 |succ i ih=>intro st h;obtain⟨jq,h1,h2⟩:=h;exact⟨jq,ih h1,T6 _ _ h2⟩
variable {X:bA}
theorem g12(hD:Nu (fun k=>bK (TT Tryz.prog) X k)):lH (TT Tryz.prog) X 12 Ny (T7 (fun k=>bK (TT Tryz.prog) X k)):=
 lH.weaken (kS T12 fun ds hp=>o12 (E:=fun g=>bK (TT Tryz.prog) X ((gR.mk 12 t12 (rowOf 12).sub).key g)) ⟨hD.new,hD.does⟩ hp) (fun _ h=>h) (fun ds rs _ h=>⟨h.1,fun l e=>yQ.congr (E:=fun g=>bK (TT Tryz.prog) X ((gR.mk 12 t12 (rowOf 12).sub).key g)) (fun _ _ h=>h) (fun _ _ h=>h) (h.2 l e)⟩)
structure Good(E:Nat->List DV->List DV->Prop)(l:List (List Int))(st:List DV):Prop where
 ok:eZ st
 run:E 12 [.l l] st
 ak6:pbool st 58=true
 w:1<=sh st 1
 h:1<=sh st 2
def Bc(ds:List DV):Prop:=∃l:List (List Int),ds=[.l l]/\l.length<=9223372036854775807/\∀r∈l,(-9223372036854775808<=pN r/\pN r<=9223372036854775807)/\∀c∈bU r,-9223372036854775808<=c.getD 0 0/\c.getD 0 0<=9223372036854775807
def T8(E:Nat->List DV->List DV->Prop)(ds rs:List DV):Prop:=rs.length=95/\∃b,rs.getD 94 (.i 0) = .b b/\∀l,ds=[.l l]->b=true->Good E l (rs.take 94)
theorem o17{E:Nat->List DV->List DV->Prop}(h27:∀ds,NA ds->∃rs,E 27 ds rs/\Er ds rs)(h12:∀ds,Ny ds->∃rs,E 12 ds rs/\eZ rs){ds:List DV}(hp:Bc ds):t17.fW E (T8 E ds) [] (aM.ar 0 ds) (fun _ _=>False):=by
 obtain⟨l,rfl,hl,hc⟩:=hp;unfold t17;refine iB h27 ⟨l,40,100,rfl,hl⟩ ?_;rintro _ akE ⟨b,rfl,hb⟩;refine rk (fun h=>?_) (fun h=>?_)
 . exact LW ⟨rfl,false,rfl,fun _ _ h=>by cases h⟩
 . have h:b=true:=h;subst h;have hs:=hb l 40 100 rfl rfl;have Ip:∀r∈l,HR (pN r) (bU r):=fun r hr=>⟨(hc r hr).1,(hs.2 r hr).1,(hc r hr).2,(hs.2 r hr).2⟩
   refine iB (pre:=fun ds=>ds=[DV.l l]) (rel:=fun _ rs=>eZ rs) (fun ds (h:ds=_)=>by rw[h];exact h12 _ ⟨l,rfl,by have:=hs.1;omega,Ip⟩) rfl ?_
   intro st ajj hP;have uz:=hP.len;obtain⟨e1,nc⟩:∃e1:az,e1=((aM.ar 0 [.l l]).ar 2 [.b true]).ar 3 st:=⟨_,rfl⟩;have Qw:∀j,j<94->e1 (3+j)=st.getD j (.i 0):=fun j hj=>by rw[nc];exact kX (by omega)
   have b1:0<=sh st 1/\sh st 1<=100:=by
     obtain⟨d,hd,ha⟩:=hP.has.at (i:=1) (a:=.i 0 100) (by kernel_rfl)
     unfold sh;simp only[cH,hd];cases d with
     |i n=>exact ha
     |_=>exact ha.elim
   have b2:0<=sh st 2/\sh st 2<=100:=by
     obtain⟨d,hd,ha⟩:=hP.has.at (i:=2) (a:=.i 0 100) (by kernel_rfl)
     unfold sh;simp only[cH,hd];cases d with
     |i n=>exact ha
     |_=>exact ha.elim
   have i4:(e1 4).int=sh st 1:=by rw[Qw 1 (by omega)];rfl
   have i5:(e1 5).int=sh st 2:=by rw[Qw 2 (by omega)];rfl
   have m1:=Int.mul_le_mul b1.2 b2.2 b2.1 (by omega)
   have m0:=Int.mul_nonneg b1.1 b2.1;rw[<- nc];refine iA ?_ ?_
   . show(!((BE.and _ _).ae e1)||(r6 (.mul (.v 4) (.v 5))).ae e1)=true;rw[ka (by simp only[IE.ae,i4,i5];omega)]
     simp
   have dB:=lW (e:=e1) (b:=3) (Qz:=Nz) hP.has (fun j hj=>Qw j (by omega)) (by kernel_rfl)
   have hv:(Nz++[DE.b yR]).map (DE.ae e1)=st++[.b (yR.ae e1)]:=by rw[List.map_append,dB];rfl
   refine dT (rs:=st++[DV.b (yR.ae e1)]) (show List.map _ (Nz++[DE.b yR])=_ from hv) ⟨by simp[uz],yR.ae e1,?_,fun l' e hc=>?_⟩
   . simp only[cH];rw[List.getElem?_append_right (by omega),uz]
     rfl
   . cases e;rw[List.take_append_of_le_length (by omega),List.take_of_length_le (by omega)]
     have hc:(((((e1 61).bool&&decide (1<=(e1 4).int))&&decide (1<=(e1 5).int))&&_)&&_)=true:=hc;simp only[ao,aC]at hc;refine⟨hP,ajj,?_,by rw[<- i4];exact hc.1.1.1.2,by rw[<- i5];exact hc.1.1.2⟩
     have:(e1 61).bool=pbool st 58:=by rw[Qw 58 (by omega)];rfl
     rw[<- this];exact hc.1.1.1.1
theorem g17(hD:Nu (fun k=>bK (TT Tryz.prog) X k)):lH (TT Tryz.prog) X 17 Bc (T8 (fun k=>bK (TT Tryz.prog) X k)):=
 lH.weaken (kS T17 fun ds hp=>o17 (E:=fun g=>bK (TT Tryz.prog) X ((gR.mk 17 t17 (rowOf 17).sub).key g)) g27 (fun ds h=>by obtain⟨rs,h1,h2⟩:=g12 hD ds h;exact⟨rs,h1,h2.1⟩) hp) (fun _ h=>h)
   (fun ds rs _ h=>⟨h.1,by obtain⟨b,h1,h2⟩:=h.2;exact⟨b,h1,fun l e hb=>by obtain⟨a1,a2,a3,a4,a5⟩:=h2 l e hb;exact⟨a1,a2,a3,a4,a5⟩⟩⟩)
end Go.Proofs.YtohebioanhliiaaGreatDoor.aD
namespace Go.Proofs.YtohebioanhliiaaGreatDoor.aD
open Go.Sx
def t47:aw:=
.ite (.lt (.len 0) (.c 3)) (
.ret [.nil]) (
.ev (.aG (.le (.c 0) (.len 0))) (
.ev (.aG (.le (.len 0) (.c 140737488355328))) (
.ev (.ch 3 (.rep (.len 0) [0])) (
.loop 47005 [.l 3,.i (.c 0)] [.s 4 [.b],.c i6] 4 (
.ite (.lt (.v 5) (.len 0)) (
.ev (.aG (.le (.c 0) (.v 5))) (
.ev (.aG (.or (.not (.v 2)) (.le (.c 0) (.get 0 (.v 5) 0)))) (
.ev (.aG (.or (.not (.v 2)) (.lt (.get 0 (.v 5) 0) (.len 1)))) (
.ev (.aG (.lt (.v 5) (.len 4))) (
.ev (.ch 6 (.set 4 (.v 5) 0 (.inr (.or (.not (.v 2)) (.si (.get 1 (.get 0 (.v 5) 0) 0)))))) (
.ev (.aG (r6 (.add (.v 5) (.c 1)))) (
.again 47005 [.l 6,.i (.add (.v 5) (.c 1))]))))))) (
.ret [.l 4]))))))
theorem T47:TT Tryz.prog 47=some ⟨47,t47,(rowOf 47).sub⟩:=by kernel_rfl
def t44:aw:=
.ite (.lt (.len 0) (.c 3)) (
.ret [.nil]) (
.ev (.aG (.le (.c 0) (.len 0))) (
.ev (.aG (.le (.len 0) (.c 17592186044416))) (
.ev (.ch 1 (.rep (.len 0) [0])) (
.loop 44005 [.i (.c 0),.l 1] [.c i6,.s 3 [i6]] 2 (
.ite (.lt (.v 2) (.len 1)) (
.ev (.aG (.le (.c 0) (.v 2))) (
.ev (.aG (.lt (.v 2) (.len 3))) (
.ev (.ch 4 (.set 3 (.v 2) 0 (.inl (.v 2)))) (
.ev (.aG (r6 (.add (.v 2) (.c 1)))) (
.again 44005 [.i (.add (.v 2) (.c 1)),.l 4]))))) (
.ev (.call 47 (.c true) [.l 3,.l 0,.b (.c true)] [.one (.s 4 [.b])] 4) (
.ev (.ch 5 (.zA [[.s 3,.s 4,.c (.inl (.c 0))]])) (
.ret [.l 5]))))))))
theorem T44:TT Tryz.prog 44=some ⟨44,t44,(rowOf 44).sub⟩:=by kernel_rfl
variable {X:bA}
def Gh(l:List Int):Prop:=∀x∈l,x=0\/x=1
def yS(ds:List DV):Prop:=∃(V:List Int) (F:List (List Int)) (b:Bool),ds=[.l (dZ V),.l F,.b b]/\V.length<=256/\(b=true->∀x∈V,0<=x/\x<F.length)
def yT(ds rs:List DV):Prop:=∃E:List Int,rs=[.l (dZ E)]/\Gh E/\∀V F b,ds=[.l (dZ V),.l F,.b b]->(V.length<3->E=[])/\(3<=V.length->E.length=V.length)
theorem Eu{a b:List Int}(h:dZ a=dZ b):a=b:=by
 have:=congrArg (List.map fun r:List Int=>r.getD 0 0) h
 simpa[dZ,List.map_map,Function.comp_def]using this
theorem o47{E:Nat->List DV->List DV->Prop}{ds:List DV}(hp:yS ds):t47.fW E (yT ds) [] (aM.ar 0 ds) (fun _ _=>False):=by
 obtain⟨V,F,b,rfl,hV,hb⟩:=hp;unfold t47;refine gb (fun h=>?_) (fun h=>?_)
 . simp[IE.ae,DV.list,az.ar,az.set,dj]at h;refine dT (rs:=[.l (dZ [])]) (by simp[DE.ae,dZ]) ⟨[],rfl,(fun x hx=>by cases hx),?_⟩
   intro V' F' b' e;simp only[List.cons.injEq,DV.l.injEq]at e;have:=Eu e.1;subst this;exact⟨fun _=>rfl,fun h'=>by omega⟩
 . simp[IE.ae,DV.list,az.ar,az.set,dj]at h;refine nK (by simp[IE.ae,DV.list,az.ar,az.set,dj]) ?_
   refine nK (by simp[IE.ae,DV.list,az.ar,az.set,dj];omega) ?_
   refine gT (M:=dZ (List.replicate V.length 0)) (by simp[cZ.ae,IE.ae,DV.list,az.ar,az.set,dj,yU]) ?_
   refine my (fun ds=>∃(E:List Int) (i:Int),ds=[.l (dZ E),.i i]/\E.length=V.length/\Gh E/\0<=i/\i<=V.length) (fun| [_,.i i]=>((V.length:Int)-i).toNat|_=>0)
     ⟨List.replicate V.length 0,0,by simp[DE.ae,IE.ae,DV.list,az.ar,az.set],by simp,fun x hx=>.inl (List.eq_of_mem_replicate hx),by omega,by omega⟩ ?_
   rintro _ ⟨E,i,rfl,hE,YS,pZ,hi⟩;refine gb (fun h1=>?_) (fun h1=>?_)
   . simp[IE.ae,DV.int,DV.list,az.ar,az.set,dj]at h1;refine nK (by simp[IE.ae,DV.int,az.ar,az.set];omega) ?_
     have hm:=yM (l:=V) pZ h1;have hx:V.getD i.toNat 0∈V:=yN (by omega)
     refine iA ?_ (iA ?_ ?_)
     . cases b with
       |false=>simp[BE.ae,DV.bool,az.ar,az.set]
       |true=>simp[BE.ae,IE.ae,DV.int,DV.list,DV.bool,az.ar,az.set,hm];have:=hb rfl _ hx;simpa using this.1
     . cases b with
       |false=>simp[BE.ae,DV.bool,az.ar,az.set]
       |true=>simp[BE.ae,IE.ae,DV.int,DV.list,DV.bool,az.ar,az.set,hm];have:=hb rfl _ hx;simpa using this.2
     refine JP (by simp[IE.ae,DV.int,DV.list,az.ar,az.set,dj,hE];omega) ?_
     refine gT (M:=dZ (E.set i.toNat (if(!b||decide (cellAt F (V.getD i.toNat 0) 0≠0))=true then 1 else 0))) (by simp[cZ.ae,bV,BE.ae,IE.ae,DV.int,DV.list,DV.bool,az.ar,az.set,hm,ur]) ?_
     refine yK (by simp[IE.ae,DV.int,az.ar,az.set];omega) (ko ⟨⟨E.set i.toNat (if(!b||decide (cellAt F (V.getD i.toNat 0) 0≠0))=true then 1 else 0),i+1,by simp[DE.ae,IE.ae,DV.int,DV.list,az.ar,az.set],by simp[hE],?_,by omega,by omega⟩,?_⟩)
     . intro x hx;rcases List.mem_or_eq_of_mem_set hx with hx|rfl
       . exact YS x hx
       . split
         . exact .inr rfl
         . exact .inl rfl
     . simp[DE.ae,IE.ae,DV.int,az.ar,az.set];omega
   . simp[IE.ae,DV.int,DV.list,az.ar,az.set,dj]at h1;refine dT (rs:=[.l (dZ E)]) (by simp[DE.ae,az.ar,az.set,DV.list]) ⟨E,rfl,YS,?_⟩
     intro V' F' b' e;simp only[List.cons.injEq,DV.l.injEq]at e;have:=Eu e.1;subst this;exact⟨fun h'=>by omega,fun _=>hE⟩
def rf(V E:List Int)(p:Int):List Int:=(V.length:Int)::(E.length:Int)::p::(V++E)
def tm(m:Int)(n:Nat)(r:List Int):Prop:=∃(V E:List Int) (p:Int),r=rf V E p/\1<=V.length/\V.length<=256/\(∀x∈V,0<=x/\x<n)/\0<=p/\p<n/\Gh E/\(V.length<3->E=[])/\(3<=V.length->E.length=V.length)/\(4<=m->3<=V.length)/\(m<=3->V.length<=2)
def Nd(ds:List DV):Prop:=∃(m:Int) (F:List (List Int)) (b:Bool),ds=[.i m,.l F,.b b]/\F.length<=256
def Eg(ds rs:List DV):Prop:=∃(L:List (List Int)) (e:Int),rs=[.l L,.i e]/\L.length<=256/\(0<=e/\e<=12)/\∀m F b,ds=[.i m,.l F,.b b]->∀r∈L,tm m F.length r
def NB(ds:List DV):Prop:=∃F:List (List Int),ds=[.l F]/\F.length<=256
def NC(ds rs:List DV):Prop:=∃L:List (List Int),rs=[.l L]/\L.length<=1/\∀F,ds=[.l F]->∀r∈L,tm 9 F.length r
theorem Ew{l:List Int}:(dZ l).map (fun r=>r.getD 0 0)=l:=by simp[dZ,List.map_map,Function.comp_def]
theorem o44{E:Nat->List DV->List DV->Prop}(z7:∀ds,yS ds->∃rs,E 47 ds rs/\yT ds rs){ds:List DV}(hp:NB ds):t44.fW E (NC ds) [] (aM.ar 0 ds) (fun _ _=>False):=by
 obtain⟨F,rfl,hF⟩:=hp;unfold t44;refine gb (fun h=>?_) (fun h=>?_)
 . exact dT (rs:=[.l []]) (by simp[DE.ae]) ⟨[],rfl,by simp,fun _ _ r hr=>by cases hr⟩
 . simp[IE.ae,DV.list,az.ar,az.set]at h;refine nK (by simp[IE.ae,DV.list,az.ar,az.set]) ?_
   refine nK (by simp[IE.ae,DV.list,az.ar,az.set];omega) ?_
   refine gT (M:=dZ (List.replicate F.length 0)) (by simp[cZ.ae,IE.ae,DV.list,az.ar,az.set,yU]) ?_
   refine my (fun ds=>∃(V:List Int) (i:Int),ds=[.i i,.l (dZ V)]/\V.length=F.length/\(∀x∈V,0<=x/\x<F.length)/\0<=i/\i<=F.length) (fun| [.i i,_]=>((F.length:Int)-i).toNat|_=>0)
     ⟨List.replicate F.length 0,0,by simp[DE.ae,IE.ae,DV.list,az.ar,az.set],by simp,fun x hx=>by rw[List.eq_of_mem_replicate hx];omega,by omega,by omega⟩ ?_
   rintro _ ⟨V,i,rfl,hV,hx,pZ,hi⟩;refine gb (fun h1=>?_) (fun h1=>?_)
   . simp[IE.ae,DV.int,DV.list,az.ar,az.set,dj]at h1;refine nK (by simp[IE.ae,DV.int,az.ar,az.set];omega) ?_
     refine JP (by simp[IE.ae,DV.int,DV.list,az.ar,az.set,dj];omega) ?_
     refine gT (M:=dZ (V.set i.toNat i)) (by simp[cZ.ae,bV,IE.ae,DV.int,DV.list,az.ar,az.set,ur]) ?_
     refine yK (by simp[IE.ae,DV.int,az.ar,az.set];omega) (ko ⟨⟨V.set i.toNat i,i+1,by simp[DE.ae,IE.ae,DV.int,DV.list,az.ar,az.set],by simp[hV],?_,by omega,by omega⟩,?_⟩)
     . intro x hm;rcases List.mem_or_eq_of_mem_set hm with hm|rfl
       . exact hx x hm
       . omega
     . simp[DE.ae,IE.ae,DV.int,az.ar,az.set];omega
   . refine iB z7 ⟨V,F,true,by simp[DE.ae,BE.ae,DV.list,az.ar,az.set],by omega,fun _=>hx⟩ ?_
     rintro _ _ ⟨E',rfl,YS,hE⟩;have hE:=hE V F true (by simp[DE.ae,BE.ae,DV.list,az.ar,az.set])
     refine gT (M:=[rf V E' 0]) (by simp[cZ.ae,bW.head,bW.tail,bV,IE.ae,DV.int,DV.list,az.ar,az.set,dj,rf,<- List.getD_eq_getElem?_getD,Ew]) ?_
     refine dT (rs:=[.l [rf V E' 0]]) (by simp[DE.ae,DV.list,az.ar,az.set]) ⟨_,rfl,by simp,?_⟩
     intro F' e r hr;cases e;rw[List.mem_singleton]at hr;exact⟨V,E',0,hr,by omega,by omega,hx,by omega,by omega,YS,hE.1,hE.2,fun _=>by omega,fun h=>by omega⟩
def J2:List (List Int):=[[0],[0,1],[0,1],[0,1],[0,1,2],[0,1,2],[1,0,2],[0,1,2],[0,1,2,3],[0,1,3,2]]
def WZ(l:List Int):cZ:=.lit (l.map fun n=>[.inl (.c n)])
def HS(b:Nat):List (List Int)->aw->aw
 | [],t=>t
 |l::ls,t=>.ev (.ch b (WZ l)) (HS (b+1) ls t)
theorem SE{U:az}{l:List Int}:(WZ l).ae U=dZ l:=by
 simp[WZ,cZ.ae,dZ,bV,IE.ae,Function.comp_def]
def Bd(U:az)(b:Nat):List (List Int)->az
 | []=>U
 |l::ls=>Bd (U.set b (.l (dZ l))) (b+1) ls
section
variable {E:Nat->List DV->List DV->Prop}{R:List DV->Prop}{Ps:List (Int->Prop)}{F:Nat->List DV->Prop}{t t':aw}
theorem Gi:∀ {ls:List (List Int)} {b:Nat} {U:az},t.fW E R Ps (Bd U b ls) F->(HS b ls t).fW E R Ps U F
 | [],_,_,h=>h
 |l::ls,b,U,h=>gT SE (Gi (ls:=ls) h)
end
def QA(s:Int):IE:=if s=1 then .v 18 else .mul (.c s) (.v 18)
def yV(k:Nat)(s:Int):aw:=HS 3 J2 (.ite (.lt (.v 1) (.len k)) (.ret [.i (.c 0)])
 (ns [r6 (.sub (.v 1) (.len k)),r6 (.tdiv (.sub (.v 1) (.len k)) (.c s)),r6 (.add (.tdiv (.sub (.v 1) (.len k)) (.c s)) (.c 1))] (.ret [.i (.add (.tdiv (.sub (.v 1) (.len k)) (.c s)) (.c 1))])))
def chain(b:aw):List (Int×aw)->aw
 | []=>b
 |(m,t)::r=>.ite (.eq (.v 0) (.c m)) t (chain b r)
def t46:aw:=.ite (.or (.or (.or (.lt (.v 0) (.c 0)) (.lt (.c 9) (.v 0))) (.lt (.v 1) (.c 1))) (.lt (.c 256) (.v 1))) (.ret [.i (.c 0)])
 (.ite (.eq (.v 0) (.c 9)) (.ev (.aG (r6 (.tdiv (.v 1) (.c 3)))) (.ret [.i (.min (.tdiv (.v 1) (.c 3)) (.c 1))]))
 (.ite (.eq (.v 0) (.c 3)) (.ite (.eq (.v 1) (.c 1)) (.ret [.i (.c 0)]) (.ret [.i (.v 1)]))
 (chain (.stuck "") [(0,yV 3 1),(1,yV 4 2),(2,yV 5 1),(3,yV 6 1),(4,yV 7 3),(5,yV 8 1),(6,yV 10 1),(7,yV 11 4),(8,yV 12 2)])))
def tq(m:Int):Int×Int:=if m=0 then(1,1)else if m=1 then(2,2)else if m=2 then(1,2)else if m=3 then(1,1)else if m=4 then(3,3)else if m=5 then(1,3)else if m=6 then(1,3)else if m=7 then(4,4)else if m=8 then(2,4)else(3,3)
def HT(ds:List DV):Prop:=∃m n:Int,ds=[.i m,.i n]/\0<=m/\m<=9/\0<=n/\n<=256
def Ey(ds rs:List DV):Prop:=∃c:Int,rs=[.i c]/\0<=c/\c<=256/\∀m n,ds=[.i m,.i n]->0<c->(tq m).1*(c-1)+(tq m).2<=n
theorem o46{E:Nat->List DV->List DV->Prop}{ds:List DV}(hp:HT ds):t46.fW E (Ey ds) [] (aM.ar 0 ds) (fun _ _=>False):=by
 obtain⟨m,n,rfl,h0,h9,jf,hn⟩:=hp;have br:∀(k:Nat) (s:Int) (L:Nat),1<=s->(tq m)=(s,(L:Int))->(((Bd (aM.ar 0 [.i m,.i n]) 3 J2) k).list.length=L)->1<=L->(yV k s).fW E (Ey [.i m,.i n]) [] (aM.ar 0 [.i m,.i n]) (fun _ _=>False):=by
   intro k s L hs hp hk hL;unfold yV;have e1:((Bd (aM.ar 0 [.i m,.i n]) 3 J2) 1).int=n:=rfl;refine Gi (gb (fun h=>?_) (fun h=>?_))
   . exact dT (rs:=[.i 0]) rfl ⟨0,rfl,by omega,by omega,fun _ _ _ h=>by omega⟩
   . simp only[IE.ae,e1,hk]at h;have zh:0<=(n-(L:Int)).tdiv s:=Int.tdiv_nonneg (by omega) (by omega)
     have wU:(n-(L:Int)).tdiv s*s<=n-L:=by rw[Int.tdiv_eq_ediv_of_nonneg (by omega)];exact Int.ediv_mul_le _ (by omega)
     have hd2:(n-(L:Int)).tdiv s<=n-L:=by rw[Int.tdiv_eq_ediv_of_nonneg (by omega)];exact Int.ediv_le_self _ (by omega)
     refine Gj ?_ (dT (rs:=[.i ((n-(L:Int)).tdiv s+1)]) (by simp only[List.map,DE.ae,IE.ae,e1,hk]) ⟨_,rfl,by omega,by omega,?_⟩)
     . intro p hp;simp only[bq,List.not_mem_nil,or_false]at hp;rcases hp with rfl|rfl|rfl<;>refine ka ?_<;>simp only[IE.ae,e1,hk]<;>omega
     . intro m' n' e _;cases e;rw[hp];show s*_+(L:Int)<=_;have:s*((n-(L:Int)).tdiv s+1-1)=(n-(L:Int)).tdiv s*s:=by rw[Int.add_sub_cancel,Int.mul_comm]
       omega
 unfold t46;refine ld (fun h=>?_) (fun h=>?_)
 . exact dT (rs:=[.i 0]) rfl ⟨0,rfl,by omega,by omega,fun _ _ _ h=>by omega⟩
 have fJ:1<=n:=by
   simp[BE.ae,IE.ae,DV.int,az.ar,az.set]at h;omega
 refine dF (fun h9'=>?_) (fun h9'=>?_)
 . simp[IE.ae,DV.int,az.ar,az.set]at h9';subst h9';have zh:0<=n.tdiv 3:=Int.tdiv_nonneg (by omega) (by omega)
   have wU:n.tdiv 3*3<=n:=by rw[Int.tdiv_eq_ediv_of_nonneg (by omega)];exact Int.ediv_mul_le _ (by omega)
   refine yK (by simp[IE.ae,DV.int,az.ar,az.set];omega) (dT (rs:=[.i (min (n.tdiv 3) 1)]) (by simp[DE.ae,IE.ae,DV.int,az.ar,az.set]) ⟨_,rfl,by omega,by omega,?_⟩)
   intro m' n' e hc;cases e;show 3*_+3<=n;omega
 refine dF (fun h3=>?_) (fun h3=>?_)
 . simp[IE.ae,DV.int,az.ar,az.set]at h3;subst h3;refine dF (fun h1=>?_) (fun h1=>?_)
   . exact dT (rs:=[.i 0]) rfl ⟨0,rfl,by omega,by omega,fun _ _ _ h=>by omega⟩
   . refine dT (rs:=[.i n]) (by simp[DE.ae,IE.ae,DV.int,az.ar,az.set]) ⟨_,rfl,by omega,by omega,?_⟩
     intro m' n' e hc;cases e;show 1*_+1<=n;omega
 simp[IE.ae,DV.int,az.ar,az.set]at h9' h3;refine dF (fun e=>?_) (fun e0=>?_)
 . have e:m=0:=e;subst e;exact br 3 1 1 (by omega) rfl rfl (by omega)
 refine dF (fun e=>?_) (fun e1=>?_)
 . have e:m=1:=e;subst e;exact br 4 2 2 (by omega) rfl rfl (by omega)
 refine dF (fun e=>?_) (fun e2=>?_)
 . have e:m=2:=e;subst e;exact br 5 1 2 (by omega) rfl rfl (by omega)
 refine dF (fun e=>absurd (show m=3 from e) h3) (fun _=>?_)
 refine dF (fun e=>?_) (fun e4=>?_)
 . have e:m=4:=e;subst e;exact br 7 3 3 (by omega) rfl rfl (by omega)
 refine dF (fun e=>?_) (fun e5=>?_)
 . have e:m=5:=e;subst e;exact br 8 1 3 (by omega) rfl rfl (by omega)
 refine dF (fun e=>?_) (fun e6=>?_)
 . have e:m=6:=e;subst e;exact br 10 1 3 (by omega) rfl rfl (by omega)
 refine dF (fun e=>?_) (fun e7=>?_)
 . have e:m=7:=e;subst e;exact br 11 4 4 (by omega) rfl rfl (by omega)
 refine dF (fun e=>?_) (fun e8=>?_)
 . have e:m=8:=e;subst e;exact br 12 2 4 (by omega) rfl rfl (by omega)
 . have e0:m≠0:=e0;have e1:m≠1:=e1;have e2:m≠2:=e2;have e4:m≠4:=e4;have e5:m≠5:=e5;have e6:m≠6:=e6;have e7:m≠7:=e7;have e8:m≠8:=e8;omega
theorem T46:TT Tryz.prog 46=some ⟨46,t46,(rowOf 46).sub⟩:=by kernel_rfl
end Go.Proofs.YtohebioanhliiaaGreatDoor.aD
namespace Go.Proofs.YtohebioanhliiaaGreatDoor.aD
open Go.Sx
def SF(k:Nat)(s:IE)(tail:aw):aw:=
 .ev (.aG (.le (.c 0) (.len k))) (.ev (.aG (.le (.len k) (.c 17592186044416))) (.ev (.ch 19 (.rep (.len k) [0])) (.loop 30017 [.i (.c 0),.l 19] [.c i6,.s 3 [i6]] 20 (.ite (.lt (.v 20) (.len k))
   (ns [.le (.c 0) (.v 20),r6 s,r6 (.add s (.get k (.v 20) 0)),.si (.max (.len 1) (.c 1)),.lt (.v 20) (.len 21)]
     (.ev (.ch 22 (.set 21 (.v 20) 0 (.inl (.tmod (.add s (.get k (.v 20) 0)) (.max (.len 1) (.c 1)))))) (.ev (.aG (r6 (.add (.v 20) (.c 1)))) (.again 30017 [.i (.add (.v 20) (.c 1)),.l 22]))))
   tail))))
def HU(v e q:Nat)(x:IE):aw:=.ev (.ch q (.zA [[.s v,.s e,.c (.inl x)]])) (.ev (.aG (.le (.add (.len 17) (.len q)) (.c 2513169434916))) (.ev (.ch (q+1) (.app 17 q)) (.ev (.aG (r6 (.add (.v 18) (.c 1)))) (.again 30010 [.l (q+1),.i (.add (.v 18) (.c 1))]))))
def HV(v e q:Nat)(fl:Bool)(l0 l1:List BE)(first last:IE):aw:=
 ns l0 (.ev (.call 47 (.c true) [.l v,.l 1,.b (.c fl)] [.one (.s 4 [.b])] e) (.ite (.v 2) (ns l1 (HU v e q first)) (HU v e q last)))
def x30(s:Int)(d:Int):IE:=if d=0 then QA s else .add (QA s) (.c d)
def HE(k:Nat)(s d:Int)(fl:Bool):aw:=SF k (QA s) (HV 21 2582 8727 fl ((if d=0 then [r6 (QA s)]else [r6 (QA s),r6 (x30 s d)])++[.si (.len 1)]) [r6 (QA s)] (QA s) (.tmod (x30 s d) (.len 1)))
def W0:aw:=SF 11 (.v 18) (ns [.lt (.c 0) (.len 21)] (.ev (.ch 22 (.set 21 (.c 0) 0 (.inl (.c 0)))) (HV 22 2583 8728 false [r6 (.v 18),r6 (.add (.v 18) (.c 2)),.si (.len 1)] [r6 (.v 18),r6 (.add (.v 18) (.c 1))] (.add (.v 18) (.c 1)) (.tmod (.add (.v 18) (.c 2)) (.len 1)))))
def J1(m:Int)(b:aw):Int×aw:=(m,HS 4 J2 (.ev (.call 46 (.c true) [.i (.c m),.i (.len 1)] [oI] 16) (.loop 30010 [.nil,.i (.c 0)] [.n 104 [.s 3 i6,.s 4 .b,.c i6],.c i6] 17 (.ite (.lt (.v 18) (.v 16)) b (.ret [.l 17,.i (.c 0)])))))
def t30:aw:=.ite (.or (.lt (.v 0) (.c 0)) (.lt (.c 9) (.v 0))) (.ret [.nil,.i (.c 1)])
 (.ite (.lt (.c 256) (.len 1)) (.ret [.nil,.i (.c 8)])
 (.ite (.eq (.v 0) (.c 9)) (.ev (.call 44 (.c true) [.l 1] [.one (.n 104 [.s 3 i6,.s 4 .b,.c i6])] 3) (.ret [.l 3,.i (.c 0)]))
 (chain (.stuck "") [J1 0 (HE 4 1 0 false),J1 1 (HE 5 2 1 false),J1 2 (HE 6 1 1 false),J1 3 (HE 7 1 1 false),J1 4 (HE 8 3 2 true),
   J1 5 (ns [.or (.not (.eq (.tmod (.v 18) (.c 2)) (.c 1))) (.lt (.c 0) (.len 10))] (.ite (.eq (.tmod (.v 18) (.c 2)) (.c 1)) (HE 10 1 2 false) (HE 9 1 2 false))),
   J1 6 W0,J1 7 (HE 12 4 3 true),J1 8 (HE 13 2 3 false)])))
theorem T30:TT Tryz.prog 30=some ⟨30,t30,(rowOf 30).sub⟩:=by kernel_rfl
section
variable {E:Nat->List DV->List DV->Prop}{R:List DV->Prop}{Ps:List (Int->Prop)}{F:Nat->List DV->Prop}{G:List DV->Prop}
theorem ND{k:Nat}{s:IE}{tail:aw}{U:az}{K:List Int}{S:Int}{n:Nat}(hk:(U k).list=dZ K)(ajl:k<19)(hK:∀x∈K,0<=x/\x<=3)(hKl:K.length<=4)(hn:(U 1).list.length=n)(jf:1<=n)
   (hs:∀e':az,(∀m,m<19->e' m=U m)->s.ae e'=S) (hS0:0<=S) (hS:S<=2000)
   (ht:∀(e':az) (V:List Int) (G':List DV->Prop),(∀m,m<19->e' m=U m)->e' 21 = .l (dZ V)->V.length=K.length->(∀x∈V,0<=x/\x<n)->tail.fW E R Ps e' (ox F 30017 G')) :
   (SF k s tail).fW E R Ps U F:=by
 unfold SF;refine nK (by simp[IE.ae,hk,dj]) (nK (by simp[IE.ae,hk,dj];omega) (gT (M:=dZ (List.replicate K.length 0)) (by simp[cZ.ae,IE.ae,hk,dj,yU]) ?_))
 refine my (fun ds=>∃(V:List Int) (i:Int),ds=[.i i,.l (dZ V)]/\V.length=K.length/\(∀x∈V,0<=x/\x<n)/\0<=i/\i<=K.length) (fun| [.i i,_]=>((K.length:Int)-i).toNat|_=>0)
   ⟨List.replicate K.length 0,0,by simp[DE.ae,IE.ae,DV.list,az.set],by simp,fun x hx=>by rw[List.eq_of_mem_replicate hx];omega,by omega,by omega⟩ ?_
 rintro _ ⟨V,i,rfl,hV,hx,pZ,hi⟩;obtain⟨e1,nc⟩:∃e1:az,e1=(U.set 19 (.l (dZ (List.replicate K.length 0)))).ar 20 [.i i,.l (dZ V)]:=⟨_,rfl⟩;have bF:∀m,m<19->e1 m=U m:=fun m hm=>by
   subst nc;simp only[az.ar,az.set];rw[if_neg (by omega),if_neg (by omega),if_neg (by omega)]
 have Kx:e1 20 = .i i:=by subst nc;rfl
 have YO:e1 21 = .l (dZ V):=by subst nc;rfl
 rw[<- nc];have h1:(e1 1).list.length=n:=by rw[bF 1 (by omega),hn]
 have cO:(e1 k).list=dZ K:=by rw[bF k ajl,hk]
 refine gb (fun cQ=>?_) (fun _=>ht _ V _ bF YO hV hx)
 simp only[IE.ae,Kx,di,cO,dj]at cQ;have hg:cellAt (dZ K) i 0=K.getD i.toNat 0:=yM pZ cQ;have hc:=hK _ (yN (l:=K) (i:=i.toNat) (by omega))
 have hd:∀e':az,(∀m,m<22->e' m=e1 m)->s.ae e'=S:=fun e' h=>hs e' fun m hm=>by rw[h m (by omega),bF m hm]
 have Qc:max (n:Int) 1=n:=by omega
 refine Gj ?_ (gT (M:=dZ (V.set i.toNat ((S+K.getD i.toNat 0).tmod n))) ?_ (yK ?_ (ko ⟨⟨_,i+1,by simp[DE.ae,IE.ae,di,dl,az.set,Kx];rfl,by simp[hV],?_,by omega,by omega⟩,?_⟩)))
 . intro p hp;simp only[bq,List.not_mem_nil,or_false]at hp;rcases hp with rfl|rfl|rfl|rfl|rfl
   . exact decide_eq_true (by simp only[IE.ae,Kx,di];omega)
   . exact ka (by rw[hd e1 fun _ _=>rfl];omega)
   . exact ka (by simp only[IE.ae,Kx,di,cO,hg,hd e1 fun _ _=>rfl];omega)
   . exact decide_eq_true (by simp only[IE.ae,h1,Qc];omega)
   . exact decide_eq_true (by simp only[IE.ae,Kx,YO,di,dl,dj];omega)
 . simp only[cZ.ae,bV,IE.ae,Kx,YO,di,dl,cO,hg,hd e1 fun _ _=>rfl,h1,Qc,ur]
 . simp only[IE.ae,az.set,Kx,di];simp[Kx,di];omega
 . intro x hm;rcases List.mem_or_eq_of_mem_set hm with hm|rfl
   . exact hx x hm
   . have a0:0<=S+K.getD i.toNat 0:=by omega
     have a1:=Int.tmod_nonneg (n:Int) a0;have a2:=Int.tmod_lt_of_pos (S+K.getD i.toNat 0) (show(0:Int)<n by omega)
     exact⟨a1,a2⟩
 . simp[DE.ae,IE.ae,az.set,Kx,di];omega
theorem HW(z7:∀ds,yS ds->∃rs,E 47 ds rs/\yT ds rs){v e q:Nat}{fl:Bool}{l0 l1:List BE}{first last:IE}{U:az}{V:List Int}{Fl out:List (List Int)}{m i a b:Int}{G G':List DV->Prop}
   (hve:v<e) (he:23<=e) (hq:e<q) (hv:U v = .l (dZ V)) (h1:U 1 = .l Fl) (hV1:1<=V.length) (hV4:V.length<=4) (hV:∀x∈V,0<=x/\x<Fl.length)
   (hl0:∀p∈l0,p.ae U=true) (Ao:∀e':az,(∀k,k<22->e' k=U k)->∀p∈l1,p.ae e'=true)
   (hf:∀e':az,(∀k,k<22->e' k=U k)->first.ae e'=a) (ha:0<=a/\a<Fl.length) (la:∀e':az,(∀k,k<22->e' k=U k)->last.ae e'=b) (hb:0<=b/\b<Fl.length)
   (u9:U 17 = .l out) (hol:(out.length:Int)<=i) (hi:U 18 = .i i) (pZ:0<=i) (GH:i<=255) (hm4:4<=m->3<=V.length) (hm3:m<=3->V.length<=2)
   (hG:∀r,tm m Fl.length r->G [.l (out++[r]),.i (i+1)]):(HV v e q fl l0 l1 first last).fW E R Ps U (ox (ox F 30010 G) 30017 G'):=by
 unfold HV;refine Gj hl0 (iB z7 ⟨V,Fl,fl,by simp only[List.map,DE.ae,BE.ae,hv,h1,dl],by omega,fun _=>hV⟩ ?_)
 rintro _ _ ⟨E',rfl,YS,hE⟩;have hE:=hE V Fl fl (by simp only[List.map,DE.ae,BE.ae,hv,h1,dl])
 obtain⟨e1,nc⟩:∃e1:az,e1=U.ar e [.l (dZ E')]:=⟨_,rfl⟩;rw[<- nc];have bF:∀k,k<e->e1 k=U k:=fun k hk=>by
   subst nc;simp only[az.ar,az.set];rw[if_neg (by omega)]
 have h1e:e1 e = .l (dZ E'):=by subst nc;simp[az.ar,az.set]
 have iI:∀k,k<22->e1 k=U k:=fun k hk=>bF k (by omega)
 have one:∀(x:IE) (c:Int),(∀e':az,(∀k,k<22->e' k=U k)->x.ae e'=c)->0<=c->c<Fl.length->(HU v e q x).fW E R Ps e1 (ox (ox F 30010 G) 30017 G'):=by
   intro x c hx uB rA;unfold HU;refine gT (M:=[rf V E' c]) (by simp only[cZ.ae,List.map,bW.head,bW.tail,bV,bF v hve,h1e,hv,dl,hx e1 iI,dj,rf,List.flatMap_cons,List.flatMap_nil,Ew,List.append_nil,List.cons_append,List.nil_append]) ?_
   have g17:(e1.set q (.l [rf V E' c])) 17 = .l out:=by simp only[az.set];rw[if_neg (by omega),iI 17 (by omega),u9]
   have gq:(e1.set q (.l [rf V E' c])) q = .l [rf V E' c]:=by simp[az.set]
   refine nK (by simp only[IE.ae,g17,gq,dl];simp;omega) (gT (M:=out++[rf V E' c]) (by simp only[cZ.ae,g17,gq,dl]) ?_)
   have SG:∀M M',((e1.set q (.l M)).set (q+1) (.l M')) 18 = .i i:=fun M M'=>by simp only[az.set];rw[if_neg (by omega),if_neg (by omega),iI 18 (by omega),hi]
   refine yK (by simp only[IE.ae,SG,di];omega) (NF rfl ?_)
   have:=hG _ ⟨V,E',c,rfl,hV1,by omega,hV,uB,rA,YS,hE.1,hE.2,hm4,hm3⟩
   simp only[List.map,DE.ae,IE.ae,SG,di];simpa[az.set,dl]using this
 refine ld (fun _=>Gj (Ao e1 iI) (one _ _ hf ha.1 ha.2)) (fun _=>one _ _ la hb.1 hb.2)
end
theorem rT{e:az}{s i:Int}(h:e 18 = .i i):(QA s).ae e=s*i:=by
 unfold QA;split
 . rename_i h1;subst h1;simp only[IE.ae,h,di];omega
 . simp only[IE.ae,h,di]
theorem HX{e:az}{s d i:Int}(h:e 18 = .i i):(x30 s d).ae e=s*i+d:=by
 unfold x30;split
 . rename_i h1;subst h1;rw[rT h];omega
 . simp only[IE.ae,rT h]
structure W4(m0:Int)(F:List (List Int))(b:Bool)(e:az)(out:List (List Int))(i c:Int)(G:List DV->Prop):Prop where
 iT:∀k,k<16->e k=(Bd (aM.ar 0 [.i m0,.l F,.b b]) 4 J2) k
 e17:e 17 = .l out
 YC:e 18 = .i i
 len:(out.length:Int)<=i
 i0:0<=i
 ic:i<c
 acK:c<=256
 acL:(tq m0).1*(c-1)+(tq m0).2<=F.length
 more:∀r,tm m0 F.length r->G [.l (out++[r]),.i (i+1)]
section
variable {E:Nat->List DV->List DV->Prop}{R:List DV->Prop}{F0:Nat->List DV->Prop}
theorem uu(z7:∀ds,yS ds->∃rs,E 47 ds rs/\yT ds rs){k:Nat}{s d m0 i c:Int}{fl b:Bool}{K:List Int}{F out:List (List Int)}{e:az}{G:List DV->Prop}(h:W4 m0 F b e out i c G)(hk:(Bd (aM.ar 0 [.i m0,.l F,.b b]) 4 J2) k = .l (dZ K))(ajm:k<16)
   (hK:∀x∈K,0<=x/\x<=3) (hK1:1<=K.length) (hK4:K.length<=4) (hs:(tq m0).1=s) (CY:1<=s) (hs4:s<=4) (hL:1<=(tq m0).2) (zh:0<=d) (hd:d<=3) (h4:4<=m0->3<=K.length) (h3:m0<=3->K.length<=2) :
   (HE k s d fl).fW E R [] e (ox F0 30010 G):=by
 have h1:e 1 = .l F:=h.iT 1 (by omega)
 have hp:=h.acL;rw[hs]at hp;have pZ:=h.i0;have hic:=h.ic;have hc:=h.acK;have e1:s*i<=s*(c-1):=Int.mul_le_mul_of_nonneg_left (by omega) (by omega)
 have e0:0<=s*i:=Int.mul_nonneg (by omega) pZ
 have e2:s*i<=4*255:=Int.mul_le_mul hs4 (by omega) pZ (by omega)
 have hn:s*i<F.length:=by omega
 unfold HE;refine ND (K:=K) (S:=s*i) (n:=F.length) (by rw[h.iT k ajm,hk];rfl) (by omega) hK hK4 (by rw[h1];rfl) (by omega) (fun e' he=>rT (by rw[he 18 (by omega)];exact h.YC)) e0 (by omega) ?_
 intro e' V G' bF hv hVl hV;have g18:e' 18 = .i i:=by rw[bF 18 (by omega)];exact h.YC
 have g1:e' 1 = .l F:=by rw[bF 1 (by omega)];exact h1
 have t0:=Int.tmod_nonneg (F.length:Int) (show 0<=s*i+d by omega)
 have t1:=Int.tmod_lt_of_pos (s*i+d) (show(0:Int)<F.length by omega)
 refine HW (m:=m0) (i:=i) (a:=s*i) (b:=(s*i+d).tmod F.length) z7 (by omega) (by omega) (by omega) hv g1 (by omega) (by omega) hV ?_ ?_ ?_ ⟨e0,hn⟩ ?_ ⟨t0,t1⟩ (by rw[bF 17 (by omega)];exact h.e17) h.len g18 pZ (by omega) (fun q=>by have:=h4 q;omega) (fun q=>by have:=h3 q;omega) h.more
 . intro p hp;have n0:(BE.si (.len 1)).ae e'=true:=decide_eq_true (by simp only[IE.ae,g1,dl];omega)
   have r0:(r6 (QA s)).ae e'=true:=ka (by rw[rT g18];omega)
   have r1:(r6 (x30 s d)).ae e'=true:=ka (by rw[HX g18];omega)
   split at hp<;>simp at hp<;>rcases hp with rfl|rfl|rfl<;>assumption
 . intro e2 lD p hp;simp only[List.mem_singleton]at hp;subst hp;exact ka (by rw[rT (by rw[lD 18 (by omega)];exact g18)];omega)
 . intro e2 lD;exact rT (by rw[lD 18 (by omega)];exact g18)
 . intro e2 lD;simp only[IE.ae,HX (show e2 18 = .i i by rw[lD 18 (by omega)];exact g18),lD 1 (by omega),g1,dl]
theorem W6(z7:∀ds,yS ds->∃rs,E 47 ds rs/\yT ds rs){i c:Int}{b:Bool}{F out:List (List Int)}{e:az}{G:List DV->Prop}(h:W4 6 F b e out i c G):W0.fW E R [] e (ox F0 30010 G):=by
 have h1:e 1 = .l F:=h.iT 1 (by omega)
 have hp:1*(c-1)+3<=(F.length:Int):=h.acL;have pZ:=h.i0;have hic:=h.ic;have hc:=h.acK;unfold W0;refine ND (K:=[0,1,2]) (S:=i) (n:=F.length) (by rw[h.iT 11 (by omega)];rfl) (by omega) (by decide) (by decide) (by rw[h1];rfl) (by omega) (fun e' he=>by simp only[IE.ae,he 18 (by omega),h.YC,di]) pZ (by omega) ?_
 intro e' V G' bF hv hVl hV;have hVl:V.length=3:=hVl;have g18:e' 18 = .i i:=by rw[bF 18 (by omega)];exact h.YC
 have g1:e' 1 = .l F:=by rw[bF 1 (by omega)];exact h1
 refine Gj (fun p hp=>?_) (gT (M:=dZ (V.set 0 0)) ?_ ?_)
 . simp only[List.mem_singleton]at hp;subst hp;exact decide_eq_true (by simp only[IE.ae,hv,dl,dj];omega)
 . simp only[cZ.ae,bV,IE.ae,hv,dl];exact ur
 have s1:∀k,k<22->(e'.set 22 (.l (dZ (V.set 0 0)))) k=e' k:=fun k hk=>by simp only[az.set];rw[if_neg (by omega)]
 have SG:(e'.set 22 (.l (dZ (V.set 0 0)))) 18 = .i i:=by rw[s1 18 (by omega)];exact g18
 have k1:(e'.set 22 (.l (dZ (V.set 0 0)))) 1 = .l F:=by rw[s1 1 (by omega)];exact g1
 have t0:=Int.tmod_nonneg (F.length:Int) (show 0<=i+2 by omega)
 have t1:=Int.tmod_lt_of_pos (i+2) (show(0:Int)<F.length by omega)
 refine HW (V:=V.set 0 0) (m:=6) (i:=i) (a:=i+1) (b:=(i+2).tmod F.length) z7 (by omega) (by omega) (by omega) (by simp[az.set]) k1 (by simp;omega) (by simp;omega) ?_ ?_ ?_ ?_ ⟨by omega,by omega⟩ ?_ ⟨t0,t1⟩ (by rw[s1 17 (by omega),bF 17 (by omega)];exact h.e17) h.len SG pZ (by omega) (fun _=>by simp;omega) (fun q=>by omega) h.more
 . intro x hx;rcases List.mem_or_eq_of_mem_set hx with hx|rfl
   . exact hV x hx
   . omega
 . intro p hp;simp only[bq,List.not_mem_nil,or_false]at hp;rcases hp with rfl|rfl|rfl
   . exact ka (by simp only[IE.ae,SG,di];omega)
   . exact ka (by simp only[IE.ae,SG,di];omega)
   . exact decide_eq_true (by simp only[IE.ae,k1,dl];omega)
 . intro e2 lD p hp;have z18:e2 18 = .i i:=by rw[lD 18 (by omega)];exact SG
   simp only[bq,List.not_mem_nil,or_false]at hp;rcases hp with rfl|rfl<;>exact ka (by simp only[IE.ae,z18,di];omega)
 . intro e2 lD;simp only[IE.ae,lD 18 (by omega),SG,di]
 . intro e2 lD;simp only[IE.ae,lD 18 (by omega),lD 1 (by omega),SG,k1,di,dl]
theorem uw(HP:∀ds,HT ds->∃rs,E 46 ds rs/\Ey ds rs){m0:Int}{F:List (List Int)}{b:Bool}{B:aw}(h0:0<=m0)(h9:m0<=9)(hF:F.length<=256)
   (hB:∀(e:az) (out:List (List Int)) (i c:Int) (G:List DV->Prop),W4 m0 F b e out i c G->B.fW E (Eg [.i m0,.l F,.b b]) [] e (ox F0 30010 G)) :
   (J1 m0 B).2.fW E (Eg [.i m0,.l F,.b b]) [] (aM.ar 0 [.i m0,.l F,.b b]) F0:=by
 unfold J1;refine Gi (iB HP ⟨m0,F.length,rfl,h0,h9,by omega,by omega⟩ ?_)
 rintro _ _ ⟨c,rfl,uB,hc,EI⟩;have EI:=EI m0 F.length rfl;refine my (fun ds=>∃(out:List (List Int)) (i:Int),ds=[.l out,.i i]/\(out.length:Int)<=i/\0<=i/\i<=c/\∀r∈out,tm m0 F.length r) (fun| [_,.i i]=>(c-i).toNat|_=>0)
   ⟨[],0,rfl,by simp,by omega,by omega,fun r hr=>by cases hr⟩ ?_
 rintro _ ⟨out,i,rfl,hol,pZ,hic,gD⟩;refine gb (fun cQ=>?_) (fun sS=>?_)
 . have cQ:i<c:=cQ;refine hB _ out i c _ ⟨?_,rfl,rfl,hol,pZ,cQ,hc,EI (by omega),?_⟩
   . intro k hk;simp only[az.ar,az.set];rw[if_neg (by omega),if_neg (by omega),if_neg (by omega)]
   . intro r hr;refine⟨⟨out++[r],i+1,rfl,by simp;omega,by omega,by omega,fun r' cF=>?_⟩,?_⟩
     . rcases List.mem_append.1 cF with cF|cF
       . exact gD r' cF
       . rw[List.mem_singleton]at cF;subst cF;exact hr
     . show(c-(i+1)).toNat<(c-i).toNat;omega
 . exact dT (rs:=[.l out,.i 0]) rfl ⟨out,0,rfl,by omega,by omega,fun m' F' b' e r hr=>by cases e;exact gD r hr⟩
theorem o30(h44:∀ds,NB ds->∃rs,E 44 ds rs/\NC ds rs)(HP:∀ds,HT ds->∃rs,E 46 ds rs/\Ey ds rs)(z7:∀ds,yS ds->∃rs,E 47 ds rs/\yT ds rs){ds:List DV}(hp:Nd ds):t30.fW E (Eg ds) [] (aM.ar 0 ds) F0:=by
 obtain⟨m,F,b,rfl,hF⟩:=hp;unfold t30;refine ld (fun h=>?_) (fun h=>?_)
 . exact dT (rs:=[.l [],.i 1]) rfl ⟨[],1,rfl,by simp,by omega,fun _ _ _ _ r hr=>by cases hr⟩
 have hm:0<=m/\m<=9:=by
   simp[BE.ae,IE.ae,DV.int,az.ar,az.set]at h;omega
 refine gb (fun _=>?_) (fun _=>?_)
 . exact dT (rs:=[.l [],.i 8]) rfl ⟨[],8,rfl,by simp,by omega,fun _ _ _ _ r hr=>by cases hr⟩
 refine dF (fun e=>?_) (fun e9=>?_)
 . have e:m=9:=e;subst e;refine iB h44 ⟨F,rfl,hF⟩ ?_;rintro _ _ ⟨L,rfl,hL,gD⟩;exact dT (rs:=[.l L,.i 0]) rfl ⟨L,0,rfl,by omega,by omega,fun m' F' b' e r hr=>by cases e;exact gD F rfl r hr⟩
 refine dF (fun e=>?_) (fun e0=>?_)
 . have e:m=0:=e;subst e;exact uw HP (by omega) (by omega) hF fun e out i c G h=>uu z7 (K:=[0]) h rfl (by omega) (by decide) (by decide) (by decide) rfl (by omega) (by omega) (by decide) (by omega) (by omega) (by omega) (by decide)
 refine dF (fun e=>?_) (fun e1=>?_)
 . have e:m=1:=e;subst e;exact uw HP (by omega) (by omega) hF fun e out i c G h=>uu z7 (K:=[0,1]) h rfl (by omega) (by decide) (by decide) (by decide) rfl (by omega) (by omega) (by decide) (by omega) (by omega) (by omega) (by decide)
 refine dF (fun e=>?_) (fun e2=>?_)
 . have e:m=2:=e;subst e;exact uw HP (by omega) (by omega) hF fun e out i c G h=>uu z7 (K:=[0,1]) h rfl (by omega) (by decide) (by decide) (by decide) rfl (by omega) (by omega) (by decide) (by omega) (by omega) (by omega) (by decide)
 refine dF (fun e=>?_) (fun e3=>?_)
 . have e:m=3:=e;subst e;exact uw HP (by omega) (by omega) hF fun e out i c G h=>uu z7 (K:=[0,1]) h rfl (by omega) (by decide) (by decide) (by decide) rfl (by omega) (by omega) (by decide) (by omega) (by omega) (by omega) (by decide)
 refine dF (fun e=>?_) (fun e4=>?_)
 . have e:m=4:=e;subst e;exact uw HP (by omega) (by omega) hF fun e out i c G h=>uu z7 (K:=[0,1,2]) h rfl (by omega) (by decide) (by decide) (by decide) rfl (by omega) (by omega) (by decide) (by omega) (by omega) (by decide) (by omega)
 refine dF (fun e=>?_) (fun e5=>?_)
 . have e:m=5:=e;subst e;refine uw HP (by omega) (by omega) hF fun e out i c G h=>Gj (fun p hp=>?_) (ld (fun _=>?_) (fun _=>?_))
   . simp only[List.mem_singleton]at hp;subst hp;have:e 10 = .l (dZ [1,0,2]):=h.iT 10 (by omega)
     simp[BE.ae,IE.ae,this,dl,dZ]
   . exact uu z7 (K:=[1,0,2]) h rfl (by omega) (by decide) (by decide) (by decide) rfl (by omega) (by omega) (by decide) (by omega) (by omega) (by decide) (by omega)
   . exact uu z7 (K:=[0,1,2]) h rfl (by omega) (by decide) (by decide) (by decide) rfl (by omega) (by omega) (by decide) (by omega) (by omega) (by decide) (by omega)
 refine dF (fun e=>?_) (fun e6=>?_)
 . have e:m=6:=e;subst e;exact uw HP (by omega) (by omega) hF fun e out i c G h=>W6 z7 h
 refine dF (fun e=>?_) (fun e7=>?_)
 . have e:m=7:=e;subst e;exact uw HP (by omega) (by omega) hF fun e out i c G h=>uu z7 (K:=[0,1,2,3]) h rfl (by omega) (by decide) (by decide) (by decide) rfl (by omega) (by omega) (by decide) (by omega) (by omega) (by decide) (by omega)
 refine dF (fun e=>?_) (fun e8=>?_)
 . have e:m=8:=e;subst e;exact uw HP (by omega) (by omega) hF fun e out i c G h=>uu z7 (K:=[0,1,3,2]) h rfl (by omega) (by decide) (by decide) (by decide) rfl (by omega) (by omega) (by decide) (by omega) (by omega) (by decide) (by omega)
 . have e0:m≠0:=e0;have e1:m≠1:=e1;have e2:m≠2:=e2;have e3:m≠3:=e3;have e4:m≠4:=e4;have e5:m≠5:=e5;have e6:m≠6:=e6;have e7:m≠7:=e7;have e8:m≠8:=e8;have e9:m≠9:=e9;omega
end
variable {X:bA}
theorem g47:lH (TT Tryz.prog) X 47 yS yT:=kS T47 fun ds hp=>o47 hp
theorem g44:lH (TT Tryz.prog) X 44 NB NC:=kS T44 fun ds hp=>o44 g47 hp
theorem g46:lH (TT Tryz.prog) X 46 HT Ey:=kS T46 fun ds hp=>o46 hp
theorem g30:lH (TT Tryz.prog) X 30 Nd Eg:=kS T30 fun ds hp=>o30 g44 g46 g47 hp
end Go.Proofs.YtohebioanhliiaaGreatDoor.aD
namespace Go.Proofs.YtohebioanhliiaaGreatDoor.aD
open Go.Sx Go
def t57:aw:=
.ev (.call 80 (.c true) [.i (.v 0)] [.one (.s 146 [i6,i6]),oB] 3) (
.ite (.not (.v 4)) (
.ret [.i (.c 5)]) (
.ite (.not (.eq (.len 3) (.len 1))) (
.ret [.i (.c 1)]) (
.loop 57007 [.i (.c 0),.i (.c 0)] [.c i6,.c i6] 5 (
.ite (.lt (.v 6) (.len 1)) (
.ev (.aG (.le (.c 0) (.v 6))) (
.ev (.aG (.lt (.v 6) (.len 3))) (
.ite (.or (.lt (.get 1 (.v 6) 0) (.get 3 (.v 6) 0)) (.lt (.get 3 (.v 6) 1) (.get 1 (.v 6) 0))) (
.ret [.i (.c 4)]) (
.ev (.aG (r6 (.add (.v 6) (.c 1)))) (
.again 57007 [.i (.v 5),.i (.add (.v 6) (.c 1))]))))) (
.ret [.i (.c 0)])))))
theorem T57:TT Tryz.prog 57=some ⟨57,t57,(rowOf 57).sub⟩:=by kernel_rfl
variable {X:bA}
theorem ajn:ev (TT Tryz.prog) X 40 80 [.i 1]=some [.l [[1,1024],[1,1024]],.b true]:=by kernel_rfl
def Uc(ds:List DV):Prop:=ds=[.i 1]
def Ud(ds rs:List DV):Prop:=rs=[.l [[1,1024],[1,1024]],.b true]
theorem ajo:lH (TT Tryz.prog) X 80 Uc Ud:=fun ds hp=>by
 obtain rfl:ds=[.i 1]:=hp;exact⟨_,⟨40,ajn⟩,rfl⟩
theorem o57{E:Nat->List DV->List DV->Prop}(h80:∀ds,Uc ds->∃rs,E 80 ds rs/\Ud ds rs){ds:List DV}(hp:Es ds):t57.fW E (Et ds) [] (aM.ar 0 ds) (fun _ _=>False):=by
 obtain⟨xs,rfl,hx⟩:=hp;unfold t57;refine iB h80 rfl ?_;rintro _ _ rfl;refine rk (fun h=>?_) (fun _=>?_)
 . have:true=false:=h;cases this
 refine rk (fun h=>?_) (fun h=>?_)
 . have h:¬ ((2:Int)=xs.length):=of_decide_eq_false h;refine dT (rs:=[.i 1]) rfl ⟨1,rfl,by omega,fun ys e=>?_⟩
   cases e;exact⟨fun h=>by omega,fun hs=>absurd (by rw[hs.1];rfl) h⟩
 . have h:(2:Int)=xs.length:=of_decide_eq_true h;refine my (fun ds=>∃q i:Int,ds=[.i q,.i i]/\0<=i/\i<=2/\(1<=i->1<=cellAt xs 0 0/\cellAt xs 0 0<=1024)/\(2<=i->1<=cellAt xs 1 0/\cellAt xs 1 0<=1024)) (fun| [_,.i i]=>(2-i).toNat|_=>0)
     ⟨0,0,rfl,by omega,by omega,fun h=>by omega,fun h=>by omega⟩ ?_
   rintro _ ⟨q,i,rfl,pZ,Mr,h0,h1⟩;refine gb (fun cQ=>?_) (fun sS=>?_)
   . have cQ:i<(xs.length:Int):=cQ;refine nK (show(0:Int)<=i from pZ) (JP (show i<(2:Int)by omega) ?_)
     have hc:cellAt [[1,1024],[1,1024]] i 0=1/\cellAt [[1,1024],[1,1024]] i 1=1024:=by
       obtain rfl|rfl:i=0\/i=1:=by omega
       . exact⟨rfl,rfl⟩
       . exact⟨rfl,rfl⟩
     refine ld (fun hb=>?_) (fun hb=>?_)
     . have hb:(decide (cellAt xs i 0<cellAt [[1,1024],[1,1024]] i 0)||decide (cellAt [[1,1024],[1,1024]] i 1<cellAt xs i 0))=true:=hb;rw[hc.1,hc.2,fy,aC,aC]at hb;refine dT (rs:=[.i 4]) rfl ⟨4,rfl,by omega,fun ys e=>?_⟩
       cases e;refine⟨fun h=>by omega,fun hs=>?_⟩
       obtain⟨_,s0,s1⟩:=hs;obtain rfl|rfl:i=0\/i=1:=by omega
       . omega
       . omega
     . have hb:(decide (cellAt xs i 0<cellAt [[1,1024],[1,1024]] i 0)||decide (cellAt [[1,1024],[1,1024]] i 1<cellAt xs i 0))=false:=hb;rw[hc.1,hc.2,Bool.or_eq_false_iff,decide_eq_false_iff_not,decide_eq_false_iff_not]at hb;refine yK (show(-9223372036854775808:Int)<=i+1/\i+1<=9223372036854775807 by omega) (ko ⟨⟨q,i+1,rfl,by omega,by omega,fun h=>?_,fun h=>?_⟩,?_⟩)
       . rcases Int.lt_or_le 0 i with h5|h5
         . exact h0 (by omega)
         . obtain rfl:i=0:=by omega
           omega
       . obtain rfl:i=1:=by omega
         omega
       . show(2-(i+1)).toNat<(2-i).toNat;omega
   . have sS:(xs.length:Int)<=i:=sS;refine dT (rs:=[.i 0]) rfl ⟨0,rfl,by omega,fun ys e=>?_⟩
     cases e;exact⟨fun _=>⟨by omega,h0 (by omega),h1 (by omega)⟩,fun _=>rfl⟩
theorem ajp:lH (TT Tryz.prog) X 57 Es Et:=kS T57 fun ds hp=>o57 ajo hp
end Go.Proofs.YtohebioanhliiaaGreatDoor.aD
namespace Go.Proofs.YtohebioanhliiaaGreatDoor.aD
open Go.Sx Go
abbrev NH(P:Program)(X:bA)(i k:Nat):Prop:=mE (TT P) X kc (ord.take i)->lH (TT P) X k (kc k).fS (kc k).fX
theorem CN{k:Nat}(h:(kc k).pre.any (fun p=>p.beq (.c false))=true):∀ds,¬ (kc k).fS ds:=fun ds hp=>by
 rw[List.any_eq_true]at h;obtain⟨p,h1,h2⟩:=h;have e:=hp.2 _ h1;cases p<;>simp[BE.beq]at h2;subst h2;simp[BE.ae]at e
variable {X:bA}
theorem ahl:NH Tryz.prog X 19 47:=fun _ ds hp=>absurd hp (CN (by kernel_rfl) ds)
theorem ahm:NH Tryz.prog X 20 44:=fun _ ds hp=>absurd hp (CN (by kernel_rfl) ds)
theorem ahq:NH Tryz.prog X 160 12:=fun _ ds hp=>absurd hp (CN (by kernel_rfl) ds)
theorem ahu:NH Tryz.prog X 174 17:=fun _ ds hp=>absurd hp (CN (by kernel_rfl) ds)
theorem ajJ:kc 30=⟨[.i mn mx,.l 0 (some 256) [],.b],[],[.l 0 (some 256) [(1,256),(0,256),(0,255)],.i mn mx],[]⟩:=by kernel_rfl
theorem ahn:NH Tryz.prog X 22 30:=fun _=>by
 rw[ajJ];refine lH.weaken g30 (fun ds hp=>?_) (fun ds rs hp h=>?_)
 . obtain⟨hp,_⟩:=hp
   match ds,hp with
   | [.i m,.l F,.b b],⟨_,⟨_,h2,_⟩,_⟩=>exact⟨m,F,b,rfl,by have:=h2 _ rfl;omega⟩
 . obtain⟨hp,_⟩:=hp
   match ds,hp with
   | [.i m,.l F,.b b],⟨_,⟨_,h2,_⟩,_⟩=>
     have hF:=h2 _ rfl;obtain⟨L,e,rfl,hL,he,b8⟩:=h;refine⟨⟨⟨by omega,fun y hy=>?_,fun r hr=>?_⟩,⟨?_,?_⟩,trivial⟩,fun p hp=>by cases hp⟩
     . cases hy;omega
     . obtain⟨V,E,p,rfl,v1,v2,_,p1,p2,_,e1,e2,_⟩:=b8 m F b rfl r hr;have hE:(E.length:Int)<=256:=by
         rcases Nat.lt_or_ge V.length 3 with h|h
         . rw[e1 h];decide
         . rw[e2 h];omega
       have hF':(F.length:Int)<=256:=hF;refine⟨⟨?_,?_⟩,⟨?_,?_⟩,⟨?_,?_⟩,trivial⟩<;>simp only[rf,List.getD_cons_zero,List.getD_cons_succ]<;>omega
     . show mn<=e;unfold mn;omega
     . show e<=mx;unfold mx;omega
theorem ajK:kc 27=⟨[.l 0 (some 1099511627776) [],.i mn mx,.i mn mx],[],[.b],[]⟩:=by kernel_rfl
theorem aht:NH Tryz.prog X 173 27:=fun _=>by
 rw[ajK];refine lH.weaken g27 (fun ds hp=>?_) (fun ds rs hp h=>?_)
 . obtain⟨hp,_⟩:=hp
   match ds,hp with
   | [.l F,.i m,.i q],⟨⟨_,h2,_⟩,_⟩=>exact⟨F,m,q,rfl,by have:=h2 _ rfl;omega⟩
 . obtain⟨b,rfl,_⟩:=h;exact⟨⟨trivial,trivial⟩,fun p hp=>by cases hp⟩
theorem ajL:kc 64=⟨[.i 1 1],[],[.l 2 (some 2) [(1,1),(1024,1024)],.b],[rb 1]⟩:=by kernel_rfl
theorem ahr:NH Tryz.prog X 171 64:=fun _=>by
 rw[ajL];refine lH.weaken g64 (fun ds hp=>?_) (fun ds rs hp h=>?_)
 . obtain⟨hp,_⟩:=hp
   match ds,hp with
   | [.i m],⟨⟨h1,h2⟩,_⟩=>
     obtain rfl:m=1:=by omega
     rfl
 . obtain rfl:rs=_:=h;refine⟨⟨⟨by decide,fun y hy=>?_,fun r hr=>?_⟩,trivial,trivial⟩,fun p hp=>?_⟩
   . cases hy;decide
   . obtain rfl|rfl:r=[1,1024]\/r=[1,1024]:=by simpa using hr
     all_goals exact⟨⟨by decide,by decide⟩,⟨by decide,by decide⟩,trivial⟩
   . obtain rfl:p=rb 1:=by simpa using hp
     show((fK ds [.l [[1,1024],[1,1024]],.b true]) (R0+1)).bool=true;rw[fK,kX (by decide)]
     rfl
def szE(l:Nat):BE:=imp (.eq (rr 0) (.c 0)) (eA (pg l))
theorem SI{U:az}(e:Int)(xs:List (List Int))(h0:U R0 = .i e)(h1:U 1 = .l xs)(h:e=0->Sz xs):(szE 1).ae U=true:=by
 by_cases he:e=0
 . obtain⟨s1,s2,s3⟩:=h he;have e1:((xs.length:Int)==2)=true:=by rw[s1];rfl
   simp[szE,imp,eA,pg,kI,BE.ae,IE.ae,rr,h0,h1,DV.int,DV.list,s1,s2,s3]
 . simp[szE,imp,BE.ae,IE.ae,rr,h0,DV.int,he]
theorem ajM:kc 40=⟨[.i 1 1,.l 0 (some 40) [(mn,mx)]],[],[.i 0 12],[szE 1]⟩:=by kernel_rfl
theorem ahs:NH Tryz.prog X 172 40:=fun _=>by
 rw[ajM];refine lH.weaken g40 (fun ds hp=>?_) (fun ds rs hp h=>?_)
 . obtain⟨hp,_⟩:=hp
   match ds,hp with
   | [.i m,.l xs],⟨⟨h1,h2⟩,⟨_,h3,_⟩,_⟩=>
     obtain rfl:m=1:=by omega
     exact⟨xs,rfl,by have:=h3 _ rfl;omega⟩
 . obtain⟨hp,_⟩:=hp
   match ds,hp with
   | [.i m,.l xs],⟨⟨h1,h2⟩,⟨_,h3,_⟩,_⟩=>
     obtain rfl:m=1:=by omega
     obtain⟨e,rfl,he,hz⟩:=h;refine⟨⟨he,trivial⟩,fun p hp=>?_⟩
     obtain rfl:p=szE 1:=by simpa using hp
     refine SI e xs ?_ ?_ (hz xs rfl).1
     . have:=kX (e:=aM.ar 0 [.i 1,.l xs]) (b:=R0) (j:=0) (ds:=[.i e]) (Nat.zero_lt_one);exact this
     . rw[fK,az.aX (by unfold R0;omega)]
       exact jC (ds:=[.i 1,.l xs]) (j:=1) (Nat.lt_succ_self 1)
abbrev yW:BE:=imp (.and (.eq (.v 0) (.c 1)) (.eq (rr 0) (.c 0))) (eA (pg 1))
theorem acM:kc 57=⟨[.i mn mx,.l 0 (some 40) [(mn,mx)]],[],[.i 0 12],(bare 57 (kc 57)).post++[yW]⟩:=by kernel_rfl
theorem Gl:bare 57 (kc 57)=⟨[.i mn mx,.l 0 (some 40) [(mn,mx)]],[],[.i 0 12],(bare 57 (kc 57)).post⟩:=by kernel_rfl
theorem p57:(wi (Ru kc (ord.take 130)) (gR.mk 57 t57 (rowOf 57).sub).key (an 57) (bare 57 (kc 57)) t57).isEmpty=true:=by kernel_rfl
theorem Gm{U:az}(m e:Int)(xs:List (List Int))(hm:U 0 = .i m)(h0:U R0 = .i e)(h1:U 1 = .l xs)(h:m=1->e=0->Sz xs):yW.ae U=true:=by
 by_cases he:m=1/\e=0
 . obtain⟨s1,s2,s3⟩:=h he.1 he.2;simp[yW,imp,eA,pg,kI,BE.ae,IE.ae,rr,hm,h0,h1,DV.int,DV.list,s1,s2,s3]
 . have:(decide (m=1)&&decide (e=0))=false:=by
     rw[Bool.and_eq_false_iff,decide_eq_false_iff_not,decide_eq_false_iff_not];omega
   simp only[yW,imp,BE.ae,IE.ae,rr,Nat.add_zero,h0,hm,DV.int,this,Bool.not_false,Bool.true_or]
theorem ahp:NH Tryz.prog X 130 57:=fun hG=>by
 have hb:lH (TT Tryz.prog) X 57 (bare 57 (kc 57)).fS (bare 57 (kc 57)).fX:=Hq T57 (FO hG) (au 57) (by rw[Gl];decide) p57
 intro ds hp;rw[acM]at hp;obtain⟨rs,g,hq⟩:=hb ds (by rw[Gl];exact hp)
 refine⟨rs,g,?_⟩;rw[acM];rw[Gl]at hq;obtain⟨q1,q2⟩:=hq;refine⟨q1,fun p vd=>?_⟩
 rcases List.mem_append.1 vd with h|h
 . exact q2 p h
 . obtain rfl:p=yW:=by simpa using h
   obtain⟨hp,_⟩:=hp
   match ds,hp,rs,q1,g with
   | [.i m,.l xs],⟨_,⟨_,h3,_⟩,_⟩,[.i e],_,g=>
     refine Gm m e xs ?_ ?_ ?_ fun hm he=>?_
     . rw[fK,az.aX (by unfold R0;omega)]
       exact jC (ds:=[.i m,.l xs]) (j:=0) (Nat.zero_lt_succ 1)
     . exact kX (e:=aM.ar 0 [.i m,.l xs]) (b:=R0) (j:=0) (ds:=[.i e]) Nat.zero_lt_one
     . rw[fK,az.aX (by unfold R0;omega)]
       exact jC (ds:=[.i m,.l xs]) (j:=1) (Nat.lt_succ_self 1)
     . subst hm;obtain⟨dW,g',e',rfl,_,hz⟩:=ajp (X:=X) [.i 1,.l xs] ⟨xs,rfl,by have:=h3 _ rfl;omega⟩
       have:=bK.AR g g';cases this;exact(hz xs rfl).1 he
end Go.Proofs.YtohebioanhliiaaGreatDoor.aD
namespace Go.Proofs.YtohebioanhliiaaGreatDoor.aD
open Go.Sx Go
theorem acR:kc 241=⟨[.i 0 18446744073709551615,.i 0 18446744073709551615,.i 0 18446744073709551615],[.lt (.v 0) (.v 2)],[.i 0 18446744073709551615,.i 0 18446744073709551615],[]⟩:=by kernel_rfl
theorem abr{X:bA}(hX:X 283=vn):NH Tryz.prog X 48 241:=fun _=>by
 rw[acR];intro ds hp;obtain⟨ha,hq⟩:=hp
 match ds,ha,hq with
 | [.i hi,.i lo,.i y],⟨⟨a0,a1⟩,⟨b0,b1⟩,⟨c0,c1⟩,_⟩,hq=>
   have cQ:hi<y:=of_decide_eq_true (hq _ (aO ..));obtain⟨rs,g,h⟩:=agW hX [.i hi,.i lo,.i y] ⟨hi,lo,y,rfl,a0,cQ,by omega,b0,by omega⟩
   have h:=h hi lo y rfl;refine⟨rs,g,?_⟩;rw[show rs=_ from h]
   have n0:0<=hi*18446744073709551616+lo:=by omega
   have q0:=Int.ediv_nonneg n0 (show 0<=y by omega)
   have q1:(hi*18446744073709551616+lo)/y<18446744073709551616:=Int.ediv_lt_of_lt_mul (by omega) (by omega)
   have r0:=Int.emod_nonneg (hi*18446744073709551616+lo) (show y≠0 by omega)
   have r1:=Int.emod_lt_of_pos (hi*18446744073709551616+lo) (show 0<y by omega)
   exact⟨⟨⟨q0,by omega⟩,⟨r0,by omega⟩,trivial⟩,fun p hp=>by cases hp⟩
end Go.Proofs.YtohebioanhliiaaGreatDoor.aD

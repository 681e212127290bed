/- The functions' signatures, how each is walked, their contracts. -/
import Derived.Test.YtohebioanhliiaaGreatDoorJAK
set_option maxRecDepth 100000
set_option linter.unusedVariables false
namespace Go.Proofs.YtohebioanhliiaaGreatDoor.aF
open Go.Sx
abbrev i6:CK:=.i .i64
abbrev oI:VT:=.one (.c i6)
abbrev oB:VT:=.one (.c .b)
abbrev rp{α:Type}(n:Nat)(x:α):List α:=List.replicate n x
abbrev od:List CT:=[.c i6,.c i6,.c i6,.s 3 [i6],.s 3 [i6],.c i6,.c i6,.c i6,.c i6,.c i6,.c i6,.c i6,.c i6,.c i6,.c i6,.s 138 (rp 16 (i6)),.s 138 (rp 16 (i6)),.c i6,.c i6,.c i6,.c i6,.c i6,.c i6,.c i6,.c i6,.c i6,.c i6,.c i6,.c i6,.c i6,.c i6,.c i6,.c i6,.c i6,.c i6,.c i6,.c i6,.c i6,.c i6,.c i6,.c i6,.c i6,.c i6,.c i6,.c i6,.c i6,.c i6,.c .b,.c .b,.c .b,.c .b,.c .b,.c .b,.c i6,.c i6,.c i6,.c i6,.c .b,.c .b,.c i6,.s 76 (rp 8 (i6)),.s 4 [.b],.c i6,.c .b,.c .b,.c i6,.c i6,.c i6,.c i6,.c i6,.c i6,.c i6,.c .b,.c i6,.c .b,.c i6,.c i6,.c .b,.c .b,.c .b,.c i6,.c i6,.c i6,.c i6,.c .b,.c i6,.c .b,.c .b,.c i6,.c i6,.c .b,.c .b,.c .b,.c .b]
abbrev fo:List CK:=[i6,i6,i6,i6,i6,i6,i6,i6]
def sg3:bR:=⟨[.agg [.c i6,.c i6],.agg [.c i6,.c i6],.agg [.c i6,.c i6]],[oB],0⟩
def sg4:bR:=⟨[.one (.n 85 [.c i6,.s 3 i6])],[oB],0⟩
def sg5:bR:=⟨[.one (.n 85 [.c i6,.s 3 i6])],[oB],0⟩
def sg6:bR:=⟨[.one (.n 85 [.c i6,.s 3 i6])],[oB],0⟩
def sg7:bR:=⟨[.one (.n 85 [.c i6,.s 3 i6]),.agg (rp 8 (.c (.i .i16)))],[oB],0⟩
def sg8:bR:=⟨[.one (.s 23 [i6,i6]),.agg [.c (.i .u8),.c (.i .u8),.c (.i .u8)],oB],[oB],0⟩
def sg9:bR:=⟨[.one (.s 23 [i6,i6]),oI],[oB],0⟩
def aaV:bR:=⟨[],[oB],0⟩
def aaW:bR:=⟨[.agg (rp 7 (.c i6)),.agg (rp 7 (.c i6)),.agg (rp 7 (.c i6))],[oI],0⟩
def aaX:bR:=⟨[.one (.n 85 [.c i6,.s 3 i6])],[.agg od],0⟩
def aaY:bR:=⟨[oI,oI],[.one (.n 85 [.c i6,.s 3 i6])],0⟩
def aaZ:bR:=⟨[oI,.one (.s 23 [i6,i6])],[.one (.n 85 [.c i6,.s 3 i6])],0⟩
def aa0:bR:=⟨[.agg od],[.one (.s 3 [i6])],0⟩
def aa1:bR:=⟨[.agg [.c i6,.c i6,.s 3 [i6],.s 3 [i6]],.agg [.c i6,.c i6,.s 3 [i6],.s 3 [i6]]],[oB],0⟩
def aa2:bR:=⟨[.one (.n 85 [.c i6,.s 3 i6])],[.agg od,oB],0⟩
def aa3:bR:=⟨[.agg od],[.one (.s 74 (rp 8 (i6))),oB],0⟩
def aa4:bR:=⟨[.agg od],[.agg [.c i6,.c i6,.s 3 [i6],.s 3 [i6]]],0⟩
def aa5:bR:=⟨[.one (.s 74 (rp 8 (i6))),.one (.s 74 (rp 8 (i6)))],[oB],0⟩
def aa6:bR:=⟨[oI,.one (.s 3 [i6])],[.agg [.c i6,.s 3 [i6]]],2⟩
def aa7:bR:=⟨[],[.agg od],0⟩
def aa8:bR:=⟨[.agg od,.agg [.c i6,.s 3 [i6]]],[.agg od],94⟩
def aa9:bR:=⟨[oI],[.agg [.c i6,.c i6,.c i6,.c i6]],0⟩
def aa':bR:=⟨[.agg [.c i6,.c i6,.s 3 [i6],.s 3 [i6]],.agg [.c i6,.c i6,.s 3 [i6],.s 3 [i6]]],[oB],0⟩
def abb:bR:=⟨[.one (.n 85 [.c i6,.s 3 i6]),oI,oI],[oB],0⟩
def Vm:bR:=⟨[.agg od],[.agg [.c i6,.c i6,.c i6,.c i6]],0⟩
def Vn:bR:=⟨[.agg od],[.one (.s 44 [i6,i6,i6,i6,i6])],0⟩
def Vo:bR:=⟨[oI,.one (.s 4 [.b]),oB],[.one (.n 104 [.s 3 i6,.s 4 (.b),.c i6]),oI],0⟩
def abd:bR:=⟨[.one (.s 74 (rp 8 (i6))),.one (.s 74 (rp 8 (i6)))],[oB],0⟩
def abe:bR:=⟨[],[.agg [.c i6,.s 138 (rp 16 (i6)),.s 138 (rp 16 (i6))]],0⟩
def abf:bR:=⟨[.agg [.c i6,.s 3 [i6]]],[oI],0⟩
def abg:bR:=⟨[.agg [.c i6,.c i6,.s 3 [i6],.s 3 [i6]]],[.agg [.c i6,.c i6,.c i6,.c i6]],0⟩
def abh:bR:=⟨[.agg [.c i6,.c i6,.c i6,.c i6],.agg [.c i6,.c i6,.c i6,.c i6]],[.agg [.c i6,.c i6,.c i6,.c i6]],0⟩
def abi:bR:=⟨[.one (.s 44 [i6,i6,i6,i6,i6])],[.one (.s 44 [i6,i6,i6,i6,i6]),oI],0⟩
def abj:bR:=⟨[.one (.s 4 [.b])],[.one (.n 104 [.s 3 i6,.s 4 (.b),.c i6])],0⟩
def abk:bR:=⟨[oI,oI],[oI],0⟩
def abl:bR:=⟨[.one (.s 3 [i6]),.one (.s 4 [.b]),oB],[.one (.s 4 [.b])],0⟩
def abm:bR:=⟨[oI],[oI,oB],0⟩
def abn:bR:=⟨[],[.agg (rp 16 (.c i6))],0⟩
def abo:bR:=⟨[.agg [.c i6,.s 3 [i6]]],[oI],0⟩
def abp:bR:=⟨[oB,oI],[oB],0⟩
def abq:bR:=⟨[oI],[.one (.s 146 [i6,i6]),oB],0⟩
def VR:bR:=⟨[.agg [.c i6,.c i6,.c i6,.c i6]],[oB],0⟩
def abr:bR:=⟨[.agg [.c i6,.c i6,.c i6,.c i6,.c i6]],[oB],0⟩
def Vg:bR:=⟨[.agg [.c i6,.c i6,.c i6,.c i6,.c i6],.agg (rp 8 (.c i6))],[oI],0⟩
def Vh:bR:=⟨[.agg (rp 7 (.c i6)),oI,oI,.agg [.c i6,.c i6,.c i6,.c i6]],[.one (.s 74 (rp 8 (i6)))],0⟩
def Vi:bR:=⟨[.agg (rp 8 (.c i6)),.agg (rp 8 (.c i6)),.one (.s 44 [i6,i6,i6,i6,i6])],[.agg (rp 8 (.c i6)),.agg (rp 8 (.c i6)),oB],0⟩
def Vj:bR:=⟨[.agg (rp 7 (.c i6)),.agg (rp 7 (.c i6)),.agg ([.c i6,.c .b,.c .b]++rp 7 (.c i6)++[.c .b,.c i6,.c .b,.c i6,.c i6]),.agg [.c i6,.c i6,.c i6],.agg [.c i6,.c i6,.c i6,.c i6]],[.one (.s 74 (rp 8 (i6))),.agg [.c i6,.c i6,.c i6]],0⟩
def Vk:bR:=⟨[.one (.s 76 (rp 8 (i6))),.one (.s 4 [.b]),.one (.s 44 [i6,i6,i6,i6,i6])],[.one (.s 76 (rp 8 (i6))),.one (.s 4 [.b]),oI],0⟩
def Vl:bR:=⟨[.one (.s 30 (rp 7 (i6))),.one (.s 4 [.b]),.agg ([.c i6,.c .b,.c .b]++rp 7 (.c i6)++[.c .b,.c i6,.c .b,.c i6,.c i6]),.agg [.c i6,.c i6,.c i6,.c i6]],[.one (.s 74 (rp 8 (i6)))],0⟩
def abt:bR:=⟨[oI],[.one (.s 146 [i6,i6]),oB],0⟩
def abu:bR:=⟨[.agg [.c i6,.c i6,.s 3 [i6],.s 3 [i6]],.agg [.c i6,.c i6,.c i6,.c i6],oI,.agg [.c i6,.c i6,.c i6,.c i6],oI,.agg [.c .b,.c .b,.c .b,.c .b]],[.agg [.c i6,.c i6,.s 3 [i6],.s 3 [i6]]],0⟩
def abv:bR:=⟨[oI,oI,oI,oI],[.agg [.c i6,.c i6,.c i6,.c i6],oB],0⟩
def Wp:bR:=⟨[.one (.c (.f)),oI],[oI,oI],0⟩
def abw:bR:=⟨[oI],[.one (.c (.f))],0⟩
def abx:bR:=⟨[.agg [.c i6,.s 138 (rp 16 (i6)),.s 138 (rp 16 (i6))],oI],[.agg [.c i6,.s 138 (rp 16 (i6)),.s 138 (rp 16 (i6))],oI],0⟩
def aby:bR:=⟨[.agg [.c i6,.s 138 (rp 16 (i6)),.s 138 (rp 16 (i6))],.agg (rp 16 (.c i6))],[.agg [.c i6,.s 138 (rp 16 (i6)),.s 138 (rp 16 (i6))],oI],0⟩
def abz:bR:=⟨[.agg [.c i6,.s 138 (rp 16 (i6)),.s 138 (rp 16 (i6))],.agg (rp 16 (.c i6))],[.agg [.c i6,.s 138 (rp 16 (i6)),.s 138 (rp 16 (i6))],oI],0⟩
def abA:bR:=⟨[.agg [.c i6,.s 138 (rp 16 (i6)),.s 138 (rp 16 (i6))]],[.agg [.c i6,.s 138 (rp 16 (i6)),.s 138 (rp 16 (i6))],oI],0⟩
def abB:bR:=⟨[.agg [.c i6,.s 138 (rp 16 (i6)),.s 138 (rp 16 (i6))]],[.agg [.c i6,.s 138 (rp 16 (i6)),.s 138 (rp 16 (i6))],oI],0⟩
def abC:bR:=⟨[],[.one (.n 34 [.s 3 i6])],0⟩
def Q8:bR:=⟨[oI,oI],[oB],0⟩
def Q9:bR:=⟨[.agg (rp 8 (.c i6))],[.agg [.c i6,.c i6,.c i6,.c i6]],0⟩
def Q':bR:=⟨[.agg (rp 7 (.c i6)),oI,oI],[oB],0⟩
def Ra:bR:=⟨[.agg (rp 7 (.c i6)),oI,.agg [.c i6,.c i6,.c i6,.c i6]],[.one (.s 74 (rp 8 (i6)))],0⟩
def Rb:bR:=⟨[.agg (rp 7 (.c i6)),oI],[.agg [.c i6,.c i6,.c i6,.c i6]],0⟩
def Rc:bR:=⟨[oI,oI,.ptr 2 [i6],.ptr 2 [i6],.ptr 2 [i6]],[.agg (rp 8 (.c i6))],0⟩
def Rd:bR:=⟨[oI,oI],[oI],0⟩
def J9:bR:=⟨[.agg (rp 8 (.c i6)),.agg [.c i6,.c i6,.c i6,.c i6]],[.agg (rp 7 (.c i6)),oI],0⟩
def Re:bR:=⟨[.agg [.c i6,.c i6,.c i6,.c i6,.c i6],.agg (rp 8 (.c i6)),.agg (rp 8 (.c i6))],[oI,oI,oI],0⟩
def Rf:bR:=⟨[.agg [.c i6,.c i6],.agg [.c i6,.c i6]],[oB],0⟩
def Rh:bR:=⟨[.agg (rp 8 (.c i6)),.agg (rp 8 (.c i6)),oI,oI],[.agg (rp 8 (.c i6)),oI],0⟩
def Ri:bR:=⟨[.agg (rp 7 (.c i6)),.agg (rp 7 (.c i6)),oI,.agg [.c i6,.c i6,.c i6,.c i6]],[.one (.s 74 (rp 8 (i6)))],0⟩
def Rj:bR:=⟨[.agg (rp 7 (.c i6)),.agg (rp 7 (.c i6)),oI,oB,.agg [.c i6,.c i6,.c i6],.agg [.c i6,.c i6,.c i6,.c i6]],[.one (.s 74 (rp 8 (i6))),.agg [.c i6,.c i6,.c i6]],0⟩
def Rk:bR:=⟨[.one (.s 76 (rp 8 (i6))),.one (.s 4 [.b]),.one (.s 44 [i6,i6,i6,i6,i6])],[oB],0⟩
def Rl:bR:=⟨[.one (.s 76 (rp 8 (i6))),.one (.s 4 [.b])],[.one (.s 279 (rp 9 (i6)++[.b]))],0⟩
def Rm:bR:=⟨[.one (.s 279 (rp 9 (i6)++[.b]))],[.one (.s 76 (rp 8 (i6))),.one (.s 4 [.b])],0⟩
def Rn:bR:=⟨[.agg [.s 30 (rp 7 (i6)),.s 4 [.b],.c i6,.c .b,.c .b,.c i6,.c i6,.c i6,.c i6,.c i6,.c i6,.c i6,.c .b,.c i6,.c .b,.c i6,.c i6,.c i6,.c i6,.c i6,.c i6]],[oB],0⟩
def Ro:bR:=⟨[.agg ([.c i6,.c .b,.c .b]++rp 7 (.c i6)++[.c .b,.c i6,.c .b,.c i6,.c i6])],[oB],0⟩
def Rp:bR:=⟨[.one (.s 30 (rp 7 (i6))),.agg ([.c i6,.c .b,.c .b]++rp 7 (.c i6)++[.c .b,.c i6,.c .b,.c i6,.c i6])],[oB],0⟩
def Rq:bR:=⟨[.one (.s 30 (rp 7 (i6))),oB],[oB],0⟩
def Rr:bR:=⟨[.agg [.s 30 (rp 7 (i6)),.s 4 [.b],.c i6,.c .b,.c .b,.c i6,.c i6,.c i6,.c i6,.c i6,.c i6,.c i6,.c .b,.c i6,.c .b,.c i6,.c i6,.c i6,.c i6,.c i6,.c i6]],[.one (.s 74 (rp 8 (i6)))],0⟩
def Rt:bR:=⟨[.agg [.s 30 (rp 7 (i6)),.s 4 [.b],.c i6,.c .b,.c .b,.c i6,.c i6,.c i6,.c i6,.c i6,.c i6,.c i6,.c .b,.c i6,.c .b,.c i6,.c i6,.c i6,.c i6,.c i6,.c i6]],[.one (.s 74 (rp 8 (i6)))],0⟩
def Ru:bR:=⟨[.agg [.s 30 (rp 7 (i6)),.s 4 [.b],.c i6,.c .b,.c .b,.c i6,.c i6,.c i6,.c i6,.c i6,.c i6,.c i6,.c .b,.c i6,.c .b,.c i6,.c i6,.c i6,.c i6,.c i6,.c i6]],[.one (.s 74 (rp 8 (i6)))],0⟩
def Rv:bR:=⟨[oI],[.one (.s 146 [i6,i6]),oB],0⟩
def Rw:bR:=⟨[oI],[.one (.s 146 [i6,i6]),oB],0⟩
def Rx:bR:=⟨[oI,oI],[.agg [.c i6,.c i6,.s 3 [i6],.s 3 [i6]],oI],0⟩
def Ry:bR:=⟨[.agg [.c i6,.c i6,.s 3 [i6],.s 3 [i6]]],[.agg [.c i6,.c i6,.s 3 [i6],.s 3 [i6]]],0⟩
def Rz:bR:=⟨[.agg [.c .b,.c .b,.c .b,.c .b]],[oI],0⟩
def RA:bR:=⟨[.agg [.c i6,.c i6,.c i6,.c i6]],[oI],0⟩
def RB:bR:=⟨[.one (.c (.i .u64)),.one (.c (.i .u64))],[.one (.c (.i .u64)),.one (.c (.i .u64))],0⟩
def Kc:bR:=⟨[.one (.c (.i .u64))],[.one (.c (.f))],0⟩
def RC:bR:=⟨[.agg [.c i6,.s 138 (rp 16 (i6)),.s 138 (rp 16 (i6))]],[oB],0⟩
def RD:bR:=⟨[.agg (rp 16 (.c i6))],[oB],0⟩
def RE:bR:=⟨[.agg [.c i6,.s 138 (rp 16 (i6)),.s 138 (rp 16 (i6))],oI],[.agg (rp 16 (.c i6)),oI],0⟩
def RF:bR:=⟨[.agg (rp 16 (.c i6)),.agg (rp 16 (.c i6))],[.agg (rp 16 (.c i6)),oI],0⟩
def Ke:bR:=⟨[.one (.c (.f)),oI,oI],[oI,oI],0⟩
def RG:bR:=⟨[.agg (rp 7 (.c i6)),.agg (rp 7 (.c i6)),oI,.agg [.c i6,.c i6,.c i6]],[oB],0⟩
def RH:bR:=⟨[oI,oI,.ptr 2 [i6],.ptr 2 [i6]],[.agg (rp 8 (.c i6))],0⟩
def RI:bR:=⟨[.agg (rp 7 (.c i6)),oI,oI,oI],[oI],0⟩
def RJ:bR:=⟨[.agg [.c i6,.c i6,.c i6,.c i6]],[oB],0⟩
def RK:bR:=⟨[.agg (rp 8 (.c i6))],[oB],0⟩
def RL:bR:=⟨[oI,oI],[oI],0⟩
def RM:bR:=⟨[.agg [.c i6,.c (.i .u64)],.agg [.c i6,.c (.i .u64)]],[oI],0⟩
def RN:bR:=⟨[oI,oI],[.agg [.c i6,.c (.i .u64)]],0⟩
def RP:bR:=⟨[.agg (rp 8 (.c i6))],[oB],0⟩
def RQ:bR:=⟨[oI,oI,oI,oI],[oI],0⟩
def RR:bR:=⟨[.agg (rp 7 (.c i6)),.agg (rp 7 (.c i6)),oI],[oB],0⟩
def RS:bR:=⟨[.agg (rp 7 (.c i6)),.agg (rp 7 (.c i6)),oI],[.agg (rp 7 (.c i6))],0⟩
def RT:bR:=⟨[.agg (rp 7 (.c i6)),.agg (rp 7 (.c i6)),oI,.agg [.c i6,.c i6,.c i6,.c i6]],[oI,oI],0⟩
def RU:bR:=⟨[.agg (rp 7 (.c i6)),.agg (rp 7 (.c i6)),oI,oI],[oI,.agg [.c i6,.c i6,.c i6,.c i6]],0⟩
def RV:bR:=⟨[.agg (rp 7 (.c i6)),.agg (rp 7 (.c i6)),oI],[.agg [.c i6,.c i6,.c i6,.c i6,.c .b]],0⟩
def RW:bR:=⟨[.agg [.c i6,.c i6,.c i6],oI],[.agg [.c i6,.c i6,.c i6]],0⟩
def RX:bR:=⟨[.agg [.c i6,.c i6],.agg [.c i6,.c i6]],[oI],0⟩
def KA:bR:=⟨[.agg [.c i6,.c i6,.c i6,.c i6],oI,oI],[oB],0⟩
def Bm:bR:=⟨[.agg [.c i6,.c i6],.agg [.c i6,.c i6],.agg [.c i6,.c i6,.c i6,.c i6]],[.one (.s 276 [i6,i6,i6])],0⟩
def RY:bR:=⟨[.agg [.c i6,.c i6,.c i6,.c i6,.c .b],.agg [.c i6,.c i6,.c i6,.c i6],oI],[.agg [.c i6,.c i6,.c i6,.c i6]],0⟩
def RZ:bR:=⟨[.agg [.c i6,.c i6,.c i6],oI],[oB],0⟩
def R3:bR:=⟨[.agg (rp 7 (.c i6)),.agg (rp 7 (.c i6)),oI,oI],[oI,.agg [.c i6,.c i6,.c i6,.c i6]],0⟩
def R4:bR:=⟨[.agg (rp 9 (.c i6)++[.c .b]),.agg (rp 9 (.c i6)++[.c .b]),oB],[.agg (rp 9 (.c i6)++[.c .b])],0⟩
def R5:bR:=⟨[.agg [.c i6,.c i6,.c i6]],[oB],0⟩
def R6:bR:=⟨[.one (.s 30 (rp 7 (i6)))],[oI],0⟩
def R7:bR:=⟨[.agg (rp 7 (.c i6)),.agg (rp 7 (.c i6)),.agg (rp 7 (.c i6)),oI,oI],[oI],0⟩
def R8:bR:=⟨[.agg (rp 7 (.c i6)),.agg (rp 7 (.c i6)),.agg (rp 7 (.c i6)),oI,.agg [.c i6,.c i6,.c i6,.c i6]],[.one (.s 74 (rp 8 (i6)))],0⟩
def R9:bR:=⟨[oI,.agg [.c i6,.c i6]],[.one (.s 146 [i6,i6])],0⟩
def Sa:bR:=⟨[oI,oI],[oB],0⟩
def Sc:bR:=⟨[.ptr 3 [i6],oI,.ptr 3 [i6]],[oI],0⟩
def Sd:bR:=⟨[.agg (rp 16 (.c i6)),.agg [.c i6,.c i6,.c i6,.c i6],oI],[.agg [.c i6,.c i6,.c i6,.c i6],oI],0⟩
def Se:bR:=⟨[.agg (rp 7 (.c i6))],[oB],0⟩
def Sf:bR:=⟨[oI],[.one (.c (.i .u64))],0⟩
def Sg:bR:=⟨[.one (.c (.i .u64)),.one (.c (.i .u64)),oB],[.agg [.c i6,.c (.i .u64)],oB],0⟩
def Sh:bR:=⟨[.agg [.c i6,.c (.i .u64)],oI],[.agg [.c i6,.c (.i .u64)],oI,oB],0⟩
def Si:bR:=⟨[.agg [.c i6,.c (.i .u64)]],[oI,oB],0⟩
def Sj:bR:=⟨[.agg [.c i6,.c (.i .u64)],oI],[.agg [.c i6,.c (.i .u64)],oB],0⟩
def Sl:bR:=⟨[oI],[.agg [.c i6,.c (.i .u64)]],0⟩
def Sm:bR:=⟨[.agg [.c i6,.c (.i .u64)]],[oI,oB],0⟩
def Sn:bR:=⟨[.agg (rp 7 (.c i6)),oI,oI,oI],[oI,oI],0⟩
def So:bR:=⟨[oI,oI],[oI],0⟩
def Ku:bR:=⟨[.agg [.c i6,.c i6],.agg [.c i6,.c i6]],[.ptr 323 [i6,i6,i6,i6,.b,i6,i6,i6,.b,.b,i6,i6]],0⟩
def Sp:bR:=⟨[.ptr 323 [i6,i6,i6,i6,.b,i6,i6,i6,.b,.b,i6,i6]],[oI],0⟩
def Kv:bR:=⟨[.ptr 323 [i6,i6,i6,i6,.b,i6,i6,i6,.b,.b,i6,i6]],[oI],0⟩
def Kx:bR:=⟨[.ptr 323 [i6,i6,i6,i6,.b,i6,i6,i6,.b,.b,i6,i6]],[oI],0⟩
def Sq:bR:=⟨[oI,oI],[oB],0⟩
def Sr:bR:=⟨[.agg [.c i6,.c (.i .u64)],.agg [.c i6,.c (.i .u64)]],[.agg [.c i6,.c (.i .u64)],oB],0⟩
def Ss:bR:=⟨[.agg (rp 7 (.c i6)),.agg (rp 7 (.c i6)),.agg (rp 7 (.c i6))],[oI],0⟩
def Su:bR:=⟨[.agg [.c i6,.c (.i .u64)]],[oI],0⟩
def Sv:bR:=⟨[.agg [.c i6,.c (.i .u64)],.agg [.c i6,.c (.i .u64)]],[.agg [.c i6,.c (.i .u64)]],0⟩
def Sy:bR:=⟨[.agg (rp 7 (.c i6)),.agg (rp 7 (.c i6)),.agg (rp 7 (.c i6)),.agg [.c i6,.c i6,.c i6,.c i6]],[.one (.s 344 [i6,i6,i6])],0⟩
def SA:bR:=⟨[.agg (rp 7 (.c i6)),.agg (rp 7 (.c i6)),.agg (rp 7 (.c i6))],[.agg (rp 22 (.c i6))],0⟩
def SB:bR:=⟨[.agg (rp 22 (.c i6))],[.agg [.c i6,.c (.i .u64),.c i6,.c (.i .u64),.c i6,.c (.i .u64),.c i6,.c i6,.c (.i .u64),.c i6,.c (.i .u64),.c i6,.c (.i .u64),.c i6,.c i6,.c (.i .u64),.c i6,.c (.i .u64),.c i6,.c (.i .u64),.c i6,.c i6,.c (.i .u64),.c i6,.c (.i .u64),.c i6,.c (.i .u64),.c i6,.c i6,.c (.i .u64),.c i6,.c (.i .u64),.c i6,.c (.i .u64),.c i6]],0⟩
def SC:bR:=⟨[.agg [.c i6,.c (.i .u64),.c i6,.c (.i .u64),.c i6,.c (.i .u64),.c i6],oI,oI],[.agg [.c i6,.c (.i .u64)]],0⟩
def SD:bR:=⟨[.agg [.c i6,.c (.i .u64),.c i6,.c (.i .u64),.c i6,.c (.i .u64),.c i6],.agg [.c i6,.c (.i .u64)]],[oI],0⟩
def SE:bR:=⟨[.agg [.c .b,.c i6,.c i6,.c i6,.c i6,.c .b,.c i6,.c .b,.c .b,.c i6,.c i6,.c .b,.c .b,.c .b,.c .b]],[oB],0⟩
def SF:bR:=⟨[.agg (rp 8 (.c i6))],[oB],0⟩
def SG:bR:=⟨[.agg [.c i6,.c i6,.c i6,.c i6],oI],[.agg [.c i6,.c i6,.c i6,.c i6]],0⟩
def SH:bR:=⟨[.agg [.c i6,.c i6,.s 3 [i6],.s 3 [i6]],oI,oI],[.agg [.c i6,.c i6,.c i6,.c i6],oI,oB],0⟩
def SI:bR:=⟨[.agg [.c i6,.c i6,.c i6,.c i6],.agg [.c i6,.c i6,.c i6,.c i6],oI,oI],[.agg [.c i6,.c i6,.c i6,.c i6]],0⟩
def SJ:bR:=⟨[.agg [.c i6,.c (.i .u64)]],[.agg [.c i6,.c (.i .u64)]],0⟩
def SK:bR:=⟨[.one (.c (.i .u64)),.one (.c (.i .u64)),.one (.c (.i .u64))],[.one (.c (.i .u64)),.one (.c (.i .u64))],0⟩
def SL:bR:=⟨[.agg [.c i6,.c (.i .u64)],.agg [.c i6,.c (.i .u64)]],[.agg [.c i6,.c (.i .u64)],oB],0⟩
def Ka:bR:=⟨[.one (.c (.i .u64)),.one (.c (.i .u64)),.one (.c (.i .u64))],[.one (.c (.i .u64)),.one (.c (.i .u64))],0⟩
def SM:bR:=⟨(rp 6 (oI)),[oI,oI],0⟩
def SN:bR:=⟨[oI,oI,.ptr 2 [i6],.ptr 2 [i6]],[oI],0⟩
def SO:bR:=⟨[oI,oI,oI,oI],[oI],0⟩
def SP:bR:=⟨[oI],[oI],0⟩
def Ky:bR:=⟨[.ptr 323 [i6,i6,i6,i6,.b,i6,i6,i6,.b,.b,i6,i6],oI],[oI,oI],0⟩
def Kz:bR:=⟨[.ptr 323 [i6,i6,i6,i6,.b,i6,i6,i6,.b,.b,i6,i6],oI],[oI],0⟩
def SQ:bR:=⟨[.agg (rp 7 (.c i6)),.agg (rp 7 (.c i6)),.agg (rp 7 (.c i6))],[.one (.s 369 [i6,i6,i6,i6,i6])],0⟩
def SR:bR:=⟨[.agg [.c i6,.c i6,.c i6,.c i6,.c i6],oI,oI,oI],[oI,oI],0⟩
def SS:bR:=⟨[.agg (rp 22 (.c i6)),.agg [.c i6,.c i6,.c i6]],[.agg [.c i6,.c (.i .u64),.c i6,.c (.i .u64),.c i6,.c (.i .u64),.c i6]],0⟩
def SU:bR:=⟨[oI,oI,oI],[oB],0⟩
def SW:bR:=⟨[oI],[.agg [.c i6,.c i6,.c i6,.c i6]],0⟩
def SX:bR:=⟨[oI,.agg [.c i6,.c i6,.c i6,.c i6],.agg [.c i6,.c i6,.c i6,.c i6],oI],[oI],0⟩
def Kb:bR:=⟨[.one (.c (.i .u64)),.one (.c (.i .u64)),.one (.c (.i .u64))],[.one (.c (.i .u64)),.one (.c (.i .u64))],0⟩
def SY:bR:=⟨[.one (.c (.i .u64))],[oI],0⟩
def SZ:bR:=⟨[.ptr 323 [i6,i6,i6,i6,.b,i6,i6,i6,.b,.b,i6,i6],.agg [.c i6,.c i6]],[oI,oI,oB],0⟩
def S0:bR:=⟨[.agg (rp 7 (.c i6)),.agg (rp 7 (.c i6))],[.agg [.c i6,.c i6,.c i6,.c i6,.c i6]],0⟩
def S3:bR:=⟨[.agg [.c i6,.c i6,.c i6,.c i6,.c i6],oI,oI],[oI],0⟩
def S4:bR:=⟨[oI,oI],[oI],0⟩
def S5:bR:=⟨[.agg (rp 22 (.c i6)),oI,oI],[.agg [.c i6,.c i6,.c i6]],0⟩
def S6:bR:=⟨[.agg [.c i6,.c i6,.c i6],.agg [.c i6,.c i6,.c i6]],[.agg [.c i6,.c (.i .u64)]],0⟩
def Kt:bR:=⟨[.one (.c (.i .u64))],[oI],0⟩
def S7:bR:=⟨[.agg [.c i6,.c i6]],[oI,oI,oB],0⟩
def xM:bR:=⟨[.agg [.c i6,.c i6,.c i6,.c i6],.fn 106 [(2,.i64),(2,.i64),(2,.i64)]],[.one (.s 74 (rp 8 (i6)))],0⟩
def xN:bR:=⟨[.agg [.c i6,.c i6,.c i6,.c i6],.fn 150 [(2,.i64),(2,.i64)]],[.one (.s 74 (rp 8 (i6)))],0⟩
def tW:bR:=⟨[.agg (rp 7 (.c i6)),.agg (rp 7 (.c i6)),.fn 245 [(2,.i64),(2,.i64)]],[oI,.agg [.c i6,.c i6,.c i6,.c i6]],0⟩
def aU:List (FuncId×bR):=[(3,sg3),(4,sg4),(5,sg5),(6,sg6),(7,sg7),(8,sg8),(9,sg9),(10,aaV),(11,aaW),(12,aaX),(13,aaY),(14,aaZ),(15,aa0),(16,aa1),(17,aa2),(18,aa3),(19,aa4),(20,aa5),(21,aa6),(23,aa7),(24,aa8),(25,aa9),(26,aa'),(27,abb),(28,Vm),(29,Vn),(30,Vo),(34,abd),(37,abe),(40,abf),(41,abg),(42,abh),(43,abi),(44,abj),(46,abk),(47,abl),(55,abm),(56,abn),(57,abo),(59,abp),(64,abq),(65,VR),(66,abr),(67,Vg),(69,Vh),(71,Vi),(72,Vj),(73,Vk),(74,Vl),(80,abt),(84,abu),(86,abv),(87,Wp),(88,abw),(90,abx),(91,aby),(92,abz),(93,abA),(94,abB),(99,abC),(100,Q8),(101,Q9),(102,Q'),(103,Ra),(105,Rb),(106,Rc),(107,Rd),(108,J9),(109,Re),(110,Rf),(111,Rh),(112,Ri),(113,Rj),(114,Rk),(115,Rl),(117,Rm),(118,Rn),(119,Ro),(120,Rp),(121,Rq),(122,Rr),(123,Rt),(124,Ru),(132,Rv),(133,Rw),(134,Rx),(135,Ry),(136,Rz),(137,RA),(139,RB),(140,Kc),(141,RC),(143,RD),(144,RE),(145,RF),(146,Ke),(149,RG),(150,RH),(151,RI),(152,RJ),(153,RK),(154,RL),(155,RM),(156,RN),(157,RP),(158,RQ),(159,RR),(160,RS),(161,RT),(163,RU),(164,RV),(165,RW),(166,RX),(168,KA),(169,Bm),(170,RY),(171,RZ),(172,R3),(173,R4),(174,R5),(175,R6),(176,R7),(177,R8),(186,R9),(187,Sa),(188,Sc),(193,Sd),(195,Se),(196,Sf),(197,Sg),(198,Sh),(199,Si),(200,Sj),(201,Sl),(202,Sm),(203,Sn),(204,So),(207,Ku),(208,Sp),(210,Kv),(211,Kx),(213,Sq),(214,Sr),(215,Ss),(216,Su),(220,Sv),(221,Sy),(222,SA),(223,SB),(224,SC),(225,SD),(232,SE),(233,SF),(235,SG),(236,SH),(237,SI),(240,SJ),(241,SK),(242,SL),(243,Ka),(244,SM),(245,SN),(246,SO),(247,SP),(250,Ky),(251,Kz),(252,SQ),(253,SR),(254,SS),(262,SU),(264,SW),(265,SX),(266,Kb),(267,SY),(268,SZ),(269,S0),(270,S3),(271,S4),(272,S5),(273,S6),(283,Kt),(284,S7)]
def cB:kp:=⟨fun _=>none,false,[],[(30007,0,9),(46009,0,9),(93003,0,2),(94003,0,2),(91004,0,2),(144003,3,2),(262004,0,8),(74007,10,3),(74007,11,3)],[248,116,162,167,206,263,142,45,217,218,219,275,276,277,278,279,280,281,282,33,49,50,51,68,70,39,60,61,62,63,82,83,85,89,95,96,97,98,147,148,194,234,238,239],(some 58),(some 31),128,33,[(61003,([11],[])),(61005,([11],[])),(61007,([11],[])),(61013,([6],[])),(61015,([6,12],[4200])),(98003,([8],[])),(19001,([2],[])),(49006,([21],[])),(33014,([7],[])),(51008,([13],[]))],[],[(1,[0,255]),(2,[0,1])],none,(some 178),[123],none,[]⟩
def cw:List (FuncId×Nat):=[(104106,999999),(104150,999999),(205245,999999)]
def kH:List (Nat×nj):=[(9,⟨9,{cB with loops:=[(9004,⟨[],[],[],[],[]⟩)] },aU,sg9,cw⟩),
(56,⟨56,cB,aU,abn,cw⟩),
(37,⟨37,cB,aU,abe,cw⟩),
(23,⟨23,cB,aU,aa7,cw⟩),
(41,⟨41,cB,aU,abg,cw⟩),
(65,⟨65,{cB with loops:=[(65003,⟨[],[],[],[],[]⟩)] },aU,VR,cw⟩),
(42,⟨42,cB,aU,abh,cw⟩),
(28,⟨28,cB,aU,Vm,cw⟩),
(100,⟨100,cB,aU,Q8,cw⟩),
(66,⟨66,cB,aU,abr,cw⟩),
(43,⟨43,{cB with loops:=[(43005,⟨[],[(4,44,[i6,i6,i6,i6,i6])],[],[],[]⟩),(43010,⟨[],[(4,44,[i6,i6,i6,i6,i6])],[],[],[]⟩)] },aU,abi,cw⟩),
(29,⟨29,{cB with loops:=[(29003,⟨[],[(3,44,[i6,i6,i6,i6,i6])],[],[],[]⟩)] },aU,Vn,cw⟩),
(47,⟨47,{cB with loops:=[(47005,⟨[],[(7,4,[.b])],[],[],[]⟩)] },aU,abl,cw⟩),
(44,⟨44,{cB with loops:=[(44005,⟨[],[],[1],[],[]⟩)] },aU,abj,cw⟩),
(46,⟨46,cB,aU,abk,cw⟩),
(30,⟨30,{cB with loops:=[(30010,⟨[],[],[],[(9,104,[.s 3 i6,.s 4 (.b),.c i6])],[]⟩),(30017,⟨[],[],[19],[],[]⟩)] },aU,Vo,cw⟩),
(101,⟨101,cB,aU,Q9,cw⟩),
(67,⟨67,{cB with gB:=true},aU,Vg,cw⟩),
(174,⟨174,cB,aU,R5,cw⟩),
(195,⟨195,{cB with gB:=true},aU,Se,cw⟩),
(149,⟨149,cB,aU,RG,cw⟩),
(102,⟨102,cB,aU,Q',cw⟩),
(151,⟨151,{cB with loops:=[(151003,⟨[],[],[],[],[]⟩),(151008,⟨[],[],[],[],[]⟩)] },aU,RI,cw⟩),
(150,⟨150,cB,aU,RH,cw⟩),
(104150,⟨104,{cB with loops:=[(104003,⟨[],[(5,74,fo)],[],[],[]⟩),(104006,⟨[],[(5,74,fo)],[],[],[]⟩)] },aU,xN,cw⟩),
(103,⟨103,cB,[(104,xN)]++aU,Ra,[(104,104150)]++cw⟩),
(107,⟨107,cB,aU,Rd,cw⟩),
(106,⟨106,cB,aU,Rc,cw⟩),
(104106,⟨104,{cB with loops:=[(104003,⟨[],[(5,74,fo)],[],[],[]⟩),(104006,⟨[],[(5,74,fo)],[],[],[]⟩)] },aU,xM,cw⟩),
(105,⟨105,cB,aU,Rb,cw⟩),
(69,⟨69,cB,[(104,xM)]++aU,Vh,[(104,104106)]++cw⟩),
(109,⟨109,{cB with gB:=true},aU,Re,cw⟩),
(155,⟨155,cB,aU,RM,cw⟩),
(139,⟨139,{cB with gB:=true},aU,RB,cw⟩),
(196,⟨196,{cB with gB:=true},aU,Sf,cw⟩),
(240,⟨240,{cB with gB:=true},aU,SJ,cw⟩),
(197,⟨197,{cB with gB:=true},aU,Sg,cw⟩),
(156,⟨156,cB,aU,RN,cw⟩),
(110,⟨110,cB,aU,Rf,cw⟩),
(157,⟨157,cB,aU,RP,cw⟩),
(267,⟨267,cB,aU,SY,cw⟩),
(241,⟨241,{cB with gB:=true,loops:=[(241017,⟨[],[],[],[],[]⟩),(241024,⟨[],[],[],[],[]⟩)] },aU,SK,cw⟩),
(242,⟨242,{cB with gB:=true},aU,SL,cw⟩),
(198,⟨198,{cB with gB:=true},aU,Sh,cw⟩),
(199,⟨199,{cB with gB:=true},aU,Si,cw⟩),
(158,⟨158,{cB with gB:=true},aU,RQ,cw⟩),
(111,⟨111,cB,aU,Rh,cw⟩),
(71,⟨71,{cB with loops:=[(71003,⟨[(21,0),(21,1),(22,0),(22,1)],[],[],[],[]⟩)] },aU,Vi,cw⟩),
(159,⟨159,cB,aU,RR,cw⟩),
(200,⟨200,{cB with gB:=true},aU,Sj,cw⟩),
(201,⟨201,{cB with gB:=true},aU,Sl,cw⟩),
(202,⟨202,{cB with loops:=[(202004,⟨[],[],[],[],[]⟩)] },aU,Sm,cw⟩),
(160,⟨160,cB,aU,RS,cw⟩),
(161,⟨161,cB,aU,RT,cw⟩),
(246,⟨246,{cB with gB:=true},aU,SO,cw⟩),
(245,⟨245,cB,aU,SN,cw⟩),
(205245,⟨205,cB,aU,tW,cw⟩),
(163,⟨163,cB,[(205,tW)]++aU,RU,[(205,205245)]++cw⟩),
(204,⟨204,{cB with gB:=true},aU,So,cw⟩),
(244,⟨244,{cB with gB:=true},aU,SM,cw⟩),
(203,⟨203,{cB with gB:=true},aU,Sn,cw⟩),
(112,⟨112,{cB with gB:=true,loops:=[(112012,⟨[],[(12,74,fo)],[32],[],[]⟩),(112017,⟨[],[(12,74,fo)],[],[],[]⟩),(162003,⟨[],[],[32],[],[]⟩),(162008,⟨[],[],[32],[],[]⟩)] },aU,Ri,cw⟩),
(164,⟨164,cB,aU,RV,cw⟩),
(165,⟨165,cB,aU,RW,cw⟩),
(210,⟨210,cB,aU,Kv,cw⟩),
(211,⟨211,cB,aU,Kx,cw⟩),
(247,⟨247,cB,aU,SP,cw⟩),
(250,⟨250,cB,aU,Ky,cw⟩),
(251,⟨251,cB,aU,Kz,cw⟩),
(284,⟨284,cB,aU,S7,cw⟩),
(268,⟨268,cB,aU,SZ,cw⟩),
(207,⟨207,cB,aU,Ku,cw⟩),
(208,⟨208,cB,aU,Sp,cw⟩),
(166,⟨166,cB,aU,RX,cw⟩),
(168,⟨168,cB,aU,KA,cw⟩),
(170,⟨170,cB,aU,RY,cw⟩),
(213,⟨213,cB,aU,Sq,cw⟩),
(171,⟨171,cB,aU,RZ,cw⟩),
(172,⟨172,cB,[(205,tW)]++aU,R3,[(205,205245)]++cw⟩),
(113,⟨113,{cB with loops:=[(113012,⟨[],[(105,74,fo)],[],[],[]⟩),(113018,⟨[(7214,0),(7214,1),(4139,0),(4139,1)],[(116,74,fo)],[],[],[]⟩)] },aU,Rj,cw⟩),
(72,⟨72,cB,aU,Vj,cw⟩),
(114,⟨114,{cB with loops:=[(114004,⟨[],[],[],[],[]⟩),(114010,⟨[],[],[],[],[]⟩)] },aU,Rk,cw⟩),
(115,⟨115,{cB with loops:=[(115003,⟨[],[(5,279,[i6,i6,i6,i6,i6,i6,i6,i6,i6,.b])],[],[],[]⟩)] },aU,Rl,cw⟩),
(117,⟨117,{cB with loops:=[(117005,⟨[],[(4,76,fo),(5,4,[.b])],[],[],[]⟩)] },aU,Rm,cw⟩),
(173,⟨173,{cB with gB:=true},aU,R4,cw⟩),
(73,⟨73,{cB with gB:=true,loops:=[(73005,⟨[],[(9,279,[i6,i6,i6,i6,i6,i6,i6,i6,i6,.b])],[],[],[]⟩),(116002,⟨[],[(0,279,[i6,i6,i6,i6,i6,i6,i6,i6,i6,.b])],[],[],[]⟩),(116008,⟨[],[(6,279,[i6,i6,i6,i6,i6,i6,i6,i6,i6,.b])],[],[],[]⟩)] },aU,Vk,cw⟩),
(118,⟨118,{cB with loops:=[(118004,⟨[],[],[],[],[]⟩)] },aU,Rn,cw⟩),
(119,⟨119,cB,aU,Ro,cw⟩),
(214,⟨214,{cB with gB:=true},aU,Sr,cw⟩),
(215,⟨215,cB,aU,Ss,cw⟩),
(216,⟨216,cB,aU,Su,cw⟩),
(175,⟨175,{cB with loops:=[(175003,⟨[(1,0),(1,1)],[],[],[],[]⟩)] },aU,R6,cw⟩),
(121,⟨121,cB,aU,Rq,cw⟩),
(120,⟨120,cB,aU,Rp,cw⟩),
(220,⟨220,cB,aU,Sv,cw⟩),
(176,⟨176,cB,aU,R7,cw⟩),
(269,⟨269,cB,aU,S0,cw⟩),
(252,⟨252,cB,aU,SQ,cw⟩),
(270,⟨270,cB,aU,S3,cw⟩),
(271,⟨271,cB,aU,S4,cw⟩),
(253,⟨253,cB,aU,SR,cw⟩),
(221,⟨221,{cB with loops:=[(221008,⟨[],[(12,344,[i6,i6,i6])],[],[],[]⟩),(221012,⟨[],[],[],[],[]⟩)] },aU,Sy,cw⟩),
(222,⟨222,cB,aU,SA,cw⟩),
(272,⟨272,cB,aU,S5,cw⟩),
(273,⟨273,cB,aU,S6,cw⟩),
(254,⟨254,cB,aU,SS,cw⟩),
(223,⟨223,cB,aU,SB,cw⟩),
(224,⟨224,cB,aU,SC,cw⟩),
(225,⟨225,cB,aU,SD,cw⟩),
(177,⟨177,{cB with gB:=true,loops:=[(177007,⟨[],[(13,74,fo)],[],[],[]⟩),(177011,⟨[(92,0),(92,1),(92,2),(92,3),(92,4),(92,5),(92,6),(92,7),(92,8),(92,9)],[],[],[],[]⟩),(177016,⟨[(92,0),(92,1),(92,2),(92,3),(92,4),(92,5),(92,6),(92,7),(92,8),(92,9)],[(13,74,fo)],[],[],[]⟩),(177021,⟨[(96,3),(96,4),(96,5),(96,6),(106,3),(106,4),(106,5),(106,6),(116,3),(116,4),(116,5),(116,6)],[],[],[],[]⟩),(177027,⟨[(92,0),(92,1),(92,2),(92,3),(92,4),(92,5),(92,6),(92,7),(92,8),(92,9)],[],[],[],[]⟩)] },aU,R8,cw⟩),
(122,⟨122,{cB with loops:=[(122003,⟨[],[(3,74,fo)],[],[],[]⟩)] },aU,Rr,cw⟩),
(123,⟨123,{cB with loops:=[(123004,⟨[(22,0),(22,1),(22,2)],[(3,74,fo)],[],[],[]⟩)] },aU,Rt,cw⟩),
(124,⟨124,{cB with loops:=[(124003,⟨[],[(3,74,fo)],[],[],[]⟩)] },aU,Ru,cw⟩),
(74,⟨74,cB,aU,Vl,cw⟩),
(152,⟨152,cB,aU,RJ,cw⟩),
(153,⟨153,cB,aU,RK,cw⟩),
(154,⟨154,cB,aU,RL,cw⟩),
(108,⟨108,cB,aU,J9,cw⟩),
(18,⟨18,{cB with loops:=[(18004,⟨[(4703,99),(4703,100),(4703,101),(4703,102),(4703,103)],[],[],[],[(4703,102,74,fo)]⟩),(33003,⟨[],[],[5736,5741],[],[]⟩),(49002,⟨[],[],[],[],[]⟩),(51004,⟨[],[],[5741,5746,5747],[],[]⟩)] },aU,aa3,cw⟩),
(186,⟨186,{cB with loops:=[(186003,⟨[],[(5,146,[i6,i6])],[],[],[]⟩)] },aU,R9,cw⟩),
(132,⟨132,cB,aU,Rv,cw⟩),
(133,⟨133,cB,aU,Rw,cw⟩),
(80,⟨80,cB,aU,abt,cw⟩),
(57,⟨57,{cB with loops:=[(57007,⟨[],[],[],[],[]⟩)] },aU,abo,cw⟩),
(59,⟨59,cB,aU,abp,cw⟩),
(135,⟨135,cB,aU,Ry,cw⟩),
(136,⟨136,cB,aU,Rz,cw⟩),
(137,⟨137,{cB with gB:=true},aU,RA,cw⟩),
(84,⟨84,{cB with loops:=[(84006,⟨[],[],[26,25],[],[]⟩),(84010,⟨[],[],[26,25],[],[]⟩)] },aU,abu,cw⟩),
(86,⟨86,{cB with gB:=true,loops:=[(86003,⟨[],[],[],[],[]⟩)] },aU,abv,cw⟩),
(88,⟨88,cB,aU,abw,cw⟩),
(187,⟨187,cB,aU,Sa,cw⟩),
(143,⟨143,cB,aU,RD,cw⟩),
(141,⟨141,{cB with loops:=[(141009,⟨[],[],[],[],[]⟩)] },aU,RC,cw⟩),
(90,⟨90,cB,aU,abx,cw⟩),
(91,⟨91,cB,aU,aby,cw⟩),
(144,⟨144,cB,aU,RE,cw⟩),
(188,⟨188,cB,aU,Sc,cw⟩),
(145,⟨145,cB,aU,RF,cw⟩),
(92,⟨92,cB,aU,abz,cw⟩),
(93,⟨93,cB,aU,abA,cw⟩),
(94,⟨94,cB,aU,abB,cw⟩),
(134,⟨134,{cB with loops:=[(134005,⟨[],[(49,3,[i6])],[],[],[]⟩)] },aU,Rx,cw⟩),
(193,⟨193,cB,aU,Sd,cw⟩),
(232,⟨232,cB,aU,SE,cw⟩),
(233,⟨233,cB,aU,SF,cw⟩),
(235,⟨235,cB,aU,SG,cw⟩),
(264,⟨264,cB,aU,SW,cw⟩),
(236,⟨236,cB,aU,SH,cw⟩),
(265,⟨265,cB,aU,SX,cw⟩),
(237,⟨237,cB,aU,SI,cw⟩),
(262,⟨262,cB,aU,SU,cw⟩),
(24,⟨24,{cB with loops:=[(95003,⟨[],[],[4200,4201,3],[],[]⟩),(148003,⟨[],[],[4718,4717,4205,4204],[],[]⟩)],FH:=[99],zW:=(some (94,33)) },aU,aa8,cw⟩),
(12,⟨12,{cB with loops:=[(12003,⟨[(96,0),(96,1),(96,2),(96,3),(96,4),(96,5),(96,6),(96,7),(96,8),(96,9),(96,10),(96,11),(96,12),(96,13),(96,14),(96,15),(96,16),(96,17),(96,18),(96,19),(96,20),(96,21),(96,22),(96,23),(96,24),(96,25),(96,26),(96,27),(96,28),(96,29),(96,30),(96,31),(96,32),(96,33),(96,34),(96,35),(96,36),(96,37),(96,38),(96,39),(96,40),(96,41),(96,42),(96,43),(96,44),(96,45),(96,46),(96,47),(96,48),(96,49),(96,50),(96,51),(96,52),(96,53),(96,54),(96,55),(96,56),(96,57),(96,58),(96,59),(96,60),(96,61),(96,62),(96,63),(96,64),(96,65),(96,66),(96,67),(96,68),(96,69),(96,70),(96,71),(96,72),(96,73),(96,74),(96,75),(96,76),(96,77),(96,78),(96,79),(96,80),(96,81),(96,82),(96,83),(96,84),(96,85),(96,86),(96,87),(96,88),(96,89),(96,90),(96,91),(96,92),(96,93)],[],[63,62,18,17,6,5],[],[]⟩)] },aU,aaX,cw⟩),
(55,⟨55,cB,aU,abm,cw⟩),
(10,⟨10,{cB with inl:=[248,116,162,167,206,263,142,45,217,218,219,275,276,277,278,279,280,281,282,33,49,50,51,68,70,39,60,61,62,63,82,83,85,89,95,96,97,98,147,148,194,234,238,239,22,36,35,52,75,125,53,76,54,77,129,180,78,79,130] },aU,aaV,cw⟩),
(11,⟨11,cB,aU,aaW,cw⟩),
(21,⟨21,cB,aU,aa6,cw⟩),
(13,⟨13,cB,aU,aaY,cw⟩),
(14,⟨14,{cB with loops:=[(14003,⟨[],[],[],[(5,85,[.c i6,.s 3 i6])],[]⟩)] },aU,aaZ,cw⟩),
(25,⟨25,cB,aU,aa9,cw⟩),
(15,⟨15,{cB with loops:=[(15003,⟨[],[(3,3,[i6])],[],[],[]⟩)] },aU,aa0,cw⟩),
(26,⟨26,{cB with loops:=[(26004,⟨[],[],[],[],[]⟩),(26009,⟨[],[],[],[],[]⟩)] },aU,aa',cw⟩),
(16,⟨16,cB,aU,aa1,cw⟩),
(3,⟨3,{cB with loops:=[(3012,⟨[],[],[],[],[]⟩)] },aU,sg3,cw⟩),
(99,⟨99,cB,aU,abC,cw⟩),
(64,⟨64,{cB with loops:=[(64004,⟨[],[(4,146,[i6,i6])],[],[],[]⟩),(64008,⟨[],[(4,146,[i6,i6])],[],[],[]⟩),(64011,⟨[],[(4,146,[i6,i6])],[],[],[]⟩)] },aU,abq,cw⟩),
(40,⟨40,{cB with loops:=[(40007,⟨[],[],[],[],[]⟩)] },aU,abf,cw⟩),
(27,⟨27,{cB with loops:=[(27004,⟨[],[],[],[],[]⟩)] },aU,abb,cw⟩),
(17,⟨17,cB,aU,aa2,cw⟩),
(4,⟨4,{cB with loops:=[(4006,⟨[(97,0),(97,1),(97,2),(97,3)],[],[],[],[]⟩)] },aU,sg4,cw⟩),
(5,⟨5,{cB with loops:=[(5008,⟨[],[],[],[],[]⟩),(5012,⟨[],[],[],[],[]⟩)] },aU,sg5,cw⟩),
(19,⟨19,{cB with loops:=[(148003,⟨[],[],[4718,4717,4205,4204],[],[]⟩)],inl:=[248,116,162,167,206,263,142,45,217,218,219,275,276,277,278,279,280,281,282,33,49,50,51,68,70,39,60,61,62,63,82,83,85,89,95,96,97,98,147,148,194,234,238,239,24,21] },aU,aa4,cw⟩),
(6,⟨6,cB,aU,sg6,cw⟩),
(34,⟨34,{cB with loops:=[(34004,⟨[],[],[],[],[]⟩)] },aU,abd,cw⟩),
(20,⟨20,cB,aU,aa5,cw⟩),
(7,⟨7,cB,aU,sg7,cw⟩),
(8,⟨8,cB,aU,sg8,cw⟩)]
def sgt:List (Nat×bR):=[(9,sg9),(56,abn),(37,abe),(23,aa7),(41,abg),(65,VR),(42,abh),(28,Vm),(100,Q8),(66,abr),(43,abi),(29,Vn),(47,abl),(44,abj),(46,abk),(30,Vo),(101,Q9),(67,Vg),(174,R5),(195,Se),(149,RG),(102,Q'),(151,RI),(150,RH),(104150,xN),(103,Ra),(107,Rd),(106,Rc),(104106,xM),(105,Rb),(69,Vh),(109,Re),(155,RM),(139,RB),(196,Sf),(266,Kb),(240,SJ),(197,Sg),(156,RN),(110,Rf),(157,RP),(283,Kt),(267,SY),(241,SK),(242,SL),(198,Sh),(199,Si),(158,RQ),(111,Rh),(71,Vi),(159,RR),(243,Ka),(200,Sj),(201,Sl),(202,Sm),(160,RS),(161,RT),(246,SO),(245,SN),(205245,tW),(163,RU),(204,So),(244,SM),(203,Sn),(112,Ri),(164,RV),(165,RW),(210,Kv),(211,Kx),(247,SP),(250,Ky),(251,Kz),(284,S7),(268,SZ),(207,Ku),(208,Sp),(166,RX),(168,KA),(169,Bm),(170,RY),(213,Sq),(171,RZ),(172,R3),(113,Rj),(72,Vj),(114,Rk),(115,Rl),(117,Rm),(173,R4),(73,Vk),(118,Rn),(119,Ro),(214,Sr),(215,Ss),(216,Su),(175,R6),(121,Rq),(120,Rp),(220,Sv),(176,R7),(269,S0),(252,SQ),(270,S3),(271,S4),(253,SR),(221,Sy),(222,SA),(272,S5),(273,S6),(254,SS),(223,SB),(224,SC),(225,SD),(177,R8),(122,Rr),(123,Rt),(124,Ru),(74,Vl),(152,RJ),(153,RK),(154,RL),(108,J9),(18,aa3),(186,R9),(132,Rv),(133,Rw),(80,abt),(57,abo),(59,abp),(135,Ry),(136,Rz),(137,RA),(84,abu),(86,abv),(87,Wp),(140,Kc),(88,abw),(187,Sa),(143,RD),(141,RC),(90,abx),(91,aby),(144,RE),(188,Sc),(145,RF),(92,abz),(93,abA),(94,abB),(134,Rx),(146,Ke),(193,Sd),(232,SE),(233,SF),(235,SG),(264,SW),(236,SH),(265,SX),(237,SI),(262,SU),(24,aa8),(12,aaX),(55,abm),(10,aaV),(11,aaW),(21,aa6),(13,aaY),(14,aaZ),(25,aa9),(15,aa0),(26,aa'),(16,aa1),(3,sg3),(99,abC),(64,abq),(40,abf),(27,abb),(17,aa2),(4,sg4),(5,sg5),(19,aa4),(6,sg6),(34,abd),(20,aa5),(7,sg7),(8,sg8)]
def kI(k:Nat):Option bR:=kW k sgt
end Go.Proofs.YtohebioanhliiaaGreatDoor.aF
namespace Go.Sx
def Cn.a(c:Cn)(ks:List Nat)(x:A):Cn:={c with args:=ks.foldl (fun l k=>l.set k x) c.args}
def Cn.r(c:Cn)(ks:List Nat)(x:A):Cn:={c with res:=ks.foldl (fun l k=>l.set k x) c.res}
def Cn.p(c:Cn)(ps:List BE):Cn:={c with pre:=c.pre++ps}
def Cn.q(c:Cn)(ps:List BE):Cn:={c with post:=c.post++ps}
def J4:A:=.i (-268435456) 268435456
def P36:A:=.i (-68719476736) 68719476736
def B8:A:=.i 0 255
def B1:A:=.i 0 100
def Cn.win(c:Cn)(k:Nat):Cn:=((c.a [k,k+1] J4).a [k+2] (.i 0 16777215)).a [k+3,k+4,k+5,k+6] B8
def Cn.U9(c:Cn)(k:Nat):Cn:=((c.r [k,k+1] J4).r [k+2] (.i 0 16777215)).r [k+3,k+4,k+5,k+6] B8
def Cn.wz(c:Cn)(k:Nat):Cn:=c.a [k,k+1,k+2,k+3] B1
def rr(j:Nat):IE:=.v (R0+j)
def rb(j:Nat):BE:=.v (R0+j)
def imp(a b:BE):BE:=.or (.not a) b
def lG(lo:Int)(x:IE)(hi:Int):List BE:=[.le (.c lo) x,.le x (.c hi)]
def N0:Int:=1099511627776
def A.cap:A->A
 |.l a none cs=>.l a (some N0) cs
 |x=>x
def Gt:Int×Int:=(-268435456,268435456)
def Pc:A:=.i (-268500000) 268500000
def eG:List BE->BE
 | []=>.c true
 | [p]=>p
 |p::ps=>.and p (eG ps)
def C8(k:Nat):BE:=eG (lG (-268435456) (.v k) 268435456++lG (-268435456) (.v (k+1)) 268435456++lG 0 (.v (k+2)) 16777215++[3,4,5,6].flatMap fun j=>lG 0 (.v (k+j)) 255)
def Iw(k:Nat):BE:=eG (lG 0 (.v k) 65535++lG 1 (.v (k+1)) 256++lG 0 (.v (k+2)) 1099511627776)
def cI:Int×Int:=(mn,mx)
def mG:List (Int×Int):=[cI,cI,cI,cI,cI,cI,cI,cI]
def Gu:List (Int×Int):=[cI,cI,cI,cI,cI,cI,cI,cI,cI,(0,1)]
def Gw:List (Int×Int):=[Gt,Gt,(0,16777215),(0,255),(0,255),(0,255),(0,255)]
def adh:List (Int×Int):=[Gt,Gt,(-536870912,536870912),(-536870912,536870912),(0,1)]
def vo:A:=.l 1 (some 1) [(-268500000,268500000),(-268500000,268500000),(-268500000,268500000),(-268500000,268500000),(0,1),(0,1),(-1200000,1200000),(-1200000,1200000),(0,1),(0,1),(-1200000,1200000),(-1200000,1200000)]
def Xk(k:Nat):List BE:=[.le (.min (.v k) (.c 0)) (rr 0),.le (rr 0) (.max (.v (k+2)) (.c 0)),.le (.min (.v (k+1)) (.c 0)) (rr 1),.le (rr 1) (.max (.v (k+3)) (.c 0)),.le (.min (.v k) (.c 0)) (rr 2),.le (rr 2) (.max (.v (k+2)) (.c 0)),.le (.min (.v (k+1)) (.c 0)) (rr 3),.le (rr 3) (.max (.v (k+3)) (.c 0))]
def M28:A:=.i (-268435456) 268435456
def stN(n:Int):A:=.l n (some 8) (List.replicate 16 (-268435456,268435456))
def Xl:A:=stN 1
def stQ:BE:=eG (lG 0 (rr 0) 1++lG 1 (.len (R0+1)) 8++lG 1 (.len (R0+2)) 8)
def Xm:List (Int×Int):=[(-68719476736,68719476736),(-68719476736,68719476736),(-68719476736,68719476736),(-68719476736,68719476736),(0,255),(0,255),(0,255),(0,255)]
abbrev aI:A:=.i mn mx
def PK:List A:=[aI,B1,B1,.l 0 (some 10000) [cI],.l 0 (some 10000) [cI],aI,aI,aI,aI,aI,aI,aI,aI,aI,aI,Xl,Xl]++(List.replicate 6 [.i 3 3,aI,aI,aI,aI]).flatten++[.b,.b,.b,.b,.b,.b,B8,B8,B8,B8,.b,.b,aI,.l 0 (some 256) Xm,.l 0 (some 256) [(0,1)],
 aI,.b,.b,aI,aI,aI,aI,aI,aI,aI,.b,aI,.b,aI,aI,.b,.b,.b,aI,aI,aI,aI,.b,aI,.b,.b,aI,aI,.b,.b,.b,.b]
def tf(o:Nat):List BE:=[.eq (.len (o+3)) (.mul (.v (o+1)) (.v (o+2))),.eq (.len (o+4)) (.mul (.v (o+1)) (.v (o+2))),.eq (.len (o+60)) (.len (o+61))]
def Cn.pipe(c:Cn):Cn:={c with args:=PK++c.args.drop 94,pre:=c.pre++tf 0}
def Cn.PL(c:Cn):Cn:={c with res:=PK++c.res.drop 94,post:=c.post++tf R0}
def adi:List (Nat×Nat):=[(1,2),(2,4),(3,1),(4,1),(5,4),(6,5),(7,1),(8,16),(9,16),(10,0),(11,0),(12,0),(13,6),(14,4),(15,1),(16,1),(17,4),(18,0),(19,1),(20,3),(21,2),(22,1),(23,2),(24,2),(25,3),(26,3),(27,3),(28,4),(29,2),(30,4),(31,16),(32,1)]
def ZG:List BE:=imp (rb 1) (eG (lG 1 (.v 0) 32))::imp (.eq (.v 0) (.c 13)) (eG [.eq (.get R0 (.c 0) 0) (.c 0),.eq (.get R0 (.c 0) 1) (.c 5)])::adi.map fun x=>imp (.and (.eq (.v 0) (.c x.1)) (rb 1)) (.eq (.len R0) (.c x.2))
def rf(l:Nat):List BE:=.eq (.len l) (.c 2)::(lG 1 (.get l (.c 0) 0) 1024++lG 1 (.get l (.c 1) 0) 1024)
def ajg(l:Nat):List BE:=(List.range 4).flatMap fun(j:Nat)=>lG 0 (.get l (.c j) 0) 255
def ajh(k:Nat)(c:Cn):Cn:=match k with
 |100=>c.a [1] (.i 0 4611686018427387904)
 |42=>c.q (Xk 0++Xk 4++[.le (rr 0) (rr 2),.le (rr 1) (rr 3)])
 |65=>c.q [imp (rb 0) (.and (.lt (.v 0) (.v 2)) (.lt (.v 1) (.v 3)))]
 |151=>((c.a [0,1] J4).a [7,8] B1).a [9] (.i 0 67108864)
 |150=>(((c.a [0,1] B1).a [2] (.l 7 (some 7) [Gt])).a [3] (.l 1 (some 1) [(0,8192)])).r [0,1] B1
 |106=>(((c.a [0,1] B1).a [2] (.l 7 (some 7) [Gt])).a [3] (.l 1 (some 1) [(mn,mx)])).a [4] (.l 1 (some 1) [(1,64)])
 |104150=>(((c.wz 0).r [0] (.l 0 (some 10000) mG)).a [4] (.l 7 (some 7) [Gt])).a [5] (.l 1 (some 1) [(0,8192)])
 |104106=>((((c.wz 0).r [0] (.l 0 (some 10000) mG)).a [4] (.l 7 (some 7) [Gt])).a [5] (.l 1 (some 1) [(mn,mx)])).a [6] (.l 1 (some 1) [(1,64)])
 |103=>((c.win 0).a [7] (.i 1 64)).wz 8 |>.r [0] (.l 0 (some 10000) mG)
 |107=>(c.a [1] (.i 1 2147483648)).a [0] (.i (-4611686018427387904) 4611686018427387904)
 |105=>(c.win 0).a [7] (.i 1 64)
 |69=>(c.wz 9).r [0] (.l 0 (some 10000) mG)
 |166=>c.a [0,1,2,3] Pc |>.r [0] (.i (-1) 4000000)
 |160=>(((c.win 0).win 7).a [14] (.i 1 64)).r [0,1] J4 |>.r [2,3] (.i (-536870912) 536870912) |>.r [4] (.i 0 576460752303423488) |>.r [5,6] (.i (-1) mx)
 |202=>c.r [0] (.i 0 mx)
 |161=>(((c.win 0).win 7).a [14] (.i 1 64)).wz 15 |>.r [0,1] (.i (-1048707) 1048707) |>.q [.le (.v 16) (rr 0),.le (rr 1) (.v 18)]
 |245=>c.a [2,3] (.l 1 (some 1) [(mn,mx)])
 |205245=>((c.win 0).win 7).a [14,15] (.l 1 (some 1) [(mn,mx)])
 |163=>(((c.win 0).win 7).a [14,15] (.i (-1000) 1000))
 |172=>(((c.win 0).win 7).a [14,15] (.i (-16777216) 16777216))
 |204=>c.a [1] (.i 1 2147483648) |>.q [imp (eG (lG (-1073741824) (.v 0) 1073741824)) (eG ([.le (.mul (.v 1) (rr 0)) (.v 0),.lt (.v 0) (.add (.mul (.v 1) (rr 0)) (.v 1))]++lG (-1073741825) (rr 0) 1073741824))]
 |244=>(c.a [0] (.i (-536870912) 536870912)) |>.q [imp (.le (rr 0) (rr 1)) (.and (.le (.v 4) (rr 0)) (.le (rr 1) (.v 5)))]
 |203=>(c.a [0,1] J4).a [2,3] (.i (-536870912) 536870912) |>.q [imp (.le (rr 0) (rr 1)) (.and (.le (.v 8) (rr 0)) (.le (rr 1) (.v 9)))]
 |164=>(((c.win 0).win 7).a [14] (.i 1 64)).r [0,1,2,3] Pc
 |165=>((c.a [1] (.i 1 256)).a [2] (.i 0 1099511627776)).a [3] (.i (-1) 2147483648) |>.r [2] (.i (-1) 4096) |>.q [.eq (rr 0) (.v 0),.eq (rr 1) (.v 1)]
 |207=>c.a [0,1,2,3] Pc |>.p [.not (.and (.eq (.v 0) (.v 2)) (.eq (.v 1) (.v 3)))] |>.r [0] vo |>.q [.not (.eq (.get R0 (.c 0) 2) (.get R0 (.c 0) 0))]
 |208=>(c.a [0] vo).r [0] (.i (-1) 4000000)
 |209=>(c.a [0] vo).a [1,2] (.i (-16777216) 16777216)
 |210=>(c.a [0] vo).r [0] (.i 0 2500000)
 |211=>(c.a [0] vo).r [0] (.i (-1) 1)
 |247=>(c.a [0] Pc).r [0] (.i (-1100000) 1100000)
 |284=>c.a [0,1] Pc |>.r [0,1] (.i (-1200000) 1200000)
 |268=>(c.a [0] vo).a [1,2] Pc |>.r [0,1] (.i (-1200000) 1200000)
 |250=>((c.a [0] vo).a [1] (.i (-8388608) 8388608)).p [.not (.eq (.get 0 (.c 0) 2) (.get 0 (.c 0) 0))] |>.r [1] (.i 1 549755813888) |>.r [0] (.i (-4611686018427387904) 4611686018427387904)
 |251=>((c.a [0] vo).a [1] (.i (-8388608) 8388608)).p [.not (.eq (.get 0 (.c 0) 2) (.get 0 (.c 0) 0))] |>.r [0] (.i (-4611686018427387905) 4611686018427387904)
 |170=>(c.a [5,6,7,8] B1).a [9] (.i 1 64) |>.r [0,1,2,3] (.i (-64) 100)
 |169=>(c.a [0,1,2,3] Pc).a [4,5,6,7] (.i (-64) 100) |>.r [0] (.l 0 (some 200) [(0,4000000),(-64,100),(-64,100)])
 |174=>c.q [imp (rb 0) (Iw 0)]
 |171=>c.a [1] (.i 1 256) |>.a [2] (.i 0 1099511627776) |>.a [3] (.i 0 4000000)
 |195=>c.q [imp (rb 0) (C8 0)]
 |149=>c.q [imp (rb 0) (eG [C8 0,C8 7,.le (.c 1) (.v 14),.le (.v 14) (.c 64),Iw 15])]
 |159=>c.q [imp (rb 0) (eG [C8 0,C8 7,.le (.c 1) (.v 14),.le (.v 14) (.c 64)])]
 |102=>c.q [imp (rb 0) (eG [C8 0,.le (.c 1) (.v 7),.le (.v 7) (.c 64),.le (.c 0) (.v 8),.le (.v 8) (.c 2)])]
 |112=>(c.wz 15).r [0] (.l 0 (some 10000) mG)
 |113=>(c.wz 19).r [0] (.l 0 (some 12800) mG)
 |72=>(c.wz 32).r [0] (.l 0 (some 12800) mG)
 |115=>c.p [.eq (.len 0) (.len 1)] |>.a [0] (.l 0 (some 256) (Gu.take 8)) |>.a [1] (.l 0 (some 256) [(0,1)]) |>.r [0] (.l 0 (some 256) Gu) |>.q [.eq (.len R0) (.len 0)]
 |117=>(c.a [0] (.l 0 (some 131072) Gu)).q [.eq (.len R0) (.len 0),.eq (.len (R0+1)) (.len 0)] |>.r [0] (.l 0 (some 131072) (Gu.take 8)) |>.r [1] (.l 0 (some 131072) [(0,1)])
 |114=>c.q [imp (rb 0) (eG [.le (.c 3) (.len 0),.le (.len 0) (.c 256),.eq (.len 1) (.len 0),.le (.len 2) (.c 9)])]
 |73=>c.r [0] (.l 0 (some 131072) (Gu.take 8)) |>.r [1] (.l 0 (some 131072) [(0,1)]) |>.q [.eq (.len (R0+1)) (.len R0)]
 |118=>c.a [0] (.l 0 (some 131072) Gw) |>.a [1] (.l 0 (some 131072) [(0,1)]) |>.q [imp (rb 0) (eG [.le (.c 3) (.len 0),.eq (.len 1) (.len 0)])]
 |215=>(((c.a [0,1,7,8,14,15] J4))).r [0] (.i (-1152921504606846976) 1152921504606846976)
 |175=>c.a [0] (.l 0 (some 131072) Gw)
 |121=>c.a [0] (.l 0 (some 131072) Gw)
 |120=>c.a [0] (.l 0 (some 131072) Gw)
 |176=>((c.win 0).win 7).win 14 |>.a [21] (.i (-65536) 65536) |>.a [22] (.i (-16777216) 16777216)
 |269=>c.a [0,1,7,8] J4 |>.r [0,1] J4 |>.r [2,3] (.i (-536870912) 536870912) |>.r [4] (.i 0 1)
 |252=>c.a [0,1,7,8,14,15] J4 |>.r [0] (.l 0 (some 3) adh)
 |270=>c.a [0,1] J4 |>.a [2,3] (.i (-536870912) 536870912) |>.a [5,6] (.i 0 100) |>.r [0] (.i (-576460752303423488) 576460752303423488)
 |271=>(c.a [1] (.i 1 1152921504606846976)).a [0] (.i (-4611686018427387904) 4611686018427387904) |>.r [0] (.i (-4611686018427387905) 4611686018427387904)
 |253=>c.a [0,1] J4 |>.a [2,3] (.i (-536870912) 536870912) |>.a [4] (.i 0 1) |>.a [5] (.i 0 100) |>.q [imp (.lt (rr 0) (rr 1)) (.and (.le (.v 6) (rr 0)) (.le (rr 1) (.v 7)))] |>.a [6,7] (.i (-4611686018427387905) 4611686018427387905) |>.r [0,1] (.i (-4611686018427387905) 4611686018427387905)
 |221=>c.a [0,1,7,8,14,15] J4 |>.wz 21 |>.r [0] (.l 0 (some 100) [(0,100),(0,100),(0,100)])
 |222=>(((c.win 0).win 7).win 14).U9 0 |>.U9 7 |>.U9 14
 |254=>((c.win 0).win 7).win 14
 |223=>((c.win 0).win 7).win 14
 |177=>(((c.win 0).win 7).win 14).wz 22 |>.r [0] (.l 0 (some 10000) mG)
 |122=>(((c.a [15] (.i (-65536) 65536)).a [16] (.i (-16777216) 16777216)).a [0] (.l 0 (some 131072) Gw)).wz 17 |>.r [0] (.l 0 (some 2000000000) mG)
 |123=>(c.a [0] (.l 0 (some 131072) Gw)).wz 17 |>.p [.eq (.len 1) (.len 0)] |>.r [0] (.l 0 (some 2000000000) mG)
 |124=>((c.a [8] (.i 1 64)).a [0] (.l 0 (some 131072) Gw)).wz 17 |>.p [.eq (.len 1) (.len 0)] |>.r [0] (.l 0 (some 2000000000) mG)
 |272=>(((c.a [0,1,7,8,14,15] J4))).a [22,23] (.i 0 100)
 |119=>c.q [imp (rb 0) (eG (lG 1 (.v 0) 64++lG 1 (.v 6) 64++lG 0 (.v 7) 2++lG 0 (.v 8) 2++lG 0 (.v 9) 2++lG 0 (.v 11) 3++lG (-65536) (.v 13) 65536++lG (-16777216) (.v 14) 16777216++[Iw 3]))]
 |74=>(c.a [0] (.l 0 (some 131072) Gw)).wz 17 |>.a [1] (.l 0 (some 131072) [(0,1)]) |>.r [0] (.l 0 (some 2000000000) mG)
 |154=>((c.a [1] (.i 1 4611686018427387904)).a [0] (.i (-4611686018427387904) 4611686018427387904)).r [0] (.i (-4611686018427387905) 4611686018427387904)
 |152=>c.q [imp (rb 0) (eG (lG (-8192) (.v 0) 8192++lG (-8192) (.v 1) 8192++lG 0 (.v 2) 4096++lG 0 (.v 3) 4096))]
 |153=>c.q [imp (rb 0) (eG (lG (-68719476736) (.v 0) 68719476736++lG (-68719476736) (.v 1) 68719476736++lG (-68719476736) (.v 2) 68719476736++lG 1 (.v 3) 68719476736++[4,5,6,7].flatMap fun j=>lG 0 (.v j) 255))]
 |108=>c.U9 0 |>.r [7] (.i 0 9)
 |186=>(c.a [0] (.i 0 16)).q [.eq (.len R0) (.v 0)]
 |41=>c.q [.eq (rr 0) (.c 0),.eq (rr 1) (.c 0),.eq (rr 2) (.v 0),.eq (rr 3) (.v 1)]
 |135=>c.q [imp (.eq (.len 2) (.mul (.v 0) (.v 1))) (.eq (.len (R0+2)) (.mul (rr 0) (rr 1))),imp (.eq (.len 3) (.mul (.v 0) (.v 1))) (.eq (.len (R0+3)) (.mul (rr 0) (rr 1))),.eq (rr 0) (.v 0),.eq (rr 1) (.v 1),.eq (.len (R0+2)) (.len 2),.eq (.len (R0+3)) (.len 3)] |>.a [2,3] (.l 0 (some 10000) [cI]) |>.r [2,3] (.l 0 (some 10000) [cI])
 |84=>c.a [0,1] B1 |>.a [2,3] (.l 0 (some 10000) [cI]) |>.r [2,3] (.l 0 (some 10000) [cI]) |>.p [.eq (.len 2) (.mul (.v 0) (.v 1)),.eq (.len 3) (.mul (.v 0) (.v 1))] |>.r [0,1] B1 |>.q [.eq (rr 0) (.v 0),.eq (rr 1) (.v 1),.eq (.len (R0+2)) (.mul (rr 0) (rr 1)),.eq (.len (R0+3)) (.mul (rr 0) (rr 1))]
 |187=>c.a [1] (.i 0 4611686018427387904) |>.q [.or (rb 0) (.and (.le (.sub (.c 0) (.v 1)) (.v 0)) (.le (.v 0) (.v 1)))]
 |143=>c.q [imp (rb 0) (eG ((List.range 16).flatMap fun j=>lG (-268435456) (.v j) 268435456))]
 |141=>c.q [imp (rb 0) (eG (lG 0 (.v 0) 1++lG 1 (.len 1) 8++lG 1 (.len 2) 8))]
 |188=>c.a [0] (.l 16 (some 16) [(-268435456,268435456)]) |>.a [1] (.i 0 3) |>.a [2] (.l 4 (some 4) [(-268435456,268435456)]) |>.r [0] (.i (-17592186044416) 17592186044416)
 |144=>(c.a [1,2] Xl).r ((List.range 16)) M28
 |145=>(c.r [16] (.i 0 12)).q [imp (.eq (rr 16) (.c 0)) (eG ((List.range 16).flatMap fun j=>lG (-268435456) (rr j) 268435456))]
 |90=>((c.a [1,2] Xl).r [3] (.i 0 12)).r [1,2] (stN 0) |>.q [imp (.eq (rr 3) (.c 0)) stQ]
 |91=>((c.a [1,2] Xl).r [3] (.i 0 12)).r [1,2] (stN 0) |>.q [imp (.eq (rr 3) (.c 0)) stQ]
 |92=>((c.a [1,2] Xl).r [3] (.i 0 12)).r [1,2] (stN 0) |>.q [imp (.eq (rr 3) (.c 0)) stQ]
 |93=>((c.a [1,2] Xl).r [3] (.i 0 12)).r [1,2] (stN 0) |>.q [imp (.eq (rr 3) (.c 0)) stQ]
 |94=>((c.a [1,2] Xl).r [3] (.i 0 12)).r [1,2] (stN 0) |>.q [imp (.eq (rr 3) (.c 0)) stQ]
 |193=>c.r [0,1,2,3] P36 |>.r [4] (.i 0 12)
 |134=>(c.r [4] (.i 0 12)).q [imp (.eq (rr 4) (.c 0)) (eG [.eq (rr 0) (.v 0),.eq (rr 1) (.v 1),.eq (.len (R0+2)) (.mul (rr 0) (rr 1)),.eq (.len (R0+3)) (.mul (rr 0) (rr 1))])] |>.p [.le (.mul (.v 0) (.v 1)) (.c 100)] |>.r [0,1] B1 |>.r [2,3] (.l 0 (some 10000) [cI])
 |59=>c.q [imp (.eq (.v 1) (.c 18)) (.iff (rb 0) (.v 0))]
 |132=>c.r [0] (.l 0 (some 40) [cI,cI]) |>.q (imp (.eq (.v 0) (.c 18)) (rb 1)::imp (.eq (.v 0) (.c 13)) (rb 1)::ZG)
 |133=>c.r [0] (.l 0 (some 40) [cI,cI]) |>.q (imp (rb 1) (eG (lG 14 (.v 0) 32))::ZG.drop 2)
 |80=>c.r [0] (.l 0 (some 40) [cI,cI]) |>.q (imp (.eq (.v 0) (.c 18)) (rb 1)::ZG)
 |57=>(c.a [1] (.l 0 (some 40) [cI])).r [0] (.i 0 12) |>.q (imp (.and (.eq (.v 0) (.c 18)) (.eq (.len 1) (.c 0))) (.eq (rr 0) (.c 0))::imp (.eq (rr 0) (.c 0)) (eG (lG 1 (.v 0) 32))::imp (.and (.eq (.v 0) (.c 13)) (.eq (rr 0) (.c 0))) (eG (lG 0 (.get 1 (.c 0) 0) 5))::(adi.map fun x=>imp (.and (.eq (.v 0) (.c x.1)) (.eq (rr 0) (.c 0))) (.eq (.len 1) (.c x.2)))++[imp (.and (.eq (.v 0) (.c 14)) (.eq (rr 0) (.c 0))) (eG (ajg 1)),imp (.and (.eq (.v 0) (.c 1)) (.eq (rr 0) (.c 0))) (eG (rf 1))])
 |19=>(c.pipe.p [.v 58]).r [0,1] B1 |>.r [2,3] (.l 0 (some 10000) [cI]) |>.q [.eq (.len (R0+2)) (.mul (rr 0) (rr 1)),.eq (.len (R0+3)) (.mul (rr 0) (rr 1))]
 |233=>c.q [imp (rb 0) (eG (lG 0 (.v 2) 16777215++([3,4,5,6].flatMap fun j=>lG 0 (.v j) 255)++lG 1 (.v 7) 64))]
 |235=>(c.a [0,1,2,3] B8).a [4] (.i 1 64) |>.r [0,1,2,3] B8
 |264=>c.r [0,1,2,3] B8
 |236=>c.r [0,1,2,3] B8 |>.a [0,1] B1 |>.a [2,3] (.l 0 (some 10000) [cI]) |>.p [.eq (.len 2) (.mul (.v 0) (.v 1)),.eq (.len 3) (.mul (.v 0) (.v 1))] |>.q [imp (rb 5) (eG [.le (.c 0) (.v 4),.lt (.v 4) (.v 0),.le (.c 0) (.v 5),.lt (.v 5) (.v 1)])]
 |265=>(c.a [9] (.i 0 3)).a ([1,2,3,4,5,6,7,8]) B8 |>.r [0] B8
 |237=>c.a ([0,1,2,3,4,5,6,7]) B8 |>.r [0,1,2,3] B8
 |30=>c.a [1] (.l 0 (some 256) []) |>.r [0] (.l 0 (some 256) [(1,256),(0,256),(0,255)])
 |18=>c.pipe.r [0] (.l 0 (some 512000000000) mG)
 |28=>c.pipe.r [0,1,2,3] B1
 |29=>c.pipe
 |24=>(c.pipe.a [95] (.l 0 (some 40) [cI])).p [imp (eG (.eq (.v 94) (.c 1)::rf 95)) (.le (.mul (.get 95 (.c 0) 0) (.get 95 (.c 1) 0)) (.c 100))] |>.PL
 |23=>c.PL
 |12=>c.PL.p [.c false]
 |44=>c.p [.c false]
 |241=>c.p [.lt (.v 0) (.v 2)]
 |47=>c.p [.c false]
 |64=>c.a [0] (.i 1 1) |>.r [0] (.l 2 (some 2) [(1,1),(1024,1024)]) |>.q [rb 1]
 |40=>c.a [0] (.i 1 1) |>.a [1] (.l 0 (some 40) [cI]) |>.r [0] (.i 0 12) |>.q [imp (.eq (rr 0) (.c 0)) (eG (rf 1))]
 |17=>{c with pre:=[.c false],res:=(PK.map fun a=>a.AG (Ca a))++[.b],post:=tf R0++[imp (rb 94) (eG [.le (.c 1) (.len (R0+15)),.le (.c 1) (.len (R0+16)),rb 58,.le (.c 1) (rr 1),.le (.c 1) (rr 2)])] }
 |37=>c.r [0] (.i 0 0) |>.r [1,2] (.l 1 (some 1) (List.replicate 16 (-268435456,268435456)))
 |56=>c.r (List.range 16) M28
 |87=>c.a [1] (.i 0 16777216) |>.r [0] (.i 0 16777216) |>.r [1] (.i 0 12) |>.q [.le (rr 0) (.v 1)]
 |146=>c.a [1] (.i 0 32) |>.a [2] (.i 0 1099511627776) |>.r [0] (.i (-1099511627776) 1099511627776) |>.r [1] (.i 0 12) |>.q [.le (.sub (.c 0) (.v 2)) (rr 0),.le (rr 0) (.v 2)]
 |283=>c.r [0] (.i 0 64)
 |243=>(c.a [2] (.i 0 1)).r [1] (.i 0 1)
 |266=>(c.a [2] (.i 0 1)).r [1] (.i 0 1)
 |14=>c.a [1] (.l 0 (some 100) [cI,cI]) |>.r [0] (.l 0 (some 200) [])
 |11=>(c.a [0,1,7,8,14,15] J4)
 |_=>c
def adj(i:IE):BE:=imp (.lt (.c 0) i) (.and (.le (.get 3 (.c 0) 0) (.get 1 (.c 0) 0)) (.le (.get 1 (.c 0) 0) (.get 3 (.c 0) 1)))
def Ix:IE:=.add (.add (.v 3) (.tdiv (.sub (.v 4) (.v 3)) (.c 2))) (.tmod (.sub (.v 4) (.v 3)) (.c 2))
def dxy(a b:Nat):IE:=.max (.sub (.v a) (.v b)) (.sub (.c 0) (.sub (.v a) (.v b)))
def wA:IE:=.max (.v 15) (.wrap .i64 (.sub (.ediv (.wrap .i64 (.sub (.min (.v 0) (.v 7)) (.wrap .i64 (.mul (.v 14) (.c 128))))) 256) (.c 1)))
def pix(x y w h:IE):List BE×BE:=([.le (.c 0) x,.lt x w,.le (.c 0) y,.lt y h,.le w (.c 100),.le h (.c 100)],eG [.le (.c 0) (.mul y w),.le (.mul y w) (.c 10000),.le (.c 0) (.add (.mul y w) x),.lt (.add (.mul y w) x) (.mul w h)])
def J5(a b c d:Nat):BE:=imp (.lt (.v a) (.v b)) (.and (.le (.v c) (.v a)) (.le (.v b) (.v d)))
def PM:IE:=.wrap .i64 (.sub (.wrap .i64 (.tdiv (.v 0) (.v 1))) (.c 1))
def tg(k:Nat):List (List BE×BE):=match k with
 |202=>[([.lt (.v 3) (.v 4)],eG [.lt (.v 3) Ix,.le Ix (.v 4),.le (.tdiv (.sub (.v 4) (.v 3)) (.c 2)) (.sub (.v 4) (.v 3))])]
 |221=>[([J5 37 38 33 34,J5 33 34 21 23],J5 37 38 21 23),([.or (.eq (.len 31) (.c 0)) (.le (.v 32) (.c 100)),.le (.len 31) (.v 32)],.le (.len 31) (.c 100))]
 |198=>[([.le (.c 1) (.v 2),.le (.v 2) (.c 9223372036854775807)],.lt (.tmod (.wrap .u64 (.v 6)) (.wrap .u64 (.v 2))) (.wrap .u64 (.v 2))),([.le (.c 1) (.v 2),.le (.v 2) (.c 9223372036854775807)],.lt (.tmod (.wrap .u64 (.v 0)) (.wrap .u64 (.v 2))) (.wrap .u64 (.v 2)))]
 |123=>[([.lt (.c 0) (.len 0),.le (.c 0) (.v 24)],eG [.lt (.tmod (.add (.v 24) (.c 1)) (.len 0)) (.len 0),.le (.c 0) (.tmod (.add (.v 24) (.c 1)) (.len 0))])]
 |84=>[([.eq (.v 23) (.v 0),.eq (.v 24) (.v 1)],.eq (.mul (.v 23) (.v 24)) (.mul (.v 0) (.v 1))),([.lt (.v 1570) (.v 1567),.le (.v 1566) (.v 0),.le (.v 1567) (.v 1),.le (.c 0) (.v 1570),.le (.c 0) (.v 0)],.le (.add (.mul (.v 1570) (.v 0)) (.v 1566)) (.mul (.v 0) (.v 1)))]
 |73=>[([.le (.c 0) (.v 6),.le (.v 6) (.c 100)],.eq (.shl (.c 256) (.wrap .i64 (.add (.v 6) (.c 1)))) (.mul (.c 2) (.shl (.c 256) (.v 6))))]
 |134=>[([.le (.c 1) (.v 0),.le (.c 1) (.v 1),.le (.mul (.v 0) (.v 1)) (.c 100)],eG [.le (.v 0) (.c 100),.le (.v 1) (.c 100)])]
 |236=>[pix (.v 4) (.v 5) (.v 0) (.v 1)]
 |19=>[pix (.get 4713 (.v 4721) 0) (.get 4713 (.v 4721) 1) (.v 4715) (.v 4716)]
 |24=>[pix (.get 4200 (.v 4208) 0) (.get 4200 (.v 4208) 1) (.v 4202) (.v 4203),([.le (.c 1) (.get 95 (.c 0) 0),.le (.c 1) (.get 95 (.c 1) 0),.le (.mul (.get 95 (.c 0) 0) (.get 95 (.c 1) 0)) (.c 100)],eG [.le (.get 95 (.c 0) 0) (.c 100),.le (.get 95 (.c 1) 0) (.c 100)])]
 |57=>[([adj (.v 6),.le (.c 0) (.v 6),.le (.get 3 (.v 6) 0) (.get 1 (.v 6) 0),.le (.get 1 (.v 6) 0) (.get 3 (.v 6) 1)],.and (.le (.get 3 (.c 0) 0) (.get 1 (.c 0) 0)) (.le (.get 1 (.c 0) 0) (.get 3 (.c 0) 1)))]
 |141=>[([.not (.and (.not (.eq (.v 0) (.c 0))) (.not (.eq (.v 0) (.c 1))))],eG (lG 0 (.v 0) 1))]
 |112=>[([.le (.mul (.c 32) (.v 44)) (.sub (.c 16) (.v 42)),.le (.add (.mul (.c 256) wA) (.c 16)) (.v 42),.le (.sub (.c 0) (.v 44)) (.v 45),.le (.mul (.c 32) (.v 47)) (.sub (.v 43) (.c 16)),.le (.v 43) (.sub (.add (.mul (.c 256) wA) (.mul (.c 256) (.len 38))) (.c 16)),.le (.v 45) (.v 47),.eq (.len 46) (.len 38)],eG [.le (.c 0) (.sub (.ediv (.v 45) 8) wA),.lt (.sub (.ediv (.v 45) 8) wA) (.len 46)])]
 |204=>[([.lt (.tmod (.v 0) (.v 1)) (.c 0),.le (.c 1) (.v 1)],imp (eG (lG (-1073741824) (.v 0) 1073741824)) (eG [.le (.mul (.v 1) PM) (.v 0),.lt (.v 0) (.add (.mul (.v 1) PM) (.v 1))])),([.le (.c 0) (.tmod (.v 0) (.v 1)),.le (.c 1) (.v 1)],imp (eG (lG (-1073741824) (.v 0) 1073741824)) (eG [.le (.mul (.v 1) (.wrap .i64 (.tdiv (.v 0) (.v 1)))) (.v 0),.lt (.v 0) (.add (.mul (.v 1) (.wrap .i64 (.tdiv (.v 0) (.v 1)))) (.v 1))]))]
 |210=>[([],.le (.c 0) (.max (.sub (.get 0 (.c 0) 7) (.get 0 (.c 0) 6)) (.sub (.get 0 (.c 0) 6) (.get 0 (.c 0) 7))))]
 |207=>[([.lt (dxy 2 0) (dxy 3 1)],.not (.eq (.v 3) (.v 1))),([.le (dxy 3 1) (dxy 2 0),.not (.and (.eq (.v 0) (.v 2)) (.eq (.v 1) (.v 3)))],.not (.eq (.v 2) (.v 0)))]
 |_=>[]
def Va(k j:Nat)(c:Cn):Cn:=if k=18/\j=73 then c.a [1] .t else if k=12/\j=24 then {c.a [94,95] .t with pre:=c.pre.dropLast}else if k=17/\j=12 then {c with pre:=[] }else c
def bare(k:Nat)(c:Cn):Cn:=if k=57 then {c with post:=c.post.dropLast.dropLast}else if k=12\/k=17 then {c with pre:=[] }else c
def ZH(k:Nat):List BE:=match k with
 |18=>[.le (.c 0) (.get 5224 (.v 5742) 0),.lt (.get 5224 (.v 5742) 0) (.len 60),.le (.c 0) (.get 5216 (.v 5218) 2),.lt (.get 5216 (.v 5218) 2) (.len 60)]
 |_=>[]
def lps(k:Nat):List (Nat×Nat×Iv):=match k with
 |9=>[(9004,2,⟨[.b,.i 0 1099511627776],[(.le (.c 0) (.v 3)),(.le (.v 3) (.len 0))],(.add (.mul (.c (-1)) (.v 3)) (.len 0))⟩)]
 |12=>[(12003,97,⟨[.i 0 1099511627776,aI,.i 0 100,.i 0 100,.l 0 (some 10000) [cI],.l 0 (some 10000) [cI],aI,aI,aI,aI,aI,aI,aI,aI,aI,aI,.l 1 (some 8) [((-268435456),268435456),((-268435456),268435456),((-268435456),268435456),((-268435456),268435456),((-268435456),268435456),((-268435456),268435456),((-268435456),268435456),((-268435456),268435456),((-268435456),268435456),((-268435456),268435456),((-268435456),268435456),((-268435456),268435456),((-268435456),268435456),((-268435456),268435456),((-268435456),268435456),((-268435456),268435456)],.l 1 (some 8) [((-268435456),268435456),((-268435456),268435456),((-268435456),268435456),((-268435456),268435456),((-268435456),268435456),((-268435456),268435456),((-268435456),268435456),((-268435456),268435456),((-268435456),268435456),((-268435456),268435456),((-268435456),268435456),((-268435456),268435456),((-268435456),268435456),((-268435456),268435456),((-268435456),268435456),((-268435456),268435456)],.i 3 3,aI,aI,aI,aI,.i 3 3,aI,aI,aI,aI,.i 3 3,aI,aI,aI,aI,.i 3 3,aI,aI,aI,aI,.i 3 3,aI,aI,aI,aI,.i 3 3,aI,aI,aI,aI,.b,.b,.b,.b,.b,.b,.i 0 255,.i 0 255,.i 0 255,.i 0 255,.b,.b,aI,.l 0 (some 256) [((-68719476736),68719476736),((-68719476736),68719476736),((-68719476736),68719476736),((-68719476736),68719476736),(0,255),(0,255),(0,255),(0,255)],.l 0 (some 256) [(0,1)],aI,.b,.b,aI,aI,aI,aI,aI,aI,aI,.b,aI,.b,aI,aI,.b,.b,.b,aI,aI,aI,aI,.b,aI,.b,.b,aI,aI,.b,.b,.b,.b],[(.eq (.len 101) (.mul (.v 99) (.v 100))),(.eq (.len 102) (.mul (.v 99) (.v 100))),(.eq (.len 158) (.len 159))],(.add (.mul (.c (-1)) (.v 97)) (.len 0))⟩)]
 |14=>[(14003,6,⟨[.l 1 (some 101) [],.i 0 100],[(.le (.add (.len 6) (.c 0)) (.add (.v 7) (.len 5))),(.le (.c 0) (.v 7)),(.le (.v 7) (.len 1))],(.add (.mul (.c (-1)) (.v 7)) (.len 1))⟩)]
 |15=>[(15003,95,⟨[.l 0 (some 1099511627776) [cI],.i 0 1099511627776],[(.le (.add (.len 95) (.c 0)) (.add (.v 96) (.c 0))),(.le (.c 0) (.v 96)),(.le (.v 96) (.len 3))],(.add (.mul (.c (-1)) (.v 96)) (.len 3))⟩)]
 |18=>[(18004,5218,⟨[.i 0 256,aI,aI,aI,.l 0 (some 512000000000) [cI,cI,cI,cI,cI,cI,cI,cI],.b],[(.le (.len 5222) (.mul (.c 2000000000) (.v 5218))),(.le (.c 0) (.v 5218)),(.le (.v 5218) (.len 5216))],(.add (.mul (.c (-1)) (.v 5218)) (.len 5216))⟩),(33003,5742,⟨[.i 0 256,.l 0 (some 256) [((-68719476736),68719476736),((-68719476736),68719476736),((-68719476736),68719476736),((-68719476736),68719476736),(0,255),(0,255),(0,255),(0,255)]],[(.le (.c 0) (.v 5742)),(.eq (.len 5743) (.len 5741)),(.le (.add (.len 5743) (.c 0)) (.add (.v 5742) (.len 5741))),(.le (.v 5742) (.len 5741)),(.le (.v 5742) (.len 5224))],(.add (.mul (.c (-1)) (.v 5742)) (.len 5743))⟩),(51004,5748,⟨[.i 0 131072,.l 1 (some 131072) [((-268435456),268435456),((-268435456),268435456),(0,16777215),(0,255),(0,255),(0,255),(0,255)],.l 0 (some 256) [((-68719476736),68719476736),((-68719476736),68719476736),((-68719476736),68719476736),((-68719476736),68719476736),(0,255),(0,255),(0,255),(0,255)]],[(.le (.c 0) (.v 5748)),(.eq (.len 5749) (.len 5747)),(.le (.add (.len 5749) (.c 0)) (.add (.v 5748) (.len 5747))),(.eq (.len 5750) (.len 5743)),(.le (.add (.len 5750) (.c 0)) (.add (.v 5748) (.len 5743))),(.le (.v 5748) (.len 5747)),(.le (.v 5748) (.len 5744)),(.le (.v 5748) (.len 5745))],(.add (.mul (.c (-1)) (.v 5748)) (.len 5749))⟩),(49002,5745,⟨[.i 0 1099511627776],[(.le (.c 0) (.v 5745))],(.add (.mul (.c (-1)) (.v 5745)) (.len 2143))⟩)]
 |19=>[(148003,4720,⟨[.i 0 512000000000,.i 0 512000000000,.l 0 (some 10000) [cI],.l 0 (some 10000) [cI]],[(.eq (.len 4722) (.mul (.v 4715) (.v 4716))),(.eq (.len 4723) (.mul (.v 4715) (.v 4716))),(.le (.c 0) (.v 4720)),(.le (.c 0) (.v 4721)),(.eq (.len 4722) (.len 4718)),(.le (.add (.len 4722) (.c 0)) (.add (.v 4720) (.len 4718))),(.le (.add (.len 4722) (.c 0)) (.add (.v 4721) (.len 4718))),(.eq (.len 4723) (.len 4717)),(.le (.add (.len 4723) (.c 0)) (.add (.v 4720) (.len 4717))),(.le (.add (.len 4723) (.c 0)) (.add (.v 4721) (.len 4717))),(.le (.v 4720) (.len 4713)),(.le (.add (.v 4720) (.c 0)) (.add (.v 4721) (.c 0))),(.le (.v 4721) (.len 4713))],(.add (.mul (.c (-1)) (.v 4721)) (.len 4713))⟩)]
 |24=>[(95003,4202,⟨[.i 0 16,.l 16 (some 16) [((-268435456),268435456)]],[(.le (.c 0) (.v 4202)),(.eq (.len 4203) (.len 4201)),(.le (.add (.len 4203) (.c 0)) (.add (.v 4202) (.len 4201))),(.le (.v 4202) (.len 4201))],(.add (.mul (.c (-1)) (.v 4202)) (.len 95))⟩),(95003,4201,⟨[.i 0 4,.l 4 (some 4) [((-1048576),1048576)]],[(.le (.c 0) (.v 4201)),(.eq (.len 4202) (.len 4200)),(.le (.add (.len 4202) (.c 0)) (.add (.v 4201) (.len 4200))),(.le (.v 4201) (.len 4200))],(.add (.mul (.c (-1)) (.v 4201)) (.len 95))⟩),(148003,4207,⟨[.i 0 512000000000,.i 0 512000000000,.l 0 (some 10000) [cI],.l 0 (some 10000) [cI]],[(.eq (.len 4209) (.mul (.v 4202) (.v 4203))),(.eq (.len 4210) (.mul (.v 4202) (.v 4203))),(.le (.c 0) (.v 4207)),(.le (.c 0) (.v 4208)),(.eq (.len 4209) (.len 4205)),(.le (.add (.len 4209) (.c 0)) (.add (.v 4207) (.len 4205))),(.le (.add (.len 4209) (.c 0)) (.add (.v 4208) (.len 4205))),(.eq (.len 4210) (.len 4204)),(.le (.add (.len 4210) (.c 0)) (.add (.v 4207) (.len 4204))),(.le (.add (.len 4210) (.c 0)) (.add (.v 4208) (.len 4204))),(.le (.v 4207) (.len 4200)),(.le (.add (.v 4207) (.c 0)) (.add (.v 4208) (.c 0))),(.le (.v 4208) (.len 4200))],(.add (.mul (.c (-1)) (.v 4208)) (.len 4200))⟩)]
 |26=>[(26004,10,⟨[.b,.i 0 1099511627776],[(.le (.c 0) (.v 11)),(.le (.v 11) (.len 2)),(.le (.v 11) (.len 6))],(.add (.mul (.c (-1)) (.v 11)) (.len 6))⟩),(26009,12,⟨[.b,.i 0 1099511627776],[(.le (.c 0) (.v 13)),(.le (.v 13) (.len 3)),(.le (.v 13) (.len 7))],(.add (.mul (.c (-1)) (.v 13)) (.len 7))⟩)]
 |29=>[(29003,95,⟨[.l 0 (some 6) [(3,3),cI,cI,cI,cI],.i 0 6],[(.le (.add (.len 95) (.c 0)) (.add (.v 96) (.c 0))),(.le (.c 0) (.v 96))],(.add (.mul (.c (-1)) (.v 96)) (.c 6))⟩)]
 |34=>[(34004,2,⟨[.b,.i 0 1099511627776],[(.le (.c 0) (.v 3)),(.le (.v 3) (.len 0)),(.le (.v 3) (.len 1))],(.add (.mul (.c (-1)) (.v 3)) (.len 1))⟩)]
 |43=>[(43005,2,⟨[.l 3 (some 3) [(0,mx),(0,0),(0,0),(0,0),(0,0)],.i 0 3],[(.eq (.len 2) (.len 1)),(.le (.add (.len 2) (.c 0)) (.add (.v 3) (.len 1))),(.le (.c 0) (.v 3)),(.le (.v 3) (.len 1))],(.add (.mul (.c (-1)) (.v 3)) (.c 3))⟩),(43010,4,⟨[.i 0 0,.l 3 (some 9) [cI,cI,cI,cI,cI],.i 0 6],[(.le (.c 0) (.v 4)),(.le (.v 4) (.c 0)),(.le (.add (.len 5) (.c 0)) (.add (.v 6) (.len 2))),(.le (.c 0) (.v 6)),(.le (.v 4) (.len 2)),(.le (.v 4) (.len 1)),(.le (.v 4) (.len 0)),(.le (.add (.v 4) (.c 0)) (.add (.v 6) (.c 0))),(.le (.v 6) (.len 0))],(.add (.mul (.c (-1)) (.v 6)) (.len 0))⟩)]
 |57=>[(57007,5,⟨[.i 0 0,.i 0 40],[(.or (.not (.lt (.c 0) (.v 6))) (.and (.le (.get 3 (.c 0) 0) (.get 1 (.c 0) 0)) (.le (.get 1 (.c 0) 0) (.get 3 (.c 0) 1)))),(.le (.c 0) (.v 5)),(.le (.v 5) (.c 0)),(.le (.c 0) (.v 6)),(.le (.v 5) (.len 3)),(.le (.v 5) (.len 1)),(.le (.add (.v 5) (.c 0)) (.add (.v 6) (.c 0))),(.le (.v 6) (.len 3)),(.le (.v 6) (.len 1))],(.add (.mul (.c (-1)) (.v 6)) (.len 3))⟩)]
 |65=>[(65003,6,⟨[.b,.i 0 4],[(.le (.c 0) (.v 7))],(.add (.mul (.c (-1)) (.v 7)) (.c 4))⟩)]
 |71=>[(71003,23,⟨[.b,.i 0 1099511627776,aI,aI,aI,aI],[(.le (.c 0) (.v 24)),(.le (.v 24) (.len 16))],(.add (.mul (.c (-1)) (.v 24)) (.len 16))⟩)]
 |73=>[(73005,5,⟨[.l 0 (some 131072) [cI,cI,cI,cI,cI,cI,cI,cI,cI,(0,1)],.i 0 9],[(.le (.len 5) (.shl (.c 256) (.v 6)))],(.sub (.len 2) (.v 6))⟩),(116002,9,⟨[.l 0 (some 65536) [cI,cI,cI,cI,cI,cI,cI,cI,cI,(0,1)],.i 0 65536],[(.eq (.len 9) (.len 5)),(.le (.add (.len 9) (.c 0)) (.add (.v 10) (.len 5))),(.le (.c 0) (.v 10)),(.le (.v 10) (.len 5))],(.add (.mul (.c (-1)) (.v 10)) (.len 9))⟩),(116008,11,⟨[.l 0 (some 131072) [cI,cI,cI,cI,cI,cI,cI,cI,cI,(0,1)],.i 0 65536],[(.le (.len 11) (.mul (.c 2) (.v 12))),(.le (.v 12) (.shl (.c 256) (.v 6))),(.le (.c 0) (.v 12)),(.le (.v 12) (.len 9)),(.le (.v 12) (.len 5))],(.add (.mul (.c (-1)) (.v 12)) (.len 9))⟩)]
 |84=>[(84006,1570,⟨[.i 0 100,.l 0 (some 10000) [cI],.l 0 (some 10000) [cI]],[(.eq (.len 1571) (.mul (.v 0) (.v 1))),(.eq (.len 1572) (.mul (.v 0) (.v 1))),(.le (.v 1565) (.v 1570)),(.eq (.len 1571) (.len 26)),(.le (.add (.len 1571) (.v 1565)) (.add (.v 1570) (.len 26))),(.eq (.len 1572) (.len 25)),(.le (.add (.len 1572) (.v 1565)) (.add (.v 1570) (.len 25)))],(.add (.mul (.c (-1)) (.v 1570)) (.v 1567))⟩),(84010,1573,⟨[.i 0 100,.l 0 (some 10000) [cI],.l 0 (some 10000) [cI]],[(.eq (.len 1574) (.mul (.v 0) (.v 1))),(.eq (.len 1575) (.mul (.v 0) (.v 1))),(.le (.c 0) (.v 1573)),(.eq (.len 1574) (.len 1571)),(.le (.add (.len 1574) (.c 0)) (.add (.v 1573) (.len 1571))),(.eq (.len 1575) (.len 1572)),(.le (.add (.len 1575) (.c 0)) (.add (.v 1573) (.len 1572))),(.le (.v 1573) (.len 1571)),(.le (.v 1573) (.len 1572)),(.le (.v 1573) (.len 25)),(.le (.v 1573) (.len 26)),(.le (.v 1573) (.len 2)),(.le (.v 1573) (.len 3))],(.add (.mul (.c (-1)) (.v 1573)) (.add (.mul (.c (-1)) (.v 1564)) (.v 1566)))⟩)]
 |86=>[(86003,6,⟨[.b,.i 0 4],[(.le (.c 0) (.v 7))],(.add (.mul (.c (-1)) (.v 7)) (.c 4))⟩)]
 |112=>[(112012,35,⟨[.l 0 (some 10000) [(0,mx),(0,99),cI,cI,cI,cI,cI,cI],.i 0 1048707,.l 0 (some 100) [cI]],[(.le (.len 35) (.mul (.c 100) (.v 36))),(.le (.v 33) (.v 36)),(.eq (.len 37) (.len 32)),(.le (.add (.len 37) (.v 33)) (.add (.v 36) (.len 32)))],(.add (.mul (.c (-1)) (.v 36)) (.v 34))⟩),(162003,40,⟨[.i 0 8,.l 0 (some 100) [cI]],[(.le (.c 0) (.v 40)),(.eq (.len 41) (.len 38)),(.le (.add (.len 41) (.c 0)) (.add (.v 40) (.len 38)))],(.add (.mul (.c (-1)) (.v 40)) (.c 8))⟩),(112017,42,⟨[.l 0 (some 10000) [(0,mx),(0,99),cI,cI,cI,cI,cI,cI],.i 0 100],[(.le (.add (.len 42) (.c 0)) (.add (.v 43) (.len 35))),(.le (.c 0) (.v 43)),(.le (.v 43) (.len 41)),(.le (.v 43) (.len 38)),(.le (.v 43) (.len 37))],(.add (.mul (.c (-1)) (.v 43)) (.len 41))⟩),(162008,45,⟨[.i 0 8389392,.l 0 (some 100) [cI]],[(.le (.wrap .i64 (.sub (.c 0) (.v 44))) (.v 45)),(.eq (.len 46) (.len 41)),(.le (.add (.len 46) (.wrap .i64 (.sub (.c 0) (.v 44)))) (.add (.v 45) (.len 41)))],(.sub (.c 1073741826) (.v 45))⟩)]
 |113=>[(113012,4135,⟨[.i 0 200,.l 0 (some 12800) [((-64),mx),((-64),mx),cI,cI,cI,cI,cI,(64,64)]],[(.le (.len 4136) (.mul (.c 64) (.v 4135))),(.le (.c 0) (.v 4135)),(.le (.v 4135) (.len 4134))],(.add (.mul (.c (-1)) (.v 4135)) (.len 4134))⟩),(113018,4145,⟨[.i 0 64,.i (-64) 164,.i (-64) 164,.l 0 (some 12800) [((-64),mx),((-64),mx),cI,cI,cI,cI,cI,(64,64)]],[(.le (.c 0) (.v 4145)),(.le (.get 4134 (.v 4135) 1) (.v 4146)),(.le (.get 4134 (.v 4135) 2) (.v 4147)),(.le (.add (.len 4148) (.c 0)) (.add (.v 4145) (.len 4136))),(.le (.add (.v 4146) (.c 0)) (.add (.v 4145) (.get 4134 (.v 4135) 1))),(.le (.add (.v 4147) (.c 0)) (.add (.v 4145) (.get 4134 (.v 4135) 2)))],(.add (.mul (.c (-1)) (.v 4145)) (.v 14))⟩),(113012,7210,⟨[.i 0 200,.l 0 (some 12800) [((-64),mx),((-64),mx),cI,cI,cI,cI,cI,(64,64)]],[(.le (.len 7211) (.mul (.c 64) (.v 7210))),(.le (.c 0) (.v 7210)),(.le (.v 7210) (.len 7209))],(.add (.mul (.c (-1)) (.v 7210)) (.len 7209))⟩),(113018,7220,⟨[.i 0 64,.i (-64) 164,.i (-64) 164,.l 0 (some 12800) [((-64),mx),((-64),mx),cI,cI,cI,cI,cI,(64,64)]],[(.le (.c 0) (.v 7220)),(.le (.get 7209 (.v 7210) 1) (.v 7221)),(.le (.get 7209 (.v 7210) 2) (.v 7222)),(.le (.add (.len 7223) (.c 0)) (.add (.v 7220) (.len 7211))),(.le (.add (.v 7221) (.c 0)) (.add (.v 7220) (.get 7209 (.v 7210) 1))),(.le (.add (.v 7222) (.c 0)) (.add (.v 7220) (.get 7209 (.v 7210) 2)))],(.add (.mul (.c (-1)) (.v 7220)) (.v 14))⟩)]
 |114=>[(114004,3,⟨[.b,.i 0 256],[(.le (.c 0) (.v 4)),(.le (.v 4) (.len 0)),(.le (.v 4) (.len 1))],(.add (.mul (.c (-1)) (.v 4)) (.len 0))⟩),(114010,5,⟨[.b,.i 0 9],[(.le (.c 0) (.v 6)),(.le (.v 6) (.len 2))],(.add (.mul (.c (-1)) (.v 6)) (.len 2))⟩)]
 |115=>[(115003,3,⟨[.l 0 (some 256) [cI,cI,cI,cI,cI,cI,cI,cI,(0,0),(0,1)],.i 0 256],[(.eq (.len 3) (.len 2)),(.le (.add (.len 3) (.c 0)) (.add (.v 4) (.len 2))),(.le (.c 0) (.v 4)),(.le (.v 4) (.len 2)),(.le (.v 4) (.len 0)),(.le (.v 4) (.len 1))],(.add (.mul (.c (-1)) (.v 4)) (.len 3))⟩)]
 |117=>[(117005,2562,⟨[.l 1 (some 131072) [cI,cI,cI,cI,cI,cI,cI,cI],.l 1 (some 131072) [(0,1)],.i 0 131072],[(.eq (.len 2562) (.len 1025)),(.le (.add (.len 2562) (.c 0)) (.add (.v 2564) (.len 1025))),(.eq (.len 2563) (.len 2561)),(.le (.add (.len 2563) (.c 0)) (.add (.v 2564) (.len 2561))),(.le (.c 0) (.v 2564)),(.le (.v 2564) (.len 2561)),(.le (.v 2564) (.len 1025)),(.le (.v 2564) (.len 0))],(.add (.mul (.c (-1)) (.v 2564)) (.len 2563))⟩)]
 |118=>[(118004,22,⟨[.b,.i 0 131072],[(.le (.c 0) (.v 23)),(.le (.v 23) (.len 0)),(.le (.v 23) (.len 1))],(.add (.mul (.c (-1)) (.v 23)) (.len 0))⟩)]
 |122=>[(122003,22,⟨[.l 0 (some 1310720000) [cI,cI,cI,cI,cI,cI,cI,cI],.i 2 131072],[(.le (.len 22) (.mul (.c 10000) (.v 23))),(.le (.c 2) (.v 23))],(.add (.mul (.c (-1)) (.v 23)) (.len 0))⟩)]
 |123=>[(123004,23,⟨[.l 0 (some 1677721600) [cI,cI,cI,cI,cI,cI,cI,cI],.i 0 131072,aI,aI,aI],[(.le (.len 23) (.mul (.c 12800) (.v 24))),(.le (.c 0) (.v 24)),(.le (.v 24) (.len 0)),(.le (.v 24) (.len 1))],(.add (.mul (.c (-1)) (.v 24)) (.len 1))⟩)]
 |124=>[(124003,22,⟨[.l 0 (some 1310720000) [cI,cI,cI,cI,cI,cI,cI,cI],.i 0 131072],[(.le (.len 22) (.mul (.c 10000) (.v 23))),(.le (.c 0) (.v 23)),(.le (.v 23) (.len 0)),(.le (.v 23) (.len 1))],(.add (.mul (.c (-1)) (.v 23)) (.len 0))⟩)]
 |134=>[(134005,5636,⟨[.i 0 1048576,.l 1 (some 1048576) [(0,16777215)]],[(.le (.c 0) (.v 5636)),(.eq (.len 5637) (.len 4611)),(.le (.add (.len 5637) (.c 0)) (.add (.v 5636) (.len 4611))),(.le (.v 5636) (.len 4611)),(.le (.v 5636) (.len 2563))],(.add (.mul (.c (-1)) (.v 5636)) (.len 5637))⟩)]
 |141=>[(141009,4,⟨[.b,.i 0 8],[(.le (.c 0) (.v 5)),(.le (.v 5) (.len 1))],(.add (.mul (.c (-1)) (.v 5)) (.len 1))⟩),(141009,6,⟨[.b,.i 0 8,.b],[(.le (.c 0) (.v 7)),(.le (.v 7) (.len 2))],(.add (.mul (.c (-1)) (.v 7)) (.len 2))⟩)]
 |151=>[(151003,11,⟨[.i 0 64,.i 0 8],[(.le (.v 11) (.mul (.c 8) (.v 12))),(.le (.c 0) (.v 11)),(.le (.c 0) (.v 12))],(.add (.mul (.c (-1)) (.v 12)) (.c 8))⟩),(151008,13,⟨[.i 0 64,.i 0 8],[(.le (.v 13) (.add (.mul (.c 8) (.v 12)) (.v 14))),(.le (.v 11) (.v 13)),(.le (.c 0) (.v 14)),(.le (.add (.v 13) (.c 0)) (.add (.v 14) (.v 11)))],(.add (.mul (.c (-1)) (.v 14)) (.c 8))⟩)]
 |175=>[(175003,2,⟨[.i 2 131072,aI,.i 0 18446744073709551615],[(.le (.c 2) (.v 2)),(.le (.c 0) (.v 4))],(.add (.mul (.c (-1)) (.v 2)) (.len 0))⟩)]
 |177=>[(177007,89,⟨[.l 0 (some 10000) [(0,99),(0,100),(0,16777215),cI,cI,cI,cI,(64,64)],.i 0 100],[(.le (.len 89) (.mul (.c 100) (.v 90))),(.le (.c 0) (.v 90)),(.le (.v 90) (.len 30))],(.add (.mul (.c (-1)) (.v 90)) (.len 30))⟩),(177011,93,⟨[.i 0 5,aI,.i 0 18446744073709551615,aI,.i 0 18446744073709551615,aI,.i 0 18446744073709551615,aI,.i 0 18446744073709551615,aI,.i 0 18446744073709551615],[],(.add (.mul (.c (-1)) (.v 93)) (.c 5))⟩),(177016,104,⟨[.l 0 (some 10000) [(0,99),(0,100),(0,16777215),cI,cI,cI,cI,(64,64)],.i 0 100,aI,.i 0 18446744073709551615,aI,.i 0 18446744073709551615,aI,.i 0 18446744073709551615,aI,.i 0 18446744073709551615,aI,.i 0 18446744073709551615],[(.le (.add (.len 104) (.get 30 (.v 90) 1)) (.add (.v 105) (.len 89)))],(.add (.mul (.c (-1)) (.v 105)) (.get 30 (.v 90) 2))⟩),(177021,118,⟨[.i 0 4,aI,aI,aI,aI],[(.le (.c 0) (.v 118))],(.add (.mul (.c (-1)) (.v 118)) (.c 4))⟩),(177027,125,⟨[.i 0 5,aI,.i 0 18446744073709551615,aI,.i 0 18446744073709551615,aI,.i 0 18446744073709551615,aI,.i 0 18446744073709551615,aI,.i 0 18446744073709551615],[],(.add (.mul (.c (-1)) (.v 125)) (.c 5))⟩)]
 |186=>[(186003,5,⟨[.l 0 (some 16) [cI,cI],.i 0 16],[(.eq (.len 5) (.len 4)),(.le (.add (.len 5) (.c 0)) (.add (.v 6) (.len 4))),(.le (.c 0) (.v 6)),(.le (.v 6) (.len 4))],(.add (.mul (.c (-1)) (.v 6)) (.len 5))⟩)]
 |202=>[(202004,3,⟨[aI,aI],[(.le (.c 0) (.v 3)),(.le (.v 3) (.v 4)),(.le (.c 0) (.v 3)),(.le (.v 4) (.c mx)),(.le (.add (.v 4) (.c 0)) (.add (.v 3) (.c mx)))],(.sub (.v 4) (.v 3))⟩)]
 |221=>[(221008,31,⟨[.l 0 (some 100) [(0,99),(0,99),(1,100)],.i 0 1048575],[(.or (.eq (.len 31) (.c 0)) (.le (.v 32) (.c 100))),(.le (.add (.len 31) (.max (.v 22) (.sub (.ediv (.min (.min (.v 1) (.v 8)) (.v 15)) 256) (.c 1)))) (.add (.v 32) (.c 0))),(.le (.max (.v 22) (.sub (.ediv (.min (.min (.v 1) (.v 8)) (.v 15)) 256) (.c 1))) (.v 32))],(.add (.mul (.c (-1)) (.v 32)) (.add (.ediv (.max (.max (.v 1) (.v 8)) (.v 15)) 256) (.c 2)))⟩),(221012,33,⟨[.i (-4611686018427387905) 4611686018427387905,.i (-4611686018427387905) 4611686018427387905,.i 0 3],[(.or (.not (.lt (.v 33) (.v 34))) (.and (.le (.v 21) (.v 33)) (.le (.v 34) (.v 23)))),(.le (.c 0) (.v 35)),(.le (.v 35) (.len 29))],(.add (.mul (.c (-1)) (.v 35)) (.len 29))⟩)]
 |104106=>[(104003,8,⟨[.l 0 (some 10000) [cI,cI,cI,cI,cI,cI,cI,(1,mx)],.i 0 100],[(.le (.len 8) (.mul (.c 100) (.sub (.v 9) (.v 1)))),(.le (.v 1) (.v 9))],(.add (.mul (.c (-1)) (.v 9)) (.v 3))⟩),(104006,10,⟨[.l 0 (some 10000) [cI,cI,cI,cI,cI,cI,cI,(1,mx)],.i 0 100],[(.le (.len 10) (.add (.mul (.c 100) (.sub (.v 9) (.v 1))) (.sub (.v 11) (.v 0)))),(.le (.add (.len 10) (.v 0)) (.add (.v 11) (.len 8))),(.le (.v 0) (.v 11))],(.add (.mul (.c (-1)) (.v 11)) (.v 2))⟩)]
 |104150=>[(104003,7,⟨[.l 0 (some 10000) [(0,100),(0,100),cI,cI,cI,cI,cI,(1,mx)],.i 0 100],[(.le (.len 7) (.mul (.c 100) (.sub (.v 8) (.v 1)))),(.le (.v 1) (.v 8))],(.add (.mul (.c (-1)) (.v 8)) (.v 3))⟩),(104006,9,⟨[.l 0 (some 10000) [(0,100),(0,100),cI,cI,cI,cI,cI,(1,mx)],.i 0 100],[(.le (.len 9) (.add (.mul (.c 100) (.sub (.v 8) (.v 1))) (.sub (.v 10) (.v 0)))),(.le (.add (.len 9) (.v 0)) (.add (.v 10) (.len 7))),(.le (.v 0) (.v 10))],(.add (.mul (.c (-1)) (.v 10)) (.v 2))⟩)]
 |_=>[]
end Go.Sx
namespace Go.Proofs.YtohebioanhliiaaGreatDoor.aF
open Go.Sx
def kc(k:Nat):Cn:=match kI k with
 | some s=>let c:=ajh k (ach s)
   ⟨c.args.map A.cap,c.pre,c.res.map A.cap,c.post⟩
 |none=>⟨[],[],[],[]⟩
def an(k:Nat):An:=⟨lps k,tg k,if k=24\/k=18 then(1,12)else if k=19 then(1,0)else(mn,mx)⟩
end Go.Proofs.YtohebioanhliiaaGreatDoor.aF
namespace Go.Proofs.YtohebioanhliiaaGreatDoor.aF
open Go.Sx
def ord:List Nat:=[283,140,243,266,87,146,169,9,56,37,23,41,65,42,28,100,66,43,29,47,44,46,30,101,67,174,195,149,102,151,150,104150,103,107,106,104106,105,69,109,155,139,196,240,197,156,110,157,267,241,242,198,199,158,111,71,159,200,201,202,160,161,246,245,205245,163,204,244,203,112,164,165,210,211,247,250,251,284,268,207,208,166,168,170,213,171,172,113,72,114,115,117,173,73,118,119,214,215,216,175,121,120,220,176,269,252,270,271,253,221,222,272,273,254,223,224,225,177,122,123,124,74,152,153,154,108,18,186,132,133,80,57,59,135,136,137,84,86,88,187,143,141,90,91,144,188,145,92,93,94,134,193,232,233,235,264,236,265,237,262,24,12,55,11,21,13,14,25,15,26,16,99,64,40,27,17,34,20,19,10,3,4,5,6,7,8]
abbrev one(P:Program)(i k:Nat):Bool:=Pg (lZ P kH) kc an (ord.take i) k
def Kw(k i j:Nat):Option Cn:=match UG kc (ord.take i) j with
 |some c=>some (Va k j c)
 |none=>none
def Sw(k:Nat)(p:BE):Bool:=(ZH k).any p.beq
abbrev aat(P:Program)(i k:Nat):Bool:=match lZ P kH k with
 |some e=>Nat.ble (bare k (kc k)).args.length R0&&(yF (Kw k i) e.key (an k) (bare k (kc k)) (e.tree.strip (Sw k))).isEmpty
 |none=>false
def rowOf(k:Nat):nj:=(kW k kH).getD ⟨0,cB,[],⟨[],[],0⟩,[]⟩
def kd:Kind:=⟨58,31,128,33,178,[(1,[0,255]),(2,[0,1])]⟩
def xs:List Nat:=[283,140,243,266,87,146,169]
abbrev row(P:Program)(k:Nat):Bool:=Ml P kd kI kH xs k (rowOf k)&&(gO P (rowOf k)).na (bI (rowOf k).s.res)
abbrev part(P:Program)(i n:Nat):Bool:=C3 P (rowOf 24) (UG kc (ord.take i)) (iG.key ⟨24,.stuck "",(rowOf 24).sub⟩) (an 24) (kc 24) 94 n
abbrev rest(P:Program)(i:Nat):Bool:=Gq P (rowOf 24) (UG kc (ord.take i)) (iG.key ⟨24,.stuck "",(rowOf 24).sub⟩) (an 24) (kc 24) 94 33
end Go.Proofs.YtohebioanhliiaaGreatDoor.aF

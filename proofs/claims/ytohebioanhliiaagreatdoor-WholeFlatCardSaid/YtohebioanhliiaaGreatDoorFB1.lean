/- The functions' signatures, how each is walked, their contracts. -/
import Derived.Test.YtohebioanhliiaaGreatDoorFAK
import Derived.Test.YtohebioanhliiaaGreatDoorChecked
set_option maxRecDepth 100000
set_option linter.unusedVariables false
namespace Go
noncomputable abbrev PP:Program:=Proofs.Tryz.prog
end Go
namespace Go.Proofs.YtohebioanhliiaaGreatDoor.aN
open Go.Sx
abbrev i6:CK:=.i .i64
abbrev oI:VT:=.one (.c i6)
abbrev oB:VT:=.one (.c .b)
abbrev rp{α:Type}(n:Nat)(x:α):List α:=List.replicate n x
abbrev pV:List CT:=[.c i6,.c i6,.c i6,.s 3 [i6],.s 3 [i6],.c i6,.c i6,.c i6,.c i6,.c i6,.c i6,.c i6,.c i6,.c i6,.c i6,.s 138 (rp 16 (i6)),.s 138 (rp 16 (i6)),.c i6,.c i6,.c i6,.c i6,.c i6,.c i6,.c i6,.c i6,.c i6,.c i6,.c i6,.c i6,.c i6,.c i6,.c i6,.c i6,.c i6,.c i6,.c i6,.c i6,.c i6,.c i6,.c i6,.c i6,.c i6,.c i6,.c i6,.c i6,.c i6,.c i6,.c .b,.c .b,.c .b,.c .b,.c .b,.c .b,.c i6,.c i6,.c i6,.c i6,.c .b,.c .b,.c i6,.s 76 (rp 8 (i6)),.s 4 [.b],.c i6,.c .b,.c .b,.c i6,.c i6,.c i6,.c i6,.c i6,.c i6,.c i6,.c .b,.c i6,.c .b,.c i6,.c i6,.c .b,.c .b,.c .b,.c i6,.c i6,.c i6,.c i6,.c .b,.c i6,.c .b,.c .b,.c i6,.c i6,.c .b,.c .b,.c .b,.c .b]
abbrev fq:List CK:=[i6,i6,i6,i6,i6,i6,i6,i6]
def sg3:bX:=⟨[.agg [.c i6,.c i6],.agg [.c i6,.c i6],.agg [.c i6,.c i6]],[oB],0⟩
def sg4:bX:=⟨[.one (.n 85 [.c i6,.s 3 i6])],[oB],0⟩
def sg5:bX:=⟨[.one (.n 85 [.c i6,.s 3 i6])],[oB],0⟩
def sg6:bX:=⟨[.one (.n 85 [.c i6,.s 3 i6])],[oB],0⟩
def sg7:bX:=⟨[.one (.n 85 [.c i6,.s 3 i6]),.agg (rp 8 (.c (.i .i16)))],[oB],0⟩
def sg8:bX:=⟨[.one (.s 23 [i6,i6]),.agg [.c (.i .u8),.c (.i .u8),.c (.i .u8)],oB],[oB],0⟩
def sg9:bX:=⟨[.one (.s 23 [i6,i6]),oI],[oB],0⟩
def abI:bX:=⟨[],[oB],0⟩
def abJ:bX:=⟨[.agg (rp 7 (.c i6)),.agg (rp 7 (.c i6)),.agg (rp 7 (.c i6))],[oI],0⟩
def abK:bX:=⟨[.one (.n 85 [.c i6,.s 3 i6])],[.agg pV],0⟩
def abL:bX:=⟨[oI,oI],[.one (.n 85 [.c i6,.s 3 i6])],0⟩
def abM:bX:=⟨[oI,.one (.s 23 [i6,i6])],[.one (.n 85 [.c i6,.s 3 i6])],0⟩
def abN:bX:=⟨[.agg pV],[.one (.s 3 [i6])],0⟩
def abO:bX:=⟨[.agg [.c i6,.c i6,.s 3 [i6],.s 3 [i6]],.agg [.c i6,.c i6,.s 3 [i6],.s 3 [i6]]],[oB],0⟩
def abP:bX:=⟨[.one (.n 85 [.c i6,.s 3 i6])],[.agg pV,oB],0⟩
def abQ:bX:=⟨[.agg pV],[.one (.s 74 (rp 8 (i6))),oB],0⟩
def abR:bX:=⟨[.agg pV],[.agg [.c i6,.c i6,.s 3 [i6],.s 3 [i6]]],0⟩
def abS:bX:=⟨[.one (.s 74 (rp 8 (i6))),.one (.s 74 (rp 8 (i6)))],[oB],0⟩
def abT:bX:=⟨[oI,.one (.s 3 [i6])],[.agg [.c i6,.s 3 [i6]]],2⟩
def abU:bX:=⟨[],[.agg pV],0⟩
def abV:bX:=⟨[.agg pV,.agg [.c i6,.s 3 [i6]]],[.agg pV],94⟩
def abW:bX:=⟨[oI],[.agg [.c i6,.c i6,.c i6,.c i6]],0⟩
def abX:bX:=⟨[.agg [.c i6,.c i6,.s 3 [i6],.s 3 [i6]],.agg [.c i6,.c i6,.s 3 [i6],.s 3 [i6]]],[oB],0⟩
def abY:bX:=⟨[.one (.n 85 [.c i6,.s 3 i6]),oI,oI],[oB],0⟩
def V3:bX:=⟨[.agg pV],[.agg [.c i6,.c i6,.c i6,.c i6]],0⟩
def V4:bX:=⟨[.agg pV],[.one (.s 44 [i6,i6,i6,i6,i6])],0⟩
def V5:bX:=⟨[oI,.one (.s 4 [.b]),oB],[.one (.n 104 [.s 3 i6,.s 4 (.b),.c i6]),oI],0⟩
def abZ:bX:=⟨[.one (.s 74 (rp 8 (i6))),.one (.s 74 (rp 8 (i6)))],[oB],0⟩
def ab0:bX:=⟨[],[.agg [.c i6,.s 138 (rp 16 (i6)),.s 138 (rp 16 (i6))]],0⟩
def ab1:bX:=⟨[.agg [.c i6,.s 3 [i6]]],[oI],0⟩
def ab2:bX:=⟨[.agg [.c i6,.c i6,.s 3 [i6],.s 3 [i6]]],[.agg [.c i6,.c i6,.c i6,.c i6]],0⟩
def ab3:bX:=⟨[.agg [.c i6,.c i6,.c i6,.c i6],.agg [.c i6,.c i6,.c i6,.c i6]],[.agg [.c i6,.c i6,.c i6,.c i6]],0⟩
def ab4:bX:=⟨[.one (.s 44 [i6,i6,i6,i6,i6])],[.one (.s 44 [i6,i6,i6,i6,i6]),oI],0⟩
def ab5:bX:=⟨[.one (.s 4 [.b])],[.one (.n 104 [.s 3 i6,.s 4 (.b),.c i6])],0⟩
def ab6:bX:=⟨[oI,oI],[oI],0⟩
def ab7:bX:=⟨[.one (.s 3 [i6]),.one (.s 4 [.b]),oB],[.one (.s 4 [.b])],0⟩
def ab8:bX:=⟨[oI],[oI,oB],0⟩
def ab9:bX:=⟨[],[.agg (rp 16 (.c i6))],0⟩
def ab':bX:=⟨[.agg [.c i6,.s 3 [i6]]],[oI],0⟩
def aca:bX:=⟨[oB,oI],[oB],0⟩
def acb:bX:=⟨[oI],[.one (.s 146 [i6,i6]),oB],0⟩
def W0:bX:=⟨[.agg [.c i6,.c i6,.c i6,.c i6]],[oB],0⟩
def acd:bX:=⟨[.agg [.c i6,.c i6,.c i6,.c i6,.c i6]],[oB],0⟩
def VW:bX:=⟨[.agg [.c i6,.c i6,.c i6,.c i6,.c i6],.agg (rp 8 (.c i6))],[oI],0⟩
def VX:bX:=⟨[.agg (rp 7 (.c i6)),oI,oI,.agg [.c i6,.c i6,.c i6,.c i6]],[.one (.s 74 (rp 8 (i6)))],0⟩
def VY:bX:=⟨[.agg (rp 8 (.c i6)),.agg (rp 8 (.c i6)),.one (.s 44 [i6,i6,i6,i6,i6])],[.agg (rp 8 (.c i6)),.agg (rp 8 (.c i6)),oB],0⟩
def VZ:bX:=⟨[.agg (rp 7 (.c i6)),.agg (rp 7 (.c i6)),.agg ([.c i6,.c .b,.c .b]++rp 7 (.c i6)++[.c .b,.c i6,.c .b,.c i6,.c i6]),.agg [.c i6,.c i6,.c i6],.agg [.c i6,.c i6,.c i6,.c i6]],[.one (.s 74 (rp 8 (i6))),.agg [.c i6,.c i6,.c i6]],0⟩
def V0:bX:=⟨[.one (.s 76 (rp 8 (i6))),.one (.s 4 [.b]),.one (.s 44 [i6,i6,i6,i6,i6])],[.one (.s 76 (rp 8 (i6))),.one (.s 4 [.b]),oI],0⟩
def V2:bX:=⟨[.one (.s 30 (rp 7 (i6))),.one (.s 4 [.b]),.agg ([.c i6,.c .b,.c .b]++rp 7 (.c i6)++[.c .b,.c i6,.c .b,.c i6,.c i6]),.agg [.c i6,.c i6,.c i6,.c i6]],[.one (.s 74 (rp 8 (i6)))],0⟩
def ace:bX:=⟨[oI],[.one (.s 146 [i6,i6]),oB],0⟩
def acf:bX:=⟨[.agg [.c i6,.c i6,.s 3 [i6],.s 3 [i6]],.agg [.c i6,.c i6,.c i6,.c i6],oI,.agg [.c i6,.c i6,.c i6,.c i6],oI,.agg [.c .b,.c .b,.c .b,.c .b]],[.agg [.c i6,.c i6,.s 3 [i6],.s 3 [i6]]],0⟩
def acg:bX:=⟨[oI,oI,oI,oI],[.agg [.c i6,.c i6,.c i6,.c i6],oB],0⟩
def Xo:bX:=⟨[.one (.c (.f)),oI],[oI,oI],0⟩
def ach:bX:=⟨[oI],[.one (.c (.f))],0⟩
def aci:bX:=⟨[.agg [.c i6,.s 138 (rp 16 (i6)),.s 138 (rp 16 (i6))],oI],[.agg [.c i6,.s 138 (rp 16 (i6)),.s 138 (rp 16 (i6))],oI],0⟩
def acj:bX:=⟨[.agg [.c i6,.s 138 (rp 16 (i6)),.s 138 (rp 16 (i6))],.agg (rp 16 (.c i6))],[.agg [.c i6,.s 138 (rp 16 (i6)),.s 138 (rp 16 (i6))],oI],0⟩
def ack:bX:=⟨[.agg [.c i6,.s 138 (rp 16 (i6)),.s 138 (rp 16 (i6))],.agg (rp 16 (.c i6))],[.agg [.c i6,.s 138 (rp 16 (i6)),.s 138 (rp 16 (i6))],oI],0⟩
def acm:bX:=⟨[.agg [.c i6,.s 138 (rp 16 (i6)),.s 138 (rp 16 (i6))]],[.agg [.c i6,.s 138 (rp 16 (i6)),.s 138 (rp 16 (i6))],oI],0⟩
def acn:bX:=⟨[.agg [.c i6,.s 138 (rp 16 (i6)),.s 138 (rp 16 (i6))]],[.agg [.c i6,.s 138 (rp 16 (i6)),.s 138 (rp 16 (i6))],oI],0⟩
def aco:bX:=⟨[],[.one (.n 34 [.s 3 i6])],0⟩
def RW:bX:=⟨[oI,oI],[oB],0⟩
def RX:bX:=⟨[.agg (rp 8 (.c i6))],[.agg [.c i6,.c i6,.c i6,.c i6]],0⟩
def RY:bX:=⟨[.agg (rp 7 (.c i6)),oI,oI],[oB],0⟩
def RZ:bX:=⟨[.agg (rp 7 (.c i6)),oI,.agg [.c i6,.c i6,.c i6,.c i6]],[.one (.s 74 (rp 8 (i6)))],0⟩
def R3:bX:=⟨[.agg (rp 7 (.c i6)),oI],[.agg [.c i6,.c i6,.c i6,.c i6]],0⟩
def R4:bX:=⟨[oI,oI,.ptr 2 [i6],.ptr 2 [i6],.ptr 2 [i6]],[.agg (rp 8 (.c i6))],0⟩
def R5:bX:=⟨[oI,oI],[oI],0⟩
def KX:bX:=⟨[.agg (rp 8 (.c i6)),.agg [.c i6,.c i6,.c i6,.c i6]],[.agg (rp 7 (.c i6)),oI],0⟩
def R6:bX:=⟨[.agg [.c i6,.c i6,.c i6,.c i6,.c i6],.agg (rp 8 (.c i6)),.agg (rp 8 (.c i6))],[oI,oI,oI],0⟩
def R7:bX:=⟨[.agg [.c i6,.c i6],.agg [.c i6,.c i6]],[oB],0⟩
def R8:bX:=⟨[.agg (rp 8 (.c i6)),.agg (rp 8 (.c i6)),oI,oI],[.agg (rp 8 (.c i6)),oI],0⟩
def R9:bX:=⟨[.agg (rp 7 (.c i6)),.agg (rp 7 (.c i6)),oI,.agg [.c i6,.c i6,.c i6,.c i6]],[.one (.s 74 (rp 8 (i6)))],0⟩
def Sa:bX:=⟨[.agg (rp 7 (.c i6)),.agg (rp 7 (.c i6)),oI,oB,.agg [.c i6,.c i6,.c i6],.agg [.c i6,.c i6,.c i6,.c i6]],[.one (.s 74 (rp 8 (i6))),.agg [.c i6,.c i6,.c i6]],0⟩
def Sc:bX:=⟨[.one (.s 76 (rp 8 (i6))),.one (.s 4 [.b]),.one (.s 44 [i6,i6,i6,i6,i6])],[oB],0⟩
def Sd:bX:=⟨[.one (.s 76 (rp 8 (i6))),.one (.s 4 [.b])],[.one (.s 279 (rp 9 (i6)++[.b]))],0⟩
def Se:bX:=⟨[.one (.s 279 (rp 9 (i6)++[.b]))],[.one (.s 76 (rp 8 (i6))),.one (.s 4 [.b])],0⟩
def Sg:bX:=⟨[.agg [.s 30 (rp 7 (i6)),.s 4 [.b],.c i6,.c .b,.c .b,.c i6,.c i6,.c i6,.c i6,.c i6,.c i6,.c i6,.c .b,.c i6,.c .b,.c i6,.c i6,.c i6,.c i6,.c i6,.c i6]],[oB],0⟩
def Sh:bX:=⟨[.agg ([.c i6,.c .b,.c .b]++rp 7 (.c i6)++[.c .b,.c i6,.c .b,.c i6,.c i6])],[oB],0⟩
def Si:bX:=⟨[.one (.s 30 (rp 7 (i6))),.agg ([.c i6,.c .b,.c .b]++rp 7 (.c i6)++[.c .b,.c i6,.c .b,.c i6,.c i6])],[oB],0⟩
def Sj:bX:=⟨[.one (.s 30 (rp 7 (i6))),oB],[oB],0⟩
def Sl:bX:=⟨[.agg [.s 30 (rp 7 (i6)),.s 4 [.b],.c i6,.c .b,.c .b,.c i6,.c i6,.c i6,.c i6,.c i6,.c i6,.c i6,.c .b,.c i6,.c .b,.c i6,.c i6,.c i6,.c i6,.c i6,.c i6]],[.one (.s 74 (rp 8 (i6)))],0⟩
def Sm:bX:=⟨[.agg [.s 30 (rp 7 (i6)),.s 4 [.b],.c i6,.c .b,.c .b,.c i6,.c i6,.c i6,.c i6,.c i6,.c i6,.c i6,.c .b,.c i6,.c .b,.c i6,.c i6,.c i6,.c i6,.c i6,.c i6]],[.one (.s 74 (rp 8 (i6)))],0⟩
def Sn:bX:=⟨[.agg [.s 30 (rp 7 (i6)),.s 4 [.b],.c i6,.c .b,.c .b,.c i6,.c i6,.c i6,.c i6,.c i6,.c i6,.c i6,.c .b,.c i6,.c .b,.c i6,.c i6,.c i6,.c i6,.c i6,.c i6]],[.one (.s 74 (rp 8 (i6)))],0⟩
def So:bX:=⟨[oI],[.one (.s 146 [i6,i6]),oB],0⟩
def Sp:bX:=⟨[oI],[.one (.s 146 [i6,i6]),oB],0⟩
def Sq:bX:=⟨[oI,oI],[.agg [.c i6,.c i6,.s 3 [i6],.s 3 [i6]],oI],0⟩
def Sr:bX:=⟨[.agg [.c i6,.c i6,.s 3 [i6],.s 3 [i6]]],[.agg [.c i6,.c i6,.s 3 [i6],.s 3 [i6]]],0⟩
def Ss:bX:=⟨[.agg [.c .b,.c .b,.c .b,.c .b]],[oI],0⟩
def Su:bX:=⟨[.agg [.c i6,.c i6,.c i6,.c i6]],[oI],0⟩
def Sv:bX:=⟨[.one (.c (.i .u64)),.one (.c (.i .u64))],[.one (.c (.i .u64)),.one (.c (.i .u64))],0⟩
def K3:bX:=⟨[.one (.c (.i .u64))],[.one (.c (.f))],0⟩
def Sy:bX:=⟨[.agg [.c i6,.s 138 (rp 16 (i6)),.s 138 (rp 16 (i6))]],[oB],0⟩
def SA:bX:=⟨[.agg (rp 16 (.c i6))],[oB],0⟩
def SB:bX:=⟨[.agg [.c i6,.s 138 (rp 16 (i6)),.s 138 (rp 16 (i6))],oI],[.agg (rp 16 (.c i6)),oI],0⟩
def SC:bX:=⟨[.agg (rp 16 (.c i6)),.agg (rp 16 (.c i6))],[.agg (rp 16 (.c i6)),oI],0⟩
def K5:bX:=⟨[.one (.c (.f)),oI,oI],[oI,oI],0⟩
def SD:bX:=⟨[.agg (rp 7 (.c i6)),.agg (rp 7 (.c i6)),oI,.agg [.c i6,.c i6,.c i6]],[oB],0⟩
def SE:bX:=⟨[oI,oI,.ptr 2 [i6],.ptr 2 [i6]],[.agg (rp 8 (.c i6))],0⟩
def SF:bX:=⟨[.agg (rp 7 (.c i6)),oI,oI,oI],[oI],0⟩
def SG:bX:=⟨[.agg [.c i6,.c i6,.c i6,.c i6]],[oB],0⟩
def SH:bX:=⟨[.agg (rp 8 (.c i6))],[oB],0⟩
def SI:bX:=⟨[oI,oI],[oI],0⟩
def SJ:bX:=⟨[.agg [.c i6,.c (.i .u64)],.agg [.c i6,.c (.i .u64)]],[oI],0⟩
def SK:bX:=⟨[oI,oI],[.agg [.c i6,.c (.i .u64)]],0⟩
def SL:bX:=⟨[.agg (rp 8 (.c i6))],[oB],0⟩
def SM:bX:=⟨[oI,oI,oI,oI],[oI],0⟩
def SN:bX:=⟨[.agg (rp 7 (.c i6)),.agg (rp 7 (.c i6)),oI],[oB],0⟩
def SO:bX:=⟨[.agg (rp 7 (.c i6)),.agg (rp 7 (.c i6)),oI],[.agg (rp 7 (.c i6))],0⟩
def SP:bX:=⟨[.agg (rp 7 (.c i6)),.agg (rp 7 (.c i6)),oI,.agg [.c i6,.c i6,.c i6,.c i6]],[oI,oI],0⟩
def SQ:bX:=⟨[.agg (rp 7 (.c i6)),.agg (rp 7 (.c i6)),oI,oI],[oI,.agg [.c i6,.c i6,.c i6,.c i6]],0⟩
def SR:bX:=⟨[.agg (rp 7 (.c i6)),.agg (rp 7 (.c i6)),oI],[.agg [.c i6,.c i6,.c i6,.c i6,.c .b]],0⟩
def SS:bX:=⟨[.agg [.c i6,.c i6,.c i6],oI],[.agg [.c i6,.c i6,.c i6]],0⟩
def SU:bX:=⟨[.agg [.c i6,.c i6],.agg [.c i6,.c i6]],[oI],0⟩
def Lw:bX:=⟨[.agg [.c i6,.c i6,.c i6,.c i6],oI,oI],[oB],0⟩
def B4:bX:=⟨[.agg [.c i6,.c i6],.agg [.c i6,.c i6],.agg [.c i6,.c i6,.c i6,.c i6]],[.one (.s 276 [i6,i6,i6])],0⟩
def SW:bX:=⟨[.agg [.c i6,.c i6,.c i6,.c i6,.c .b],.agg [.c i6,.c i6,.c i6,.c i6],oI],[.agg [.c i6,.c i6,.c i6,.c i6]],0⟩
def SX:bX:=⟨[.agg [.c i6,.c i6,.c i6],oI],[oB],0⟩
def SY:bX:=⟨[.agg (rp 7 (.c i6)),.agg (rp 7 (.c i6)),oI,oI],[oI,.agg [.c i6,.c i6,.c i6,.c i6]],0⟩
def SZ:bX:=⟨[.agg (rp 9 (.c i6)++[.c .b]),.agg (rp 9 (.c i6)++[.c .b]),oB],[.agg (rp 9 (.c i6)++[.c .b])],0⟩
def S0:bX:=⟨[.agg [.c i6,.c i6,.c i6]],[oB],0⟩
def S1:bX:=⟨[.one (.s 30 (rp 7 (i6)))],[oI],0⟩
def S2:bX:=⟨[.agg (rp 7 (.c i6)),.agg (rp 7 (.c i6)),.agg (rp 7 (.c i6)),oI,oI],[oI],0⟩
def S3:bX:=⟨[.agg (rp 7 (.c i6)),.agg (rp 7 (.c i6)),.agg (rp 7 (.c i6)),oI,.agg [.c i6,.c i6,.c i6,.c i6]],[.one (.s 74 (rp 8 (i6)))],0⟩
def S4:bX:=⟨[oI,.agg [.c i6,.c i6]],[.one (.s 146 [i6,i6])],0⟩
def S5:bX:=⟨[oI,oI],[oB],0⟩
def S6:bX:=⟨[.ptr 3 [i6],oI,.ptr 3 [i6]],[oI],0⟩
def S7:bX:=⟨[.agg (rp 16 (.c i6)),.agg [.c i6,.c i6,.c i6,.c i6],oI],[.agg [.c i6,.c i6,.c i6,.c i6],oI],0⟩
def S8:bX:=⟨[.agg (rp 7 (.c i6))],[oB],0⟩
def S9:bX:=⟨[oI],[.one (.c (.i .u64))],0⟩
def Ta:bX:=⟨[.one (.c (.i .u64)),.one (.c (.i .u64)),oB],[.agg [.c i6,.c (.i .u64)],oB],0⟩
def Tb:bX:=⟨[.agg [.c i6,.c (.i .u64)],oI],[.agg [.c i6,.c (.i .u64)],oI,oB],0⟩
def Tc:bX:=⟨[.agg [.c i6,.c (.i .u64)]],[oI,oB],0⟩
def Td:bX:=⟨[.agg [.c i6,.c (.i .u64)],oI],[.agg [.c i6,.c (.i .u64)],oB],0⟩
def Te:bX:=⟨[oI],[.agg [.c i6,.c (.i .u64)]],0⟩
def Tf:bX:=⟨[.agg [.c i6,.c (.i .u64)]],[oI,oB],0⟩
def Tg:bX:=⟨[.agg (rp 7 (.c i6)),oI,oI,oI],[oI,oI],0⟩
def Th:bX:=⟨[oI,oI],[oI],0⟩
def Lq:bX:=⟨[.agg [.c i6,.c i6],.agg [.c i6,.c i6]],[.ptr 323 [i6,i6,i6,i6,.b,i6,i6,i6,.b,.b,i6,i6]],0⟩
def Ti:bX:=⟨[.ptr 323 [i6,i6,i6,i6,.b,i6,i6,i6,.b,.b,i6,i6]],[oI],0⟩
def Lr:bX:=⟨[.ptr 323 [i6,i6,i6,i6,.b,i6,i6,i6,.b,.b,i6,i6]],[oI],0⟩
def Ls:bX:=⟨[.ptr 323 [i6,i6,i6,i6,.b,i6,i6,i6,.b,.b,i6,i6]],[oI],0⟩
def Tj:bX:=⟨[oI,oI],[oB],0⟩
def Tk:bX:=⟨[.agg [.c i6,.c (.i .u64)],.agg [.c i6,.c (.i .u64)]],[.agg [.c i6,.c (.i .u64)],oB],0⟩
def Tl:bX:=⟨[.agg (rp 7 (.c i6)),.agg (rp 7 (.c i6)),.agg (rp 7 (.c i6))],[oI],0⟩
def Tm:bX:=⟨[.agg [.c i6,.c (.i .u64)]],[oI],0⟩
def Tn:bX:=⟨[.agg [.c i6,.c (.i .u64)],.agg [.c i6,.c (.i .u64)]],[.agg [.c i6,.c (.i .u64)]],0⟩
def To:bX:=⟨[.agg (rp 7 (.c i6)),.agg (rp 7 (.c i6)),.agg (rp 7 (.c i6)),.agg [.c i6,.c i6,.c i6,.c i6]],[.one (.s 344 [i6,i6,i6])],0⟩
def Tp:bX:=⟨[.agg (rp 7 (.c i6)),.agg (rp 7 (.c i6)),.agg (rp 7 (.c i6))],[.agg (rp 22 (.c i6))],0⟩
def Tq:bX:=⟨[.agg (rp 22 (.c i6))],[.agg [.c i6,.c (.i .u64),.c i6,.c (.i .u64),.c i6,.c (.i .u64),.c i6,.c i6,.c (.i .u64),.c i6,.c (.i .u64),.c i6,.c (.i .u64),.c i6,.c i6,.c (.i .u64),.c i6,.c (.i .u64),.c i6,.c (.i .u64),.c i6,.c i6,.c (.i .u64),.c i6,.c (.i .u64),.c i6,.c (.i .u64),.c i6,.c i6,.c (.i .u64),.c i6,.c (.i .u64),.c i6,.c (.i .u64),.c i6]],0⟩
def Tr:bX:=⟨[.agg [.c i6,.c (.i .u64),.c i6,.c (.i .u64),.c i6,.c (.i .u64),.c i6],oI,oI],[.agg [.c i6,.c (.i .u64)]],0⟩
def Ts:bX:=⟨[.agg [.c i6,.c (.i .u64),.c i6,.c (.i .u64),.c i6,.c (.i .u64),.c i6],.agg [.c i6,.c (.i .u64)]],[oI],0⟩
def Tt:bX:=⟨[.agg [.c .b,.c i6,.c i6,.c i6,.c i6,.c .b,.c i6,.c .b,.c .b,.c i6,.c i6,.c .b,.c .b,.c .b,.c .b]],[oB],0⟩
def Tu:bX:=⟨[.agg (rp 8 (.c i6))],[oB],0⟩
def Tv:bX:=⟨[.agg [.c i6,.c i6,.c i6,.c i6],oI],[.agg [.c i6,.c i6,.c i6,.c i6]],0⟩
def Tw:bX:=⟨[.agg [.c i6,.c i6,.s 3 [i6],.s 3 [i6]],oI,oI],[.agg [.c i6,.c i6,.c i6,.c i6],oI,oB],0⟩
def Tx:bX:=⟨[.agg [.c i6,.c i6,.c i6,.c i6],.agg [.c i6,.c i6,.c i6,.c i6],oI,oI],[.agg [.c i6,.c i6,.c i6,.c i6]],0⟩
def Ty:bX:=⟨[.agg [.c i6,.c (.i .u64)]],[.agg [.c i6,.c (.i .u64)]],0⟩
def Tz:bX:=⟨[.one (.c (.i .u64)),.one (.c (.i .u64)),.one (.c (.i .u64))],[.one (.c (.i .u64)),.one (.c (.i .u64))],0⟩
def TA:bX:=⟨[.agg [.c i6,.c (.i .u64)],.agg [.c i6,.c (.i .u64)]],[.agg [.c i6,.c (.i .u64)],oB],0⟩
def KZ:bX:=⟨[.one (.c (.i .u64)),.one (.c (.i .u64)),.one (.c (.i .u64))],[.one (.c (.i .u64)),.one (.c (.i .u64))],0⟩
def TB:bX:=⟨(rp 6 (oI)),[oI,oI],0⟩
def TC:bX:=⟨[oI,oI,.ptr 2 [i6],.ptr 2 [i6]],[oI],0⟩
def TD:bX:=⟨[oI,oI,oI,oI],[oI],0⟩
def TE:bX:=⟨[oI],[oI],0⟩
def Lt:bX:=⟨[.ptr 323 [i6,i6,i6,i6,.b,i6,i6,i6,.b,.b,i6,i6],oI],[oI,oI],0⟩
def Lu:bX:=⟨[.ptr 323 [i6,i6,i6,i6,.b,i6,i6,i6,.b,.b,i6,i6],oI],[oI],0⟩
def TF:bX:=⟨[.agg (rp 7 (.c i6)),.agg (rp 7 (.c i6)),.agg (rp 7 (.c i6))],[.one (.s 369 [i6,i6,i6,i6,i6])],0⟩
def TG:bX:=⟨[.agg [.c i6,.c i6,.c i6,.c i6,.c i6],oI,oI,oI],[oI,oI],0⟩
def TH:bX:=⟨[.agg (rp 22 (.c i6)),.agg [.c i6,.c i6,.c i6]],[.agg [.c i6,.c (.i .u64),.c i6,.c (.i .u64),.c i6,.c (.i .u64),.c i6]],0⟩
def TI:bX:=⟨[oI,oI,oI],[oB],0⟩
def TJ:bX:=⟨[oI],[.agg [.c i6,.c i6,.c i6,.c i6]],0⟩
def TK:bX:=⟨[oI,.agg [.c i6,.c i6,.c i6,.c i6],.agg [.c i6,.c i6,.c i6,.c i6],oI],[oI],0⟩
def K2:bX:=⟨[.one (.c (.i .u64)),.one (.c (.i .u64)),.one (.c (.i .u64))],[.one (.c (.i .u64)),.one (.c (.i .u64))],0⟩
def TL:bX:=⟨[.one (.c (.i .u64))],[oI],0⟩
def TM:bX:=⟨[.ptr 323 [i6,i6,i6,i6,.b,i6,i6,i6,.b,.b,i6,i6],.agg [.c i6,.c i6]],[oI,oI,oB],0⟩
def TN:bX:=⟨[.agg (rp 7 (.c i6)),.agg (rp 7 (.c i6))],[.agg [.c i6,.c i6,.c i6,.c i6,.c i6]],0⟩
def TO:bX:=⟨[.agg [.c i6,.c i6,.c i6,.c i6,.c i6],oI,oI],[oI],0⟩
def TP:bX:=⟨[oI,oI],[oI],0⟩
def TQ:bX:=⟨[.agg (rp 22 (.c i6)),oI,oI],[.agg [.c i6,.c i6,.c i6]],0⟩
def TR:bX:=⟨[.agg [.c i6,.c i6,.c i6],.agg [.c i6,.c i6,.c i6]],[.agg [.c i6,.c (.i .u64)]],0⟩
def Lo:bX:=⟨[.one (.c (.i .u64))],[oI],0⟩
def TS:bX:=⟨[.agg [.c i6,.c i6]],[oI,oI,oB],0⟩
def yM:bX:=⟨[.agg [.c i6,.c i6,.c i6,.c i6],.fn 106 [(2,.i64),(2,.i64),(2,.i64)]],[.one (.s 74 (rp 8 (i6)))],0⟩
def yN:bX:=⟨[.agg [.c i6,.c i6,.c i6,.c i6],.fn 150 [(2,.i64),(2,.i64)]],[.one (.s 74 (rp 8 (i6)))],0⟩
def uR:bX:=⟨[.agg (rp 7 (.c i6)),.agg (rp 7 (.c i6)),.fn 245 [(2,.i64),(2,.i64)]],[oI,.agg [.c i6,.c i6,.c i6,.c i6]],0⟩
def bh:List (FuncId×bX):=[(3,sg3),(4,sg4),(5,sg5),(6,sg6),(7,sg7),(8,sg8),(9,sg9),(10,abI),(11,abJ),(12,abK),(13,abL),(14,abM),(15,abN),(16,abO),(17,abP),(18,abQ),(19,abR),(20,abS),(21,abT),(23,abU),(24,abV),(25,abW),(26,abX),(27,abY),(28,V3),(29,V4),(30,V5),(34,abZ),(37,ab0),(40,ab1),(41,ab2),(42,ab3),(43,ab4),(44,ab5),(46,ab6),(47,ab7),(55,ab8),(56,ab9),(57,ab'),(59,aca),(64,acb),(65,W0),(66,acd),(67,VW),(69,VX),(71,VY),(72,VZ),(73,V0),(74,V2),(80,ace),(84,acf),(86,acg),(87,Xo),(88,ach),(90,aci),(91,acj),(92,ack),(93,acm),(94,acn),(99,aco),(100,RW),(101,RX),(102,RY),(103,RZ),(105,R3),(106,R4),(107,R5),(108,KX),(109,R6),(110,R7),(111,R8),(112,R9),(113,Sa),(114,Sc),(115,Sd),(117,Se),(118,Sg),(119,Sh),(120,Si),(121,Sj),(122,Sl),(123,Sm),(124,Sn),(132,So),(133,Sp),(134,Sq),(135,Sr),(136,Ss),(137,Su),(139,Sv),(140,K3),(141,Sy),(143,SA),(144,SB),(145,SC),(146,K5),(149,SD),(150,SE),(151,SF),(152,SG),(153,SH),(154,SI),(155,SJ),(156,SK),(157,SL),(158,SM),(159,SN),(160,SO),(161,SP),(163,SQ),(164,SR),(165,SS),(166,SU),(168,Lw),(169,B4),(170,SW),(171,SX),(172,SY),(173,SZ),(174,S0),(175,S1),(176,S2),(177,S3),(186,S4),(187,S5),(188,S6),(193,S7),(195,S8),(196,S9),(197,Ta),(198,Tb),(199,Tc),(200,Td),(201,Te),(202,Tf),(203,Tg),(204,Th),(207,Lq),(208,Ti),(210,Lr),(211,Ls),(213,Tj),(214,Tk),(215,Tl),(216,Tm),(220,Tn),(221,To),(222,Tp),(223,Tq),(224,Tr),(225,Ts),(232,Tt),(233,Tu),(235,Tv),(236,Tw),(237,Tx),(240,Ty),(241,Tz),(242,TA),(243,KZ),(244,TB),(245,TC),(246,TD),(247,TE),(250,Lt),(251,Lu),(252,TF),(253,TG),(254,TH),(262,TI),(264,TJ),(265,TK),(266,K2),(267,TL),(268,TM),(269,TN),(270,TO),(271,TP),(272,TQ),(273,TR),(283,Lo),(284,TS)]
def cB:lg:=⟨fun _=>none,false,[],[(30007,0,9),(46009,0,9),(93003,0,2),(94003,0,2),(91004,0,2),(144003,3,2),(262004,0,8),(74007,10,3),(74007,11,3)],[248,116,162,167,206,263,142,45,217,218,219,275,276,277,278,279,280,281,282,33,49,50,51,68,70,39,60,61,62,63,82,83,85,89,95,96,97,98,147,148,194,234,238,239],(some 58),(some 31),128,33,[(61003,([11],[])),(61005,([11],[])),(61007,([11],[])),(61013,([6],[])),(61015,([6,12],[4200])),(98003,([8],[])),(19001,([2],[])),(49006,([21],[])),(33014,([7],[])),(51008,([13],[]))],[],[(1,[0,255]),(2,[0,1])],none,(some 178),[123],none,[]⟩
def cT:List (FuncId×Nat):=[(104106,999999),(104150,999999),(205245,999999)]
def lK:List (Nat×oe):=[(9,⟨9,{cB with loops:=[(9004,⟨[],[],[],[],[]⟩)] },bh,sg9,cT⟩),
(56,⟨56,cB,bh,ab9,cT⟩),
(37,⟨37,cB,bh,ab0,cT⟩),
(23,⟨23,cB,bh,abU,cT⟩),
(41,⟨41,cB,bh,ab2,cT⟩),
(65,⟨65,{cB with loops:=[(65003,⟨[],[],[],[],[]⟩)] },bh,W0,cT⟩),
(42,⟨42,cB,bh,ab3,cT⟩),
(28,⟨28,cB,bh,V3,cT⟩),
(100,⟨100,cB,bh,RW,cT⟩),
(66,⟨66,cB,bh,acd,cT⟩),
(43,⟨43,{cB with loops:=[(43005,⟨[],[(4,44,[i6,i6,i6,i6,i6])],[],[],[]⟩),(43010,⟨[],[(4,44,[i6,i6,i6,i6,i6])],[],[],[]⟩)] },bh,ab4,cT⟩),
(29,⟨29,{cB with loops:=[(29003,⟨[],[(3,44,[i6,i6,i6,i6,i6])],[],[],[]⟩)] },bh,V4,cT⟩),
(47,⟨47,{cB with loops:=[(47005,⟨[],[(7,4,[.b])],[],[],[]⟩)] },bh,ab7,cT⟩),
(44,⟨44,{cB with loops:=[(44005,⟨[],[],[1],[],[]⟩)] },bh,ab5,cT⟩),
(46,⟨46,cB,bh,ab6,cT⟩),
(30,⟨30,{cB with loops:=[(30010,⟨[],[],[],[(9,104,[.s 3 i6,.s 4 (.b),.c i6])],[]⟩),(30017,⟨[],[],[19],[],[]⟩)] },bh,V5,cT⟩),
(101,⟨101,cB,bh,RX,cT⟩),
(67,⟨67,{cB with hO:=true},bh,VW,cT⟩),
(174,⟨174,cB,bh,S0,cT⟩),
(195,⟨195,{cB with hO:=true},bh,S8,cT⟩),
(149,⟨149,cB,bh,SD,cT⟩),
(102,⟨102,cB,bh,RY,cT⟩),
(151,⟨151,{cB with loops:=[(151003,⟨[],[],[],[],[]⟩),(151008,⟨[],[],[],[],[]⟩)] },bh,SF,cT⟩),
(150,⟨150,cB,bh,SE,cT⟩),
(104150,⟨104,{cB with loops:=[(104003,⟨[],[(5,74,fq)],[],[],[]⟩),(104006,⟨[],[(5,74,fq)],[],[],[]⟩)] },bh,yN,cT⟩),
(103,⟨103,cB,[(104,yN)]++bh,RZ,[(104,104150)]++cT⟩),
(107,⟨107,cB,bh,R5,cT⟩),
(106,⟨106,cB,bh,R4,cT⟩),
(104106,⟨104,{cB with loops:=[(104003,⟨[],[(5,74,fq)],[],[],[]⟩),(104006,⟨[],[(5,74,fq)],[],[],[]⟩)] },bh,yM,cT⟩),
(105,⟨105,cB,bh,R3,cT⟩),
(69,⟨69,cB,[(104,yM)]++bh,VX,[(104,104106)]++cT⟩),
(109,⟨109,{cB with hO:=true},bh,R6,cT⟩),
(155,⟨155,cB,bh,SJ,cT⟩),
(139,⟨139,{cB with hO:=true},bh,Sv,cT⟩),
(196,⟨196,{cB with hO:=true},bh,S9,cT⟩),
(240,⟨240,{cB with hO:=true},bh,Ty,cT⟩),
(197,⟨197,{cB with hO:=true},bh,Ta,cT⟩),
(156,⟨156,cB,bh,SK,cT⟩),
(110,⟨110,cB,bh,R7,cT⟩),
(157,⟨157,cB,bh,SL,cT⟩),
(267,⟨267,cB,bh,TL,cT⟩),
(241,⟨241,{cB with hO:=true,loops:=[(241017,⟨[],[],[],[],[]⟩),(241024,⟨[],[],[],[],[]⟩)] },bh,Tz,cT⟩),
(242,⟨242,{cB with hO:=true},bh,TA,cT⟩),
(198,⟨198,{cB with hO:=true},bh,Tb,cT⟩),
(199,⟨199,{cB with hO:=true},bh,Tc,cT⟩),
(158,⟨158,{cB with hO:=true},bh,SM,cT⟩),
(111,⟨111,cB,bh,R8,cT⟩),
(71,⟨71,{cB with loops:=[(71003,⟨[(21,0),(21,1),(22,0),(22,1)],[],[],[],[]⟩)] },bh,VY,cT⟩),
(159,⟨159,cB,bh,SN,cT⟩),
(200,⟨200,{cB with hO:=true},bh,Td,cT⟩),
(201,⟨201,{cB with hO:=true},bh,Te,cT⟩),
(202,⟨202,{cB with loops:=[(202004,⟨[],[],[],[],[]⟩)] },bh,Tf,cT⟩),
(160,⟨160,cB,bh,SO,cT⟩),
(161,⟨161,cB,bh,SP,cT⟩),
(246,⟨246,{cB with hO:=true},bh,TD,cT⟩),
(245,⟨245,cB,bh,TC,cT⟩),
(205245,⟨205,cB,bh,uR,cT⟩),
(163,⟨163,cB,[(205,uR)]++bh,SQ,[(205,205245)]++cT⟩),
(204,⟨204,{cB with hO:=true},bh,Th,cT⟩),
(244,⟨244,{cB with hO:=true},bh,TB,cT⟩),
(203,⟨203,{cB with hO:=true},bh,Tg,cT⟩),
(112,⟨112,{cB with hO:=true,loops:=[(112012,⟨[],[(12,74,fq)],[32],[],[]⟩),(112017,⟨[],[(12,74,fq)],[],[],[]⟩),(162003,⟨[],[],[32],[],[]⟩),(162008,⟨[],[],[32],[],[]⟩)] },bh,R9,cT⟩),
(164,⟨164,cB,bh,SR,cT⟩),
(165,⟨165,cB,bh,SS,cT⟩),
(210,⟨210,cB,bh,Lr,cT⟩),
(211,⟨211,cB,bh,Ls,cT⟩),
(247,⟨247,cB,bh,TE,cT⟩),
(250,⟨250,cB,bh,Lt,cT⟩),
(251,⟨251,cB,bh,Lu,cT⟩),
(284,⟨284,cB,bh,TS,cT⟩),
(268,⟨268,cB,bh,TM,cT⟩),
(207,⟨207,cB,bh,Lq,cT⟩),
(208,⟨208,cB,bh,Ti,cT⟩),
(166,⟨166,cB,bh,SU,cT⟩),
(168,⟨168,cB,bh,Lw,cT⟩),
(170,⟨170,cB,bh,SW,cT⟩),
(213,⟨213,cB,bh,Tj,cT⟩),
(171,⟨171,cB,bh,SX,cT⟩),
(172,⟨172,cB,[(205,uR)]++bh,SY,[(205,205245)]++cT⟩),
(113,⟨113,{cB with loops:=[(113012,⟨[],[(105,74,fq)],[],[],[]⟩),(113018,⟨[(7214,0),(7214,1),(4139,0),(4139,1)],[(116,74,fq)],[],[],[]⟩)] },bh,Sa,cT⟩),
(72,⟨72,cB,bh,VZ,cT⟩),
(114,⟨114,{cB with loops:=[(114004,⟨[],[],[],[],[]⟩),(114010,⟨[],[],[],[],[]⟩)] },bh,Sc,cT⟩),
(115,⟨115,{cB with loops:=[(115003,⟨[],[(5,279,[i6,i6,i6,i6,i6,i6,i6,i6,i6,.b])],[],[],[]⟩)] },bh,Sd,cT⟩),
(117,⟨117,{cB with loops:=[(117005,⟨[],[(4,76,fq),(5,4,[.b])],[],[],[]⟩)] },bh,Se,cT⟩),
(173,⟨173,{cB with hO:=true},bh,SZ,cT⟩),
(73,⟨73,{cB with hO:=true,loops:=[(73005,⟨[],[(9,279,[i6,i6,i6,i6,i6,i6,i6,i6,i6,.b])],[],[],[]⟩),(116002,⟨[],[(0,279,[i6,i6,i6,i6,i6,i6,i6,i6,i6,.b])],[],[],[]⟩),(116008,⟨[],[(6,279,[i6,i6,i6,i6,i6,i6,i6,i6,i6,.b])],[],[],[]⟩)] },bh,V0,cT⟩),
(118,⟨118,{cB with loops:=[(118004,⟨[],[],[],[],[]⟩)] },bh,Sg,cT⟩),
(119,⟨119,cB,bh,Sh,cT⟩),
(214,⟨214,{cB with hO:=true},bh,Tk,cT⟩),
(215,⟨215,cB,bh,Tl,cT⟩),
(216,⟨216,cB,bh,Tm,cT⟩),
(175,⟨175,{cB with loops:=[(175003,⟨[(1,0),(1,1)],[],[],[],[]⟩)] },bh,S1,cT⟩),
(121,⟨121,cB,bh,Sj,cT⟩),
(120,⟨120,cB,bh,Si,cT⟩),
(220,⟨220,cB,bh,Tn,cT⟩),
(176,⟨176,cB,bh,S2,cT⟩),
(269,⟨269,cB,bh,TN,cT⟩),
(252,⟨252,cB,bh,TF,cT⟩),
(270,⟨270,cB,bh,TO,cT⟩),
(271,⟨271,cB,bh,TP,cT⟩),
(253,⟨253,cB,bh,TG,cT⟩),
(221,⟨221,{cB with loops:=[(221008,⟨[],[(12,344,[i6,i6,i6])],[],[],[]⟩),(221012,⟨[],[],[],[],[]⟩)] },bh,To,cT⟩),
(222,⟨222,cB,bh,Tp,cT⟩),
(272,⟨272,cB,bh,TQ,cT⟩),
(273,⟨273,cB,bh,TR,cT⟩),
(254,⟨254,cB,bh,TH,cT⟩),
(223,⟨223,cB,bh,Tq,cT⟩),
(224,⟨224,cB,bh,Tr,cT⟩),
(225,⟨225,cB,bh,Ts,cT⟩),
(177,⟨177,{cB with hO:=true,loops:=[(177007,⟨[],[(13,74,fq)],[],[],[]⟩),(177011,⟨[(92,0),(92,1),(92,2),(92,3),(92,4),(92,5),(92,6),(92,7),(92,8),(92,9)],[],[],[],[]⟩),(177016,⟨[(92,0),(92,1),(92,2),(92,3),(92,4),(92,5),(92,6),(92,7),(92,8),(92,9)],[(13,74,fq)],[],[],[]⟩),(177021,⟨[(96,3),(96,4),(96,5),(96,6),(106,3),(106,4),(106,5),(106,6),(116,3),(116,4),(116,5),(116,6)],[],[],[],[]⟩),(177027,⟨[(92,0),(92,1),(92,2),(92,3),(92,4),(92,5),(92,6),(92,7),(92,8),(92,9)],[],[],[],[]⟩)] },bh,S3,cT⟩),
(122,⟨122,{cB with loops:=[(122003,⟨[],[(3,74,fq)],[],[],[]⟩)] },bh,Sl,cT⟩),
(123,⟨123,{cB with loops:=[(123004,⟨[(22,0),(22,1),(22,2)],[(3,74,fq)],[],[],[]⟩)] },bh,Sm,cT⟩),
(124,⟨124,{cB with loops:=[(124003,⟨[],[(3,74,fq)],[],[],[]⟩)] },bh,Sn,cT⟩),
(74,⟨74,cB,bh,V2,cT⟩),
(152,⟨152,cB,bh,SG,cT⟩),
(153,⟨153,cB,bh,SH,cT⟩),
(154,⟨154,cB,bh,SI,cT⟩),
(108,⟨108,cB,bh,KX,cT⟩),
(18,⟨18,{cB with loops:=[(18004,⟨[(4703,99),(4703,100),(4703,101),(4703,102),(4703,103)],[],[],[],[(4703,102,74,fq)]⟩),(33003,⟨[],[],[5736,5741],[],[]⟩),(49002,⟨[],[],[],[],[]⟩),(51004,⟨[],[],[5741,5746,5747],[],[]⟩)] },bh,abQ,cT⟩),
(186,⟨186,{cB with loops:=[(186003,⟨[],[(5,146,[i6,i6])],[],[],[]⟩)] },bh,S4,cT⟩),
(132,⟨132,cB,bh,So,cT⟩),
(133,⟨133,cB,bh,Sp,cT⟩),
(80,⟨80,cB,bh,ace,cT⟩),
(57,⟨57,{cB with loops:=[(57007,⟨[],[],[],[],[]⟩)] },bh,ab',cT⟩),
(59,⟨59,cB,bh,aca,cT⟩),
(135,⟨135,cB,bh,Sr,cT⟩),
(136,⟨136,cB,bh,Ss,cT⟩),
(137,⟨137,{cB with hO:=true},bh,Su,cT⟩),
(84,⟨84,{cB with loops:=[(84006,⟨[],[],[26,25],[],[]⟩),(84010,⟨[],[],[26,25],[],[]⟩)] },bh,acf,cT⟩),
(86,⟨86,{cB with hO:=true,loops:=[(86003,⟨[],[],[],[],[]⟩)] },bh,acg,cT⟩),
(88,⟨88,cB,bh,ach,cT⟩),
(187,⟨187,cB,bh,S5,cT⟩),
(143,⟨143,cB,bh,SA,cT⟩),
(141,⟨141,{cB with loops:=[(141009,⟨[],[],[],[],[]⟩)] },bh,Sy,cT⟩),
(90,⟨90,cB,bh,aci,cT⟩),
(91,⟨91,cB,bh,acj,cT⟩),
(144,⟨144,cB,bh,SB,cT⟩),
(188,⟨188,cB,bh,S6,cT⟩),
(145,⟨145,cB,bh,SC,cT⟩),
(92,⟨92,cB,bh,ack,cT⟩),
(93,⟨93,cB,bh,acm,cT⟩),
(94,⟨94,cB,bh,acn,cT⟩),
(134,⟨134,{cB with loops:=[(134005,⟨[],[(49,3,[i6])],[],[],[]⟩)] },bh,Sq,cT⟩),
(193,⟨193,cB,bh,S7,cT⟩),
(232,⟨232,cB,bh,Tt,cT⟩),
(233,⟨233,cB,bh,Tu,cT⟩),
(235,⟨235,cB,bh,Tv,cT⟩),
(264,⟨264,cB,bh,TJ,cT⟩),
(236,⟨236,cB,bh,Tw,cT⟩),
(265,⟨265,cB,bh,TK,cT⟩),
(237,⟨237,cB,bh,Tx,cT⟩),
(262,⟨262,cB,bh,TI,cT⟩),
(24,⟨24,{cB with loops:=[(95003,⟨[],[],[4200,4201,3],[],[]⟩),(148003,⟨[],[],[4718,4717,4205,4204],[],[]⟩)],GA:=[99],AM:=(some (94,33)) },bh,abV,cT⟩),
(12,⟨12,{cB with loops:=[(12003,⟨[(96,0),(96,1),(96,2),(96,3),(96,4),(96,5),(96,6),(96,7),(96,8),(96,9),(96,10),(96,11),(96,12),(96,13),(96,14),(96,15),(96,16),(96,17),(96,18),(96,19),(96,20),(96,21),(96,22),(96,23),(96,24),(96,25),(96,26),(96,27),(96,28),(96,29),(96,30),(96,31),(96,32),(96,33),(96,34),(96,35),(96,36),(96,37),(96,38),(96,39),(96,40),(96,41),(96,42),(96,43),(96,44),(96,45),(96,46),(96,47),(96,48),(96,49),(96,50),(96,51),(96,52),(96,53),(96,54),(96,55),(96,56),(96,57),(96,58),(96,59),(96,60),(96,61),(96,62),(96,63),(96,64),(96,65),(96,66),(96,67),(96,68),(96,69),(96,70),(96,71),(96,72),(96,73),(96,74),(96,75),(96,76),(96,77),(96,78),(96,79),(96,80),(96,81),(96,82),(96,83),(96,84),(96,85),(96,86),(96,87),(96,88),(96,89),(96,90),(96,91),(96,92),(96,93)],[],[63,62,18,17,6,5],[],[]⟩)] },bh,abK,cT⟩),
(55,⟨55,cB,bh,ab8,cT⟩),
(10,⟨10,{cB with inl:=[248,116,162,167,206,263,142,45,217,218,219,275,276,277,278,279,280,281,282,33,49,50,51,68,70,39,60,61,62,63,82,83,85,89,95,96,97,98,147,148,194,234,238,239,22,36,35,52,75,125,53,76,54,77,129,180,78,79,130] },bh,abI,cT⟩),
(11,⟨11,cB,bh,abJ,cT⟩),
(21,⟨21,cB,bh,abT,cT⟩),
(13,⟨13,cB,bh,abL,cT⟩),
(14,⟨14,{cB with loops:=[(14003,⟨[],[],[],[(5,85,[.c i6,.s 3 i6])],[]⟩)] },bh,abM,cT⟩),
(25,⟨25,cB,bh,abW,cT⟩),
(15,⟨15,{cB with loops:=[(15003,⟨[],[(3,3,[i6])],[],[],[]⟩)] },bh,abN,cT⟩),
(26,⟨26,{cB with loops:=[(26004,⟨[],[],[],[],[]⟩),(26009,⟨[],[],[],[],[]⟩)] },bh,abX,cT⟩),
(16,⟨16,cB,bh,abO,cT⟩),
(3,⟨3,{cB with loops:=[(3012,⟨[],[],[],[],[]⟩)] },bh,sg3,cT⟩),
(99,⟨99,cB,bh,aco,cT⟩),
(64,⟨64,{cB with loops:=[(64004,⟨[],[(4,146,[i6,i6])],[],[],[]⟩),(64008,⟨[],[(4,146,[i6,i6])],[],[],[]⟩),(64011,⟨[],[(4,146,[i6,i6])],[],[],[]⟩)] },bh,acb,cT⟩),
(40,⟨40,{cB with loops:=[(40007,⟨[],[],[],[],[]⟩)] },bh,ab1,cT⟩),
(27,⟨27,{cB with loops:=[(27004,⟨[],[],[],[],[]⟩)] },bh,abY,cT⟩),
(17,⟨17,cB,bh,abP,cT⟩),
(4,⟨4,{cB with loops:=[(4006,⟨[(97,0),(97,1),(97,2),(97,3)],[],[],[],[]⟩)] },bh,sg4,cT⟩),
(5,⟨5,{cB with loops:=[(5008,⟨[],[],[],[],[]⟩),(5012,⟨[],[],[],[],[]⟩)] },bh,sg5,cT⟩),
(19,⟨19,{cB with loops:=[(148003,⟨[],[],[4718,4717,4205,4204],[],[]⟩)],inl:=[248,116,162,167,206,263,142,45,217,218,219,275,276,277,278,279,280,281,282,33,49,50,51,68,70,39,60,61,62,63,82,83,85,89,95,96,97,98,147,148,194,234,238,239,24,21] },bh,abR,cT⟩),
(6,⟨6,cB,bh,sg6,cT⟩),
(34,⟨34,{cB with loops:=[(34004,⟨[],[],[],[],[]⟩)] },bh,abZ,cT⟩),
(20,⟨20,cB,bh,abS,cT⟩),
(7,⟨7,cB,bh,sg7,cT⟩),
(8,⟨8,cB,bh,sg8,cT⟩)]
def sgt:List (Nat×bX):=[(9,sg9),(56,ab9),(37,ab0),(23,abU),(41,ab2),(65,W0),(42,ab3),(28,V3),(100,RW),(66,acd),(43,ab4),(29,V4),(47,ab7),(44,ab5),(46,ab6),(30,V5),(101,RX),(67,VW),(174,S0),(195,S8),(149,SD),(102,RY),(151,SF),(150,SE),(104150,yN),(103,RZ),(107,R5),(106,R4),(104106,yM),(105,R3),(69,VX),(109,R6),(155,SJ),(139,Sv),(196,S9),(266,K2),(240,Ty),(197,Ta),(156,SK),(110,R7),(157,SL),(283,Lo),(267,TL),(241,Tz),(242,TA),(198,Tb),(199,Tc),(158,SM),(111,R8),(71,VY),(159,SN),(243,KZ),(200,Td),(201,Te),(202,Tf),(160,SO),(161,SP),(246,TD),(245,TC),(205245,uR),(163,SQ),(204,Th),(244,TB),(203,Tg),(112,R9),(164,SR),(165,SS),(210,Lr),(211,Ls),(247,TE),(250,Lt),(251,Lu),(284,TS),(268,TM),(207,Lq),(208,Ti),(166,SU),(168,Lw),(169,B4),(170,SW),(213,Tj),(171,SX),(172,SY),(113,Sa),(72,VZ),(114,Sc),(115,Sd),(117,Se),(173,SZ),(73,V0),(118,Sg),(119,Sh),(214,Tk),(215,Tl),(216,Tm),(175,S1),(121,Sj),(120,Si),(220,Tn),(176,S2),(269,TN),(252,TF),(270,TO),(271,TP),(253,TG),(221,To),(222,Tp),(272,TQ),(273,TR),(254,TH),(223,Tq),(224,Tr),(225,Ts),(177,S3),(122,Sl),(123,Sm),(124,Sn),(74,V2),(152,SG),(153,SH),(154,SI),(108,KX),(18,abQ),(186,S4),(132,So),(133,Sp),(80,ace),(57,ab'),(59,aca),(135,Sr),(136,Ss),(137,Su),(84,acf),(86,acg),(87,Xo),(140,K3),(88,ach),(187,S5),(143,SA),(141,Sy),(90,aci),(91,acj),(144,SB),(188,S6),(145,SC),(92,ack),(93,acm),(94,acn),(134,Sq),(146,K5),(193,S7),(232,Tt),(233,Tu),(235,Tv),(264,TJ),(236,Tw),(265,TK),(237,Tx),(262,TI),(24,abV),(12,abK),(55,ab8),(10,abI),(11,abJ),(21,abT),(13,abL),(14,abM),(25,abW),(15,abN),(26,abX),(16,abO),(3,sg3),(99,aco),(64,acb),(40,ab1),(27,abY),(17,abP),(4,sg4),(5,sg5),(19,abR),(6,sg6),(34,abZ),(20,abS),(7,sg7),(8,sg8)]
def lD(k:Nat):Option bX:=lV k sgt
end Go.Proofs.YtohebioanhliiaaGreatDoor.aN
namespace Go.Sx
def Cn.a(c:Cn)(ks:List Nat)(x:A):Cn:={c with args:=ks.foldl (fun l k=>l.set k x) c.args}
def Cn.r(c:Cn)(ks:List Nat)(x:A):Cn:={c with res:=ks.foldl (fun l k=>l.set k x) c.res}
def Cn.p(c:Cn)(ps:List BE):Cn:={c with pre:=c.pre++ps}
def Cn.q(c:Cn)(ps:List BE):Cn:={c with post:=c.post++ps}
def KO:A:=.i (-268435456) 268435456
def P36:A:=.i (-68719476736) 68719476736
def B8:A:=.i 0 255
def B1:A:=.i 0 100
def Cn.win(c:Cn)(k:Nat):Cn:=((c.a [k,k+1] KO).a [k+2] (.i 0 16777215)).a [k+3,k+4,k+5,k+6] B8
def Cn.VQ(c:Cn)(k:Nat):Cn:=((c.r [k,k+1] KO).r [k+2] (.i 0 16777215)).r [k+3,k+4,k+5,k+6] B8
def Cn.xw(c:Cn)(k:Nat):Cn:=c.a [k,k+1,k+2,k+3] B1
def rr(j:Nat):IE:=.v (R0+j)
def rb(j:Nat):BE:=.v (R0+j)
def nI(n:Int):IE:=.c n
def imp(a b:BE):BE:=.or (.not a) b
def mq(lo:Int)(x:IE)(hi:Int):List BE:=[.le (.c lo) x,.le x (.c hi)]
def N0:Int:=1099511627776
def A.cap:A->A
 |.l a none cs=>.l a (some N0) cs
 |x=>x
def Hl:Int×Int:=(-268435456,268435456)
def Pc:A:=.i (-268500000) 268500000
def fb:List BE->BE
 | []=>.c true
 | [p]=>p
 |p::ps=>.and p (fb ps)
def DJ(k:Nat):BE:=fb (mq (-268435456) (.v k) 268435456++mq (-268435456) (.v (k+1)) 268435456++mq 0 (.v (k+2)) 16777215++[3,4,5,6].flatMap fun j=>mq 0 (.v (k+j)) 255)
def Jm(k:Nat):BE:=fb (mq 0 (.v k) 65535++mq 1 (.v (k+1)) 256++mq 0 (.v (k+2)) 1099511627776)
def cI:Int×Int:=(mn,mx)
def oY:List (Int×Int):=[cI,cI,cI,cI,cI,cI,cI,cI]
def Hm:List (Int×Int):=[cI,cI,cI,cI,cI,cI,cI,cI,cI,(0,1)]
def Hn:List (Int×Int):=[Hl,Hl,(0,16777215),(0,255),(0,255),(0,255),(0,255)]
def adt:List (Int×Int):=[Hl,Hl,(-536870912,536870912),(-536870912,536870912),(0,1)]
def wq:A:=.l 1 (some 1) [(-268500000,268500000),(-268500000,268500000),(-268500000,268500000),(-268500000,268500000),(0,1),(0,1),(-1200000,1200000),(-1200000,1200000),(0,1),(0,1),(-1200000,1200000),(-1200000,1200000)]
def Yb(k:Nat):List BE:=[.le (.min (.v k) (.c 0)) (rr 0),.le (rr 0) (.max (.v (k+2)) (.c 0)),.le (.min (.v (k+1)) (.c 0)) (rr 1),.le (rr 1) (.max (.v (k+3)) (.c 0)),.le (.min (.v k) (.c 0)) (rr 2),.le (rr 2) (.max (.v (k+2)) (.c 0)),.le (.min (.v (k+1)) (.c 0)) (rr 3),.le (rr 3) (.max (.v (k+3)) (.c 0))]
def M28:A:=.i (-268435456) 268435456
def stN(n:Int):A:=.l n (some 8) (List.replicate 16 (-268435456,268435456))
def Yc:A:=stN 1
def stQ:BE:=fb (mq 0 (rr 0) 1++mq 1 (.len (R0+1)) 8++mq 1 (.len (R0+2)) 8)
def Qj:List (Int×Int):=[(-68719476736,68719476736),(-68719476736,68719476736),(-68719476736,68719476736),(-68719476736,68719476736),(0,255),(0,255),(0,255),(0,255)]
abbrev aI:A:=.i mn mx
def Qk:List A:=[aI,B1,B1,.l 0 (some 10000) [cI],.l 0 (some 10000) [cI],aI,aI,aI,aI,aI,aI,aI,aI,aI,aI,Yc,Yc]++(List.replicate 6 [.i 3 3,aI,aI,aI,aI]).flatten++[.b,.b,.b,.b,.b,.b,B8,B8,B8,B8,.b,.b,aI,.l 0 (some 256) Qj,.l 0 (some 256) [(0,1)],
 aI,.b,.b,aI,aI,aI,aI,aI,aI,aI,.b,aI,.b,aI,aI,.b,.b,.b,aI,aI,aI,aI,.b,aI,.b,.b,aI,aI,.b,.b,.b,.b]
def tZ(o:Nat):List BE:=[.eq (.len (o+3)) (.mul (.v (o+1)) (.v (o+2))),.eq (.len (o+4)) (.mul (.v (o+1)) (.v (o+2))),.eq (.len (o+60)) (.len (o+61))]
def Cn.pipe(c:Cn):Cn:={c with args:=Qk++c.args.drop 94,pre:=c.pre++tZ 0}
def Cn.Ql(c:Cn):Cn:={c with res:=Qk++c.res.drop 94,post:=c.post++tZ R0}
def adu:List (Nat×Nat):=[(1,2),(2,4),(3,1),(4,1),(5,4),(6,5),(7,1),(8,16),(9,16),(10,0),(11,0),(12,0),(13,6),(14,4),(15,1),(16,1),(17,4),(18,0),(19,1),(20,3),(21,2),(22,1),(23,2),(24,2),(25,3),(26,3),(27,3),(28,4),(29,2),(30,4),(31,16),(32,1)]
def aac:List BE:=imp (rb 1) (fb (mq 1 (.v 0) 32))::imp (.eq (.v 0) (.c 13)) (fb [.eq (.get R0 (.c 0) 0) (.c 0),.eq (.get R0 (.c 0) 1) (.c 5)])::adu.map fun x=>imp (.and (.eq (.v 0) (.c x.1)) (rb 1)) (.eq (.len R0) (.c x.2))
def sb(l:Nat):List BE:=.eq (.len l) (.c 2)::(mq 1 (.get l (.c 0) 0) 1024++mq 1 (.get l (.c 1) 0) 1024)
def aad(l:Nat):List BE:=(List.range 4).flatMap fun(j:Nat)=>mq 0 (.get l (.c j) 0) 255
def aiM(k:Nat)(c:Cn):Cn:=match k with
 |100=>c.a [1] (.i 0 4611686018427387904)
 |42=>c.q (Yb 0++Yb 4++[.le (rr 0) (rr 2),.le (rr 1) (rr 3)])
 |65=>c.q [imp (rb 0) (.and (.lt (.v 0) (.v 2)) (.lt (.v 1) (.v 3)))]
 |151=>((c.a [0,1] KO).a [7,8] B1).a [9] (.i 0 67108864)
 |150=>(((c.a [0,1] B1).a [2] (.l 7 (some 7) [Hl])).a [3] (.l 1 (some 1) [(0,8192)])).r [0,1] B1
 |106=>(((c.a [0,1] B1).a [2] (.l 7 (some 7) [Hl])).a [3] (.l 1 (some 1) [(mn,mx)])).a [4] (.l 1 (some 1) [(1,64)])
 |104150=>(((c.xw 0).r [0] (.l 0 (some 10000) oY)).a [4] (.l 7 (some 7) [Hl])).a [5] (.l 1 (some 1) [(0,8192)])
 |104106=>((((c.xw 0).r [0] (.l 0 (some 10000) oY)).a [4] (.l 7 (some 7) [Hl])).a [5] (.l 1 (some 1) [(mn,mx)])).a [6] (.l 1 (some 1) [(1,64)])
 |103=>((c.win 0).a [7] (.i 1 64)).xw 8 |>.r [0] (.l 0 (some 10000) oY)
 |107=>(c.a [1] (.i 1 2147483648)).a [0] (.i (-4611686018427387904) 4611686018427387904)
 |105=>(c.win 0).a [7] (.i 1 64)
 |69=>(c.xw 9).r [0] (.l 0 (some 10000) oY)
 |166=>c.a [0,1,2,3] Pc |>.r [0] (.i (-1) 4000000)
 |160=>(((c.win 0).win 7).a [14] (.i 1 64)).r [0,1] KO |>.r [2,3] (.i (-536870912) 536870912) |>.r [4] (.i 0 576460752303423488) |>.r [5,6] (.i (-1) mx)
 |202=>c.r [0] (.i 0 mx)
 |161=>(((c.win 0).win 7).a [14] (.i 1 64)).xw 15 |>.r [0,1] (.i (-1048707) 1048707) |>.q [.le (.v 16) (rr 0),.le (rr 1) (.v 18)]
 |245=>c.a [2,3] (.l 1 (some 1) [(mn,mx)])
 |205245=>((c.win 0).win 7).a [14,15] (.l 1 (some 1) [(mn,mx)])
 |163=>(((c.win 0).win 7).a [14,15] (.i (-1000) 1000))
 |172=>(((c.win 0).win 7).a [14,15] (.i (-16777216) 16777216))
 |204=>c.a [1] (.i 1 2147483648) |>.q [imp (fb (mq (-1073741824) (.v 0) 1073741824)) (fb ([.le (.mul (.v 1) (rr 0)) (.v 0),.lt (.v 0) (.add (.mul (.v 1) (rr 0)) (.v 1))]++mq (-1073741825) (rr 0) 1073741824))]
 |244=>(c.a [0] (.i (-536870912) 536870912)) |>.q [imp (.le (rr 0) (rr 1)) (.and (.le (.v 4) (rr 0)) (.le (rr 1) (.v 5)))]
 |203=>(c.a [0,1] KO).a [2,3] (.i (-536870912) 536870912) |>.q [imp (.le (rr 0) (rr 1)) (.and (.le (.v 8) (rr 0)) (.le (rr 1) (.v 9)))]
 |164=>(((c.win 0).win 7).a [14] (.i 1 64)).r [0,1,2,3] Pc
 |165=>((c.a [1] (.i 1 256)).a [2] (.i 0 1099511627776)).a [3] (.i (-1) 2147483648) |>.r [2] (.i (-1) 4096) |>.q [.eq (rr 0) (.v 0),.eq (rr 1) (.v 1)]
 |207=>c.a [0,1,2,3] Pc |>.p [.not (.and (.eq (.v 0) (.v 2)) (.eq (.v 1) (.v 3)))] |>.r [0] wq |>.q [.not (.eq (.get R0 (.c 0) 2) (.get R0 (.c 0) 0))]
 |208=>(c.a [0] wq).r [0] (.i (-1) 4000000)
 |209=>(c.a [0] wq).a [1,2] (.i (-16777216) 16777216)
 |210=>(c.a [0] wq).r [0] (.i 0 2500000)
 |211=>(c.a [0] wq).r [0] (.i (-1) 1)
 |247=>(c.a [0] Pc).r [0] (.i (-1100000) 1100000)
 |284=>c.a [0,1] Pc |>.r [0,1] (.i (-1200000) 1200000)
 |268=>(c.a [0] wq).a [1,2] Pc |>.r [0,1] (.i (-1200000) 1200000)
 |250=>((c.a [0] wq).a [1] (.i (-8388608) 8388608)).p [.not (.eq (.get 0 (.c 0) 2) (.get 0 (.c 0) 0))] |>.r [1] (.i 1 549755813888) |>.r [0] (.i (-4611686018427387904) 4611686018427387904)
 |251=>((c.a [0] wq).a [1] (.i (-8388608) 8388608)).p [.not (.eq (.get 0 (.c 0) 2) (.get 0 (.c 0) 0))] |>.r [0] (.i (-4611686018427387905) 4611686018427387904)
 |170=>(c.a [5,6,7,8] B1).a [9] (.i 1 64) |>.r [0,1,2,3] (.i (-64) 100)
 |169=>(c.a [0,1,2,3] Pc).a [4,5,6,7] (.i (-64) 100) |>.r [0] (.l 0 (some 200) [(0,4000000),(-64,100),(-64,100)])
 |174=>c.q [imp (rb 0) (Jm 0)]
 |171=>c.a [1] (.i 1 256) |>.a [2] (.i 0 1099511627776) |>.a [3] (.i 0 4000000)
 |195=>c.q [imp (rb 0) (DJ 0)]
 |149=>c.q [imp (rb 0) (fb [DJ 0,DJ 7,.le (.c 1) (.v 14),.le (.v 14) (.c 64),Jm 15])]
 |159=>c.q [imp (rb 0) (fb [DJ 0,DJ 7,.le (.c 1) (.v 14),.le (.v 14) (.c 64)])]
 |102=>c.q [imp (rb 0) (fb [DJ 0,.le (.c 1) (.v 7),.le (.v 7) (.c 64),.le (.c 0) (.v 8),.le (.v 8) (.c 2)])]
 |112=>(c.xw 15).r [0] (.l 0 (some 10000) oY)
 |113=>(c.xw 19).r [0] (.l 0 (some 12800) oY)
 |72=>(c.xw 32).r [0] (.l 0 (some 12800) oY)
 |115=>c.p [.eq (.len 0) (.len 1)] |>.a [0] (.l 0 (some 256) (Hm.take 8)) |>.a [1] (.l 0 (some 256) [(0,1)]) |>.r [0] (.l 0 (some 256) Hm) |>.q [.eq (.len R0) (.len 0)]
 |117=>(c.a [0] (.l 0 (some 131072) Hm)).q [.eq (.len R0) (.len 0),.eq (.len (R0+1)) (.len 0)] |>.r [0] (.l 0 (some 131072) (Hm.take 8)) |>.r [1] (.l 0 (some 131072) [(0,1)])
 |114=>c.q [imp (rb 0) (fb [.le (.c 3) (.len 0),.le (.len 0) (.c 256),.eq (.len 1) (.len 0),.le (.len 2) (.c 9)])]
 |73=>c.r [0] (.l 0 (some 131072) (Hm.take 8)) |>.r [1] (.l 0 (some 131072) [(0,1)]) |>.q [.eq (.len (R0+1)) (.len R0)]
 |118=>c.a [0] (.l 0 (some 131072) Hn) |>.a [1] (.l 0 (some 131072) [(0,1)]) |>.q [imp (rb 0) (fb [.le (.c 3) (.len 0),.eq (.len 1) (.len 0)])]
 |215=>(((c.a [0,1,7,8,14,15] KO))).r [0] (.i (-1152921504606846976) 1152921504606846976)
 |175=>c.a [0] (.l 0 (some 131072) Hn)
 |121=>c.a [0] (.l 0 (some 131072) Hn)
 |120=>c.a [0] (.l 0 (some 131072) Hn)
 |176=>((c.win 0).win 7).win 14 |>.a [21] (.i (-65536) 65536) |>.a [22] (.i (-16777216) 16777216)
 |269=>c.a [0,1,7,8] KO |>.r [0,1] KO |>.r [2,3] (.i (-536870912) 536870912) |>.r [4] (.i 0 1)
 |252=>c.a [0,1,7,8,14,15] KO |>.r [0] (.l 0 (some 3) adt)
 |270=>c.a [0,1] KO |>.a [2,3] (.i (-536870912) 536870912) |>.a [5,6] (.i 0 100) |>.r [0] (.i (-576460752303423488) 576460752303423488)
 |271=>(c.a [1] (.i 1 1152921504606846976)).a [0] (.i (-4611686018427387904) 4611686018427387904) |>.r [0] (.i (-4611686018427387905) 4611686018427387904)
 |253=>c.a [0,1] KO |>.a [2,3] (.i (-536870912) 536870912) |>.a [4] (.i 0 1) |>.a [5] (.i 0 100) |>.q [imp (.lt (rr 0) (rr 1)) (.and (.le (.v 6) (rr 0)) (.le (rr 1) (.v 7)))] |>.a [6,7] (.i (-4611686018427387905) 4611686018427387905) |>.r [0,1] (.i (-4611686018427387905) 4611686018427387905)
 |221=>c.a [0,1,7,8,14,15] KO |>.xw 21 |>.r [0] (.l 0 (some 100) [(0,100),(0,100),(0,100)])
 |222=>(((c.win 0).win 7).win 14).VQ 0 |>.VQ 7 |>.VQ 14
 |254=>((c.win 0).win 7).win 14
 |223=>((c.win 0).win 7).win 14
 |177=>(((c.win 0).win 7).win 14).xw 22 |>.r [0] (.l 0 (some 10000) oY)
 |122=>(((c.a [15] (.i (-65536) 65536)).a [16] (.i (-16777216) 16777216)).a [0] (.l 0 (some 131072) Hn)).xw 17 |>.r [0] (.l 0 (some 2000000000) oY)
 |123=>(c.a [0] (.l 0 (some 131072) Hn)).xw 17 |>.p [.eq (.len 1) (.len 0)] |>.r [0] (.l 0 (some 2000000000) oY)
 |124=>((c.a [8] (.i 1 64)).a [0] (.l 0 (some 131072) Hn)).xw 17 |>.p [.eq (.len 1) (.len 0)] |>.r [0] (.l 0 (some 2000000000) oY)
 |272=>(((c.a [0,1,7,8,14,15] KO))).a [22,23] (.i 0 100)
 |119=>c.q [imp (rb 0) (fb (mq 1 (.v 0) 64++mq 1 (.v 6) 64++mq 0 (.v 7) 2++mq 0 (.v 8) 2++mq 0 (.v 9) 2++mq 0 (.v 11) 3++mq (-65536) (.v 13) 65536++mq (-16777216) (.v 14) 16777216++[Jm 3]))]
 |74=>(c.a [0] (.l 0 (some 131072) Hn)).xw 17 |>.a [1] (.l 0 (some 131072) [(0,1)]) |>.r [0] (.l 0 (some 2000000000) oY)
 |154=>((c.a [1] (.i 1 4611686018427387904)).a [0] (.i (-4611686018427387904) 4611686018427387904)).r [0] (.i (-4611686018427387905) 4611686018427387904)
 |152=>c.q [imp (rb 0) (fb (mq (-8192) (.v 0) 8192++mq (-8192) (.v 1) 8192++mq 0 (.v 2) 4096++mq 0 (.v 3) 4096))]
 |153=>c.q [imp (rb 0) (fb (mq (-68719476736) (.v 0) 68719476736++mq (-68719476736) (.v 1) 68719476736++mq (-68719476736) (.v 2) 68719476736++mq 1 (.v 3) 68719476736++[4,5,6,7].flatMap fun j=>mq 0 (.v j) 255))]
 |108=>c.VQ 0 |>.r [7] (.i 0 9)
 |186=>(c.a [0] (.i 0 16)).q [.eq (.len R0) (.v 0)]
 |41=>c.q [.eq (rr 0) (.c 0),.eq (rr 1) (.c 0),.eq (rr 2) (.v 0),.eq (rr 3) (.v 1)]
 |135=>c.q [imp (.eq (.len 2) (.mul (.v 0) (.v 1))) (.eq (.len (R0+2)) (.mul (rr 0) (rr 1))),imp (.eq (.len 3) (.mul (.v 0) (.v 1))) (.eq (.len (R0+3)) (.mul (rr 0) (rr 1))),.eq (rr 0) (.v 0),.eq (rr 1) (.v 1),.eq (.len (R0+2)) (.len 2),.eq (.len (R0+3)) (.len 3)] |>.a [2,3] (.l 0 (some 10000) [cI]) |>.r [2,3] (.l 0 (some 10000) [cI])
 |84=>c.a [0,1] B1 |>.a [2,3] (.l 0 (some 10000) [cI]) |>.r [2,3] (.l 0 (some 10000) [cI]) |>.p [.eq (.len 2) (.mul (.v 0) (.v 1)),.eq (.len 3) (.mul (.v 0) (.v 1))] |>.r [0,1] B1 |>.q [.eq (rr 0) (.v 0),.eq (rr 1) (.v 1),.eq (.len (R0+2)) (.mul (rr 0) (rr 1)),.eq (.len (R0+3)) (.mul (rr 0) (rr 1))]
 |187=>c.a [1] (.i 0 4611686018427387904) |>.q [.or (rb 0) (.and (.le (.sub (.c 0) (.v 1)) (.v 0)) (.le (.v 0) (.v 1)))]
 |143=>c.q [imp (rb 0) (fb ((List.range 16).flatMap fun j=>mq (-268435456) (.v j) 268435456))]
 |141=>c.q [imp (rb 0) (fb (mq 0 (.v 0) 1++mq 1 (.len 1) 8++mq 1 (.len 2) 8))]
 |188=>c.a [0] (.l 16 (some 16) [(-268435456,268435456)]) |>.a [1] (.i 0 3) |>.a [2] (.l 4 (some 4) [(-268435456,268435456)]) |>.r [0] (.i (-17592186044416) 17592186044416)
 |144=>(c.a [1,2] Yc).r ((List.range 16)) M28
 |145=>(c.r [16] (.i 0 12)).q [imp (.eq (rr 16) (.c 0)) (fb ((List.range 16).flatMap fun j=>mq (-268435456) (rr j) 268435456))]
 |90=>((c.a [1,2] Yc).r [3] (.i 0 12)).r [1,2] (stN 0) |>.q [imp (.eq (rr 3) (.c 0)) stQ]
 |91=>((c.a [1,2] Yc).r [3] (.i 0 12)).r [1,2] (stN 0) |>.q [imp (.eq (rr 3) (.c 0)) stQ]
 |92=>((c.a [1,2] Yc).r [3] (.i 0 12)).r [1,2] (stN 0) |>.q [imp (.eq (rr 3) (.c 0)) stQ]
 |93=>((c.a [1,2] Yc).r [3] (.i 0 12)).r [1,2] (stN 0) |>.q [imp (.eq (rr 3) (.c 0)) stQ]
 |94=>((c.a [1,2] Yc).r [3] (.i 0 12)).r [1,2] (stN 0) |>.q [imp (.eq (rr 3) (.c 0)) stQ]
 |193=>c.r [0,1,2,3] P36 |>.r [4] (.i 0 12)
 |134=>(c.r [4] (.i 0 12)).q [imp (.eq (rr 4) (.c 0)) (fb [.eq (rr 0) (.v 0),.eq (rr 1) (.v 1),.eq (.len (R0+2)) (.mul (rr 0) (rr 1)),.eq (.len (R0+3)) (.mul (rr 0) (rr 1))])] |>.p [.le (.mul (.v 0) (.v 1)) (.c 100)] |>.r [0,1] B1 |>.r [2,3] (.l 0 (some 10000) [cI])
 |59=>c.q [imp (.eq (.v 1) (.c 18)) (.iff (rb 0) (.v 0))]
 |132=>c.r [0] (.l 0 (some 40) [cI,cI]) |>.q (imp (.eq (.v 0) (.c 18)) (rb 1)::imp (.eq (.v 0) (.c 13)) (rb 1)::aac)
 |133=>c.r [0] (.l 0 (some 40) [cI,cI]) |>.q (imp (rb 1) (fb (mq 14 (.v 0) 32))::aac.drop 2)
 |80=>c.r [0] (.l 0 (some 40) [cI,cI]) |>.q (imp (.eq (.v 0) (.c 18)) (rb 1)::aac)
 |57=>(c.a [1] (.l 0 (some 40) [cI])).r [0] (.i 0 12) |>.q (imp (.and (.eq (.v 0) (.c 18)) (.eq (.len 1) (.c 0))) (.eq (rr 0) (.c 0))::imp (.eq (rr 0) (.c 0)) (fb (mq 1 (.v 0) 32))::imp (.and (.eq (.v 0) (.c 13)) (.eq (rr 0) (.c 0))) (fb (mq 0 (.get 1 (.c 0) 0) 5))::(adu.map fun x=>imp (.and (.eq (.v 0) (.c x.1)) (.eq (rr 0) (.c 0))) (.eq (.len 1) (.c x.2)))++[imp (.and (.eq (.v 0) (.c 14)) (.eq (rr 0) (.c 0))) (fb (aad 1)),imp (.and (.eq (.v 0) (.c 1)) (.eq (rr 0) (.c 0))) (fb (sb 1))])
 |19=>(c.pipe.p [.v 58]).r [0,1] B1 |>.r [2,3] (.l 0 (some 10000) [cI]) |>.q [.eq (.len (R0+2)) (.mul (rr 0) (rr 1)),.eq (.len (R0+3)) (.mul (rr 0) (rr 1))]
 |233=>c.q [imp (rb 0) (fb (mq 0 (.v 2) 16777215++([3,4,5,6].flatMap fun j=>mq 0 (.v j) 255)++mq 1 (.v 7) 64))]
 |235=>(c.a [0,1,2,3] B8).a [4] (.i 1 64) |>.r [0,1,2,3] B8
 |264=>c.r [0,1,2,3] B8
 |236=>c.r [0,1,2,3] B8 |>.a [0,1] B1 |>.a [2,3] (.l 0 (some 10000) [cI]) |>.p [.eq (.len 2) (.mul (.v 0) (.v 1)),.eq (.len 3) (.mul (.v 0) (.v 1))] |>.q [imp (rb 5) (fb [.le (.c 0) (.v 4),.lt (.v 4) (.v 0),.le (.c 0) (.v 5),.lt (.v 5) (.v 1)])]
 |265=>(c.a [9] (.i 0 3)).a ([1,2,3,4,5,6,7,8]) B8 |>.r [0] B8
 |237=>c.a ([0,1,2,3,4,5,6,7]) B8 |>.r [0,1,2,3] B8
 |30=>c.a [1] (.l 0 (some 256) []) |>.r [0] (.l 0 (some 256) [(1,256),(0,256),(0,255)])
 |18=>c.pipe.r [0] (.l 0 (some 512000000000) oY)
 |28=>c.pipe.r [0,1,2,3] B1
 |29=>c.pipe
 |24=>(c.pipe.a [95] (.l 0 (some 40) [cI])).p [imp (fb (.eq (.v 94) (.c 1)::sb 95)) (.le (.mul (.get 95 (.c 0) 0) (.get 95 (.c 1) 0)) (.c 100))] |>.Ql
 |23=>c.Ql
 |12=>c.Ql.p [.c false]
 |44=>c.p [.c false]
 |241=>c.p [.lt (.v 0) (.v 2)]
 |47=>c.p [.c false]
 |64=>c.a [0] (.i 1 1) |>.r [0] (.l 2 (some 2) [(1,1),(1024,1024)]) |>.q [rb 1]
 |40=>c.a [0] (.i 1 1) |>.a [1] (.l 0 (some 40) [cI]) |>.r [0] (.i 0 12) |>.q [imp (.eq (rr 0) (.c 0)) (fb (sb 1))]
 |17=>{c with pre:=[.c false],res:=(Qk.map fun a=>a.Bh (CN a))++[.b],post:=tZ R0++[imp (rb 94) (fb [.le (.c 1) (.len (R0+15)),.le (.c 1) (.len (R0+16)),rb 58,.le (.c 1) (rr 1),.le (.c 1) (rr 2)])] }
 |37=>c.r [0] (.i 0 0) |>.r [1,2] (.l 1 (some 1) (List.replicate 16 (-268435456,268435456)))
 |56=>c.r (List.range 16) M28
 |87=>c.a [1] (.i 0 16777216) |>.r [0] (.i 0 16777216) |>.r [1] (.i 0 12) |>.q [.le (rr 0) (.v 1)]
 |146=>c.a [1] (.i 0 32) |>.a [2] (.i 0 1099511627776) |>.r [0] (.i (-1099511627776) 1099511627776) |>.r [1] (.i 0 12) |>.q [.le (.sub (.c 0) (.v 2)) (rr 0),.le (rr 0) (.v 2)]
 |283=>c.r [0] (.i 0 64)
 |243=>(c.a [2] (.i 0 1)).r [1] (.i 0 1)
 |266=>(c.a [2] (.i 0 1)).r [1] (.i 0 1)
 |14=>c.a [1] (.l 0 (some 100) [cI,cI]) |>.r [0] (.l 0 (some 200) [])
 |11=>(c.a [0,1,7,8,14,15] KO)
 |_=>c
def adv(i:IE):BE:=imp (.lt (.c 0) i) (.and (.le (.get 3 (.c 0) 0) (.get 1 (.c 0) 0)) (.le (.get 1 (.c 0) 0) (.get 3 (.c 0) 1)))
def Jn:IE:=.add (.add (.v 3) (.tdiv (.sub (.v 4) (.v 3)) (.c 2))) (.tmod (.sub (.v 4) (.v 3)) (.c 2))
def dxy(a b:Nat):IE:=.max (.sub (.v a) (.v b)) (.sub (.c 0) (.sub (.v a) (.v b)))
def xx:IE:=.max (.v 15) (.wrap .i64 (.sub (.ediv (.wrap .i64 (.sub (.min (.v 0) (.v 7)) (.wrap .i64 (.mul (.v 14) (.c 128))))) 256) (.c 1)))
def pix(x y w h:IE):List BE×BE:=([.le (.c 0) x,.lt x w,.le (.c 0) y,.lt y h,.le w (.c 100),.le h (.c 100)],fb [.le (.c 0) (.mul y w),.le (.mul y w) (.c 10000),.le (.c 0) (.add (.mul y w) x),.lt (.add (.mul y w) x) (.mul w h)])
def KP(a b c d:Nat):BE:=imp (.lt (.v a) (.v b)) (.and (.le (.v c) (.v a)) (.le (.v b) (.v d)))
def Qm:IE:=.wrap .i64 (.sub (.wrap .i64 (.tdiv (.v 0) (.v 1))) (.c 1))
def ua(k:Nat):List (List BE×BE):=match k with
 |202=>[([.lt (.v 3) (.v 4)],fb [.lt (.v 3) Jn,.le Jn (.v 4),.le (.tdiv (.sub (.v 4) (.v 3)) (.c 2)) (.sub (.v 4) (.v 3))])]
 |221=>[([KP 37 38 33 34,KP 33 34 21 23],KP 37 38 21 23),([.or (.eq (.len 31) (.c 0)) (.le (.v 32) (.c 100)),.le (.len 31) (.v 32)],.le (.len 31) (.c 100))]
 |198=>[([.le (.c 1) (.v 2),.le (.v 2) (.c 9223372036854775807)],.lt (.tmod (.wrap .u64 (.v 6)) (.wrap .u64 (.v 2))) (.wrap .u64 (.v 2))),([.le (.c 1) (.v 2),.le (.v 2) (.c 9223372036854775807)],.lt (.tmod (.wrap .u64 (.v 0)) (.wrap .u64 (.v 2))) (.wrap .u64 (.v 2)))]
 |123=>[([.lt (.c 0) (.len 0),.le (.c 0) (.v 24)],fb [.lt (.tmod (.add (.v 24) (.c 1)) (.len 0)) (.len 0),.le (.c 0) (.tmod (.add (.v 24) (.c 1)) (.len 0))])]
 |84=>[([.eq (.v 23) (.v 0),.eq (.v 24) (.v 1)],.eq (.mul (.v 23) (.v 24)) (.mul (.v 0) (.v 1))),([.lt (.v 1570) (.v 1567),.le (.v 1566) (.v 0),.le (.v 1567) (.v 1),.le (.c 0) (.v 1570),.le (.c 0) (.v 0)],.le (.add (.mul (.v 1570) (.v 0)) (.v 1566)) (.mul (.v 0) (.v 1)))]
 |73=>[([.le (.c 0) (.v 6),.le (.v 6) (.c 100)],.eq (.shl (.c 256) (.wrap .i64 (.add (.v 6) (.c 1)))) (.mul (.c 2) (.shl (.c 256) (.v 6))))]
 |134=>[([.le (.c 1) (.v 0),.le (.c 1) (.v 1),.le (.mul (.v 0) (.v 1)) (.c 100)],fb [.le (.v 0) (.c 100),.le (.v 1) (.c 100)])]
 |236=>[pix (.v 4) (.v 5) (.v 0) (.v 1)]
 |19=>[pix (.get 4713 (.v 4721) 0) (.get 4713 (.v 4721) 1) (.v 4715) (.v 4716)]
 |24=>[pix (.get 4200 (.v 4208) 0) (.get 4200 (.v 4208) 1) (.v 4202) (.v 4203),([.le (.c 1) (.get 95 (.c 0) 0),.le (.c 1) (.get 95 (.c 1) 0),.le (.mul (.get 95 (.c 0) 0) (.get 95 (.c 1) 0)) (.c 100)],fb [.le (.get 95 (.c 0) 0) (.c 100),.le (.get 95 (.c 1) 0) (.c 100)])]
 |57=>[([adv (.v 6),.le (.c 0) (.v 6),.le (.get 3 (.v 6) 0) (.get 1 (.v 6) 0),.le (.get 1 (.v 6) 0) (.get 3 (.v 6) 1)],.and (.le (.get 3 (.c 0) 0) (.get 1 (.c 0) 0)) (.le (.get 1 (.c 0) 0) (.get 3 (.c 0) 1)))]
 |141=>[([.not (.and (.not (.eq (.v 0) (.c 0))) (.not (.eq (.v 0) (.c 1))))],fb (mq 0 (.v 0) 1))]
 |112=>[([.le (.mul (.c 32) (.v 44)) (.sub (.c 16) (.v 42)),.le (.add (.mul (.c 256) xx) (.c 16)) (.v 42),.le (.sub (.c 0) (.v 44)) (.v 45),.le (.mul (.c 32) (.v 47)) (.sub (.v 43) (.c 16)),.le (.v 43) (.sub (.add (.mul (.c 256) xx) (.mul (.c 256) (.len 38))) (.c 16)),.le (.v 45) (.v 47),.eq (.len 46) (.len 38)],fb [.le (.c 0) (.sub (.ediv (.v 45) 8) xx),.lt (.sub (.ediv (.v 45) 8) xx) (.len 46)])]
 |204=>[([.lt (.tmod (.v 0) (.v 1)) (.c 0),.le (.c 1) (.v 1)],imp (fb (mq (-1073741824) (.v 0) 1073741824)) (fb [.le (.mul (.v 1) Qm) (.v 0),.lt (.v 0) (.add (.mul (.v 1) Qm) (.v 1))])),([.le (.c 0) (.tmod (.v 0) (.v 1)),.le (.c 1) (.v 1)],imp (fb (mq (-1073741824) (.v 0) 1073741824)) (fb [.le (.mul (.v 1) (.wrap .i64 (.tdiv (.v 0) (.v 1)))) (.v 0),.lt (.v 0) (.add (.mul (.v 1) (.wrap .i64 (.tdiv (.v 0) (.v 1)))) (.v 1))]))]
 |210=>[([],.le (.c 0) (.max (.sub (.get 0 (.c 0) 7) (.get 0 (.c 0) 6)) (.sub (.get 0 (.c 0) 6) (.get 0 (.c 0) 7))))]
 |207=>[([.lt (dxy 2 0) (dxy 3 1)],.not (.eq (.v 3) (.v 1))),([.le (dxy 3 1) (dxy 2 0),.not (.and (.eq (.v 0) (.v 2)) (.eq (.v 1) (.v 3)))],.not (.eq (.v 2) (.v 0)))]
 |_=>[]
def VR(k j:Nat)(c:Cn):Cn:=if k=18/\j=73 then c.a [1] .t else if k=12/\j=24 then {c.a [94,95] .t with pre:=c.pre.dropLast}else if k=17/\j=12 then {c with pre:=[] }else c
def bare(k:Nat)(c:Cn):Cn:=if k=57 then {c with post:=c.post.dropLast.dropLast}else if k=12\/k=17 then {c with pre:=[] }else c
def aae(k:Nat):List BE:=match k with
 |18=>[.le (.c 0) (.get 5224 (.v 5742) 0),.lt (.get 5224 (.v 5742) 0) (.len 60),.le (.c 0) (.get 5216 (.v 5218) 2),.lt (.get 5216 (.v 5218) 2) (.len 60)]
 |_=>[]
def lps(k:Nat):List (Nat×Nat×Iv):=match k with
 |9=>[(9004,2,⟨[.b,.i 0 1099511627776],[(.le (.c 0) (.v 3)),(.le (.v 3) (.len 0))],(.add (.mul (.c (-1)) (.v 3)) (.len 0))⟩)]
 |12=>[(12003,97,⟨[.i 0 1099511627776,aI,.i 0 100,.i 0 100,.l 0 (some 10000) [cI],.l 0 (some 10000) [cI],aI,aI,aI,aI,aI,aI,aI,aI,aI,aI,.l 1 (some 8) [((-268435456),268435456),((-268435456),268435456),((-268435456),268435456),((-268435456),268435456),((-268435456),268435456),((-268435456),268435456),((-268435456),268435456),((-268435456),268435456),((-268435456),268435456),((-268435456),268435456),((-268435456),268435456),((-268435456),268435456),((-268435456),268435456),((-268435456),268435456),((-268435456),268435456),((-268435456),268435456)],.l 1 (some 8) [((-268435456),268435456),((-268435456),268435456),((-268435456),268435456),((-268435456),268435456),((-268435456),268435456),((-268435456),268435456),((-268435456),268435456),((-268435456),268435456),((-268435456),268435456),((-268435456),268435456),((-268435456),268435456),((-268435456),268435456),((-268435456),268435456),((-268435456),268435456),((-268435456),268435456),((-268435456),268435456)],.i 3 3,aI,aI,aI,aI,.i 3 3,aI,aI,aI,aI,.i 3 3,aI,aI,aI,aI,.i 3 3,aI,aI,aI,aI,.i 3 3,aI,aI,aI,aI,.i 3 3,aI,aI,aI,aI,.b,.b,.b,.b,.b,.b,.i 0 255,.i 0 255,.i 0 255,.i 0 255,.b,.b,aI,.l 0 (some 256) [((-68719476736),68719476736),((-68719476736),68719476736),((-68719476736),68719476736),((-68719476736),68719476736),(0,255),(0,255),(0,255),(0,255)],.l 0 (some 256) [(0,1)],aI,.b,.b,aI,aI,aI,aI,aI,aI,aI,.b,aI,.b,aI,aI,.b,.b,.b,aI,aI,aI,aI,.b,aI,.b,.b,aI,aI,.b,.b,.b,.b],[(.eq (.len 101) (.mul (.v 99) (.v 100))),(.eq (.len 102) (.mul (.v 99) (.v 100))),(.eq (.len 158) (.len 159))],(.add (.mul (.c (-1)) (.v 97)) (.len 0))⟩)]
 |14=>[(14003,6,⟨[.l 1 (some 101) [],.i 0 100],[(.le (.add (.len 6) (.c 0)) (.add (.v 7) (.len 5))),(.le (.c 0) (.v 7)),(.le (.v 7) (.len 1))],(.add (.mul (.c (-1)) (.v 7)) (.len 1))⟩)]
 |15=>[(15003,95,⟨[.l 0 (some 1099511627776) [cI],.i 0 1099511627776],[(.le (.add (.len 95) (.c 0)) (.add (.v 96) (.c 0))),(.le (.c 0) (.v 96)),(.le (.v 96) (.len 3))],(.add (.mul (.c (-1)) (.v 96)) (.len 3))⟩)]
 |18=>[(18004,5218,⟨[.i 0 256,aI,aI,aI,.l 0 (some 512000000000) [cI,cI,cI,cI,cI,cI,cI,cI],.b],[(.le (.len 5222) (.mul (.c 2000000000) (.v 5218))),(.le (.c 0) (.v 5218)),(.le (.v 5218) (.len 5216))],(.add (.mul (.c (-1)) (.v 5218)) (.len 5216))⟩),(33003,5742,⟨[.i 0 256,.l 0 (some 256) [((-68719476736),68719476736),((-68719476736),68719476736),((-68719476736),68719476736),((-68719476736),68719476736),(0,255),(0,255),(0,255),(0,255)]],[(.le (.c 0) (.v 5742)),(.eq (.len 5743) (.len 5741)),(.le (.add (.len 5743) (.c 0)) (.add (.v 5742) (.len 5741))),(.le (.v 5742) (.len 5741)),(.le (.v 5742) (.len 5224))],(.add (.mul (.c (-1)) (.v 5742)) (.len 5743))⟩),(51004,5748,⟨[.i 0 131072,.l 1 (some 131072) [((-268435456),268435456),((-268435456),268435456),(0,16777215),(0,255),(0,255),(0,255),(0,255)],.l 0 (some 256) [((-68719476736),68719476736),((-68719476736),68719476736),((-68719476736),68719476736),((-68719476736),68719476736),(0,255),(0,255),(0,255),(0,255)]],[(.le (.c 0) (.v 5748)),(.eq (.len 5749) (.len 5747)),(.le (.add (.len 5749) (.c 0)) (.add (.v 5748) (.len 5747))),(.eq (.len 5750) (.len 5743)),(.le (.add (.len 5750) (.c 0)) (.add (.v 5748) (.len 5743))),(.le (.v 5748) (.len 5747)),(.le (.v 5748) (.len 5744)),(.le (.v 5748) (.len 5745))],(.add (.mul (.c (-1)) (.v 5748)) (.len 5749))⟩),(49002,5745,⟨[.i 0 1099511627776],[(.le (.c 0) (.v 5745))],(.add (.mul (.c (-1)) (.v 5745)) (.len 2143))⟩)]
 |19=>[(148003,4720,⟨[.i 0 512000000000,.i 0 512000000000,.l 0 (some 10000) [cI],.l 0 (some 10000) [cI]],[(.eq (.len 4722) (.mul (.v 4715) (.v 4716))),(.eq (.len 4723) (.mul (.v 4715) (.v 4716))),(.le (.c 0) (.v 4720)),(.le (.c 0) (.v 4721)),(.eq (.len 4722) (.len 4718)),(.le (.add (.len 4722) (.c 0)) (.add (.v 4720) (.len 4718))),(.le (.add (.len 4722) (.c 0)) (.add (.v 4721) (.len 4718))),(.eq (.len 4723) (.len 4717)),(.le (.add (.len 4723) (.c 0)) (.add (.v 4720) (.len 4717))),(.le (.add (.len 4723) (.c 0)) (.add (.v 4721) (.len 4717))),(.le (.v 4720) (.len 4713)),(.le (.add (.v 4720) (.c 0)) (.add (.v 4721) (.c 0))),(.le (.v 4721) (.len 4713))],(.add (.mul (.c (-1)) (.v 4721)) (.len 4713))⟩)]
 |24=>[(95003,4202,⟨[.i 0 16,.l 16 (some 16) [((-268435456),268435456)]],[(.le (.c 0) (.v 4202)),(.eq (.len 4203) (.len 4201)),(.le (.add (.len 4203) (.c 0)) (.add (.v 4202) (.len 4201))),(.le (.v 4202) (.len 4201))],(.add (.mul (.c (-1)) (.v 4202)) (.len 95))⟩),(95003,4201,⟨[.i 0 4,.l 4 (some 4) [((-1048576),1048576)]],[(.le (.c 0) (.v 4201)),(.eq (.len 4202) (.len 4200)),(.le (.add (.len 4202) (.c 0)) (.add (.v 4201) (.len 4200))),(.le (.v 4201) (.len 4200))],(.add (.mul (.c (-1)) (.v 4201)) (.len 95))⟩),(148003,4207,⟨[.i 0 512000000000,.i 0 512000000000,.l 0 (some 10000) [cI],.l 0 (some 10000) [cI]],[(.eq (.len 4209) (.mul (.v 4202) (.v 4203))),(.eq (.len 4210) (.mul (.v 4202) (.v 4203))),(.le (.c 0) (.v 4207)),(.le (.c 0) (.v 4208)),(.eq (.len 4209) (.len 4205)),(.le (.add (.len 4209) (.c 0)) (.add (.v 4207) (.len 4205))),(.le (.add (.len 4209) (.c 0)) (.add (.v 4208) (.len 4205))),(.eq (.len 4210) (.len 4204)),(.le (.add (.len 4210) (.c 0)) (.add (.v 4207) (.len 4204))),(.le (.add (.len 4210) (.c 0)) (.add (.v 4208) (.len 4204))),(.le (.v 4207) (.len 4200)),(.le (.add (.v 4207) (.c 0)) (.add (.v 4208) (.c 0))),(.le (.v 4208) (.len 4200))],(.add (.mul (.c (-1)) (.v 4208)) (.len 4200))⟩)]
 |26=>[(26004,10,⟨[.b,.i 0 1099511627776],[(.le (.c 0) (.v 11)),(.le (.v 11) (.len 2)),(.le (.v 11) (.len 6))],(.add (.mul (.c (-1)) (.v 11)) (.len 6))⟩),(26009,12,⟨[.b,.i 0 1099511627776],[(.le (.c 0) (.v 13)),(.le (.v 13) (.len 3)),(.le (.v 13) (.len 7))],(.add (.mul (.c (-1)) (.v 13)) (.len 7))⟩)]
 |29=>[(29003,95,⟨[.l 0 (some 6) [(3,3),cI,cI,cI,cI],.i 0 6],[(.le (.add (.len 95) (.c 0)) (.add (.v 96) (.c 0))),(.le (.c 0) (.v 96))],(.add (.mul (.c (-1)) (.v 96)) (.c 6))⟩)]
 |34=>[(34004,2,⟨[.b,.i 0 1099511627776],[(.le (.c 0) (.v 3)),(.le (.v 3) (.len 0)),(.le (.v 3) (.len 1))],(.add (.mul (.c (-1)) (.v 3)) (.len 1))⟩)]
 |43=>[(43005,2,⟨[.l 3 (some 3) [(0,mx),(0,0),(0,0),(0,0),(0,0)],.i 0 3],[(.eq (.len 2) (.len 1)),(.le (.add (.len 2) (.c 0)) (.add (.v 3) (.len 1))),(.le (.c 0) (.v 3)),(.le (.v 3) (.len 1))],(.add (.mul (.c (-1)) (.v 3)) (.c 3))⟩),(43010,4,⟨[.i 0 0,.l 3 (some 9) [cI,cI,cI,cI,cI],.i 0 6],[(.le (.c 0) (.v 4)),(.le (.v 4) (.c 0)),(.le (.add (.len 5) (.c 0)) (.add (.v 6) (.len 2))),(.le (.c 0) (.v 6)),(.le (.v 4) (.len 2)),(.le (.v 4) (.len 1)),(.le (.v 4) (.len 0)),(.le (.add (.v 4) (.c 0)) (.add (.v 6) (.c 0))),(.le (.v 6) (.len 0))],(.add (.mul (.c (-1)) (.v 6)) (.len 0))⟩)]
 |57=>[(57007,5,⟨[.i 0 0,.i 0 40],[(.or (.not (.lt (.c 0) (.v 6))) (.and (.le (.get 3 (.c 0) 0) (.get 1 (.c 0) 0)) (.le (.get 1 (.c 0) 0) (.get 3 (.c 0) 1)))),(.le (.c 0) (.v 5)),(.le (.v 5) (.c 0)),(.le (.c 0) (.v 6)),(.le (.v 5) (.len 3)),(.le (.v 5) (.len 1)),(.le (.add (.v 5) (.c 0)) (.add (.v 6) (.c 0))),(.le (.v 6) (.len 3)),(.le (.v 6) (.len 1))],(.add (.mul (.c (-1)) (.v 6)) (.len 3))⟩)]
 |65=>[(65003,6,⟨[.b,.i 0 4],[(.le (.c 0) (.v 7))],(.add (.mul (.c (-1)) (.v 7)) (.c 4))⟩)]
 |71=>[(71003,23,⟨[.b,.i 0 1099511627776,aI,aI,aI,aI],[(.le (.c 0) (.v 24)),(.le (.v 24) (.len 16))],(.add (.mul (.c (-1)) (.v 24)) (.len 16))⟩)]
 |73=>[(73005,5,⟨[.l 0 (some 131072) [cI,cI,cI,cI,cI,cI,cI,cI,cI,(0,1)],.i 0 9],[(.le (.len 5) (.shl (.c 256) (.v 6)))],(.sub (.len 2) (.v 6))⟩),(116002,9,⟨[.l 0 (some 65536) [cI,cI,cI,cI,cI,cI,cI,cI,cI,(0,1)],.i 0 65536],[(.eq (.len 9) (.len 5)),(.le (.add (.len 9) (.c 0)) (.add (.v 10) (.len 5))),(.le (.c 0) (.v 10)),(.le (.v 10) (.len 5))],(.add (.mul (.c (-1)) (.v 10)) (.len 9))⟩),(116008,11,⟨[.l 0 (some 131072) [cI,cI,cI,cI,cI,cI,cI,cI,cI,(0,1)],.i 0 65536],[(.le (.len 11) (.mul (.c 2) (.v 12))),(.le (.v 12) (.shl (.c 256) (.v 6))),(.le (.c 0) (.v 12)),(.le (.v 12) (.len 9)),(.le (.v 12) (.len 5))],(.add (.mul (.c (-1)) (.v 12)) (.len 9))⟩)]
 |84=>[(84006,1570,⟨[.i 0 100,.l 0 (some 10000) [cI],.l 0 (some 10000) [cI]],[(.eq (.len 1571) (.mul (.v 0) (.v 1))),(.eq (.len 1572) (.mul (.v 0) (.v 1))),(.le (.v 1565) (.v 1570)),(.eq (.len 1571) (.len 26)),(.le (.add (.len 1571) (.v 1565)) (.add (.v 1570) (.len 26))),(.eq (.len 1572) (.len 25)),(.le (.add (.len 1572) (.v 1565)) (.add (.v 1570) (.len 25)))],(.add (.mul (.c (-1)) (.v 1570)) (.v 1567))⟩),(84010,1573,⟨[.i 0 100,.l 0 (some 10000) [cI],.l 0 (some 10000) [cI]],[(.eq (.len 1574) (.mul (.v 0) (.v 1))),(.eq (.len 1575) (.mul (.v 0) (.v 1))),(.le (.c 0) (.v 1573)),(.eq (.len 1574) (.len 1571)),(.le (.add (.len 1574) (.c 0)) (.add (.v 1573) (.len 1571))),(.eq (.len 1575) (.len 1572)),(.le (.add (.len 1575) (.c 0)) (.add (.v 1573) (.len 1572))),(.le (.v 1573) (.len 1571)),(.le (.v 1573) (.len 1572)),(.le (.v 1573) (.len 25)),(.le (.v 1573) (.len 26)),(.le (.v 1573) (.len 2)),(.le (.v 1573) (.len 3))],(.add (.mul (.c (-1)) (.v 1573)) (.add (.mul (.c (-1)) (.v 1564)) (.v 1566)))⟩)]
 |86=>[(86003,6,⟨[.b,.i 0 4],[(.le (.c 0) (.v 7))],(.add (.mul (.c (-1)) (.v 7)) (.c 4))⟩)]
 |112=>[(112012,35,⟨[.l 0 (some 10000) [(0,mx),(0,99),cI,cI,cI,cI,cI,cI],.i 0 1048707,.l 0 (some 100) [cI]],[(.le (.len 35) (.mul (.c 100) (.v 36))),(.le (.v 33) (.v 36)),(.eq (.len 37) (.len 32)),(.le (.add (.len 37) (.v 33)) (.add (.v 36) (.len 32)))],(.add (.mul (.c (-1)) (.v 36)) (.v 34))⟩),(162003,40,⟨[.i 0 8,.l 0 (some 100) [cI]],[(.le (.c 0) (.v 40)),(.eq (.len 41) (.len 38)),(.le (.add (.len 41) (.c 0)) (.add (.v 40) (.len 38)))],(.add (.mul (.c (-1)) (.v 40)) (.c 8))⟩),(112017,42,⟨[.l 0 (some 10000) [(0,mx),(0,99),cI,cI,cI,cI,cI,cI],.i 0 100],[(.le (.add (.len 42) (.c 0)) (.add (.v 43) (.len 35))),(.le (.c 0) (.v 43)),(.le (.v 43) (.len 41)),(.le (.v 43) (.len 38)),(.le (.v 43) (.len 37))],(.add (.mul (.c (-1)) (.v 43)) (.len 41))⟩),(162008,45,⟨[.i 0 8389392,.l 0 (some 100) [cI]],[(.le (.wrap .i64 (.sub (.c 0) (.v 44))) (.v 45)),(.eq (.len 46) (.len 41)),(.le (.add (.len 46) (.wrap .i64 (.sub (.c 0) (.v 44)))) (.add (.v 45) (.len 41)))],(.sub (.c 1073741826) (.v 45))⟩)]
 |113=>[(113012,4135,⟨[.i 0 200,.l 0 (some 12800) [((-64),mx),((-64),mx),cI,cI,cI,cI,cI,(64,64)]],[(.le (.len 4136) (.mul (.c 64) (.v 4135))),(.le (.c 0) (.v 4135)),(.le (.v 4135) (.len 4134))],(.add (.mul (.c (-1)) (.v 4135)) (.len 4134))⟩),(113018,4145,⟨[.i 0 64,.i (-64) 164,.i (-64) 164,.l 0 (some 12800) [((-64),mx),((-64),mx),cI,cI,cI,cI,cI,(64,64)]],[(.le (.c 0) (.v 4145)),(.le (.get 4134 (.v 4135) 1) (.v 4146)),(.le (.get 4134 (.v 4135) 2) (.v 4147)),(.le (.add (.len 4148) (.c 0)) (.add (.v 4145) (.len 4136))),(.le (.add (.v 4146) (.c 0)) (.add (.v 4145) (.get 4134 (.v 4135) 1))),(.le (.add (.v 4147) (.c 0)) (.add (.v 4145) (.get 4134 (.v 4135) 2)))],(.add (.mul (.c (-1)) (.v 4145)) (.v 14))⟩),(113012,7210,⟨[.i 0 200,.l 0 (some 12800) [((-64),mx),((-64),mx),cI,cI,cI,cI,cI,(64,64)]],[(.le (.len 7211) (.mul (.c 64) (.v 7210))),(.le (.c 0) (.v 7210)),(.le (.v 7210) (.len 7209))],(.add (.mul (.c (-1)) (.v 7210)) (.len 7209))⟩),(113018,7220,⟨[.i 0 64,.i (-64) 164,.i (-64) 164,.l 0 (some 12800) [((-64),mx),((-64),mx),cI,cI,cI,cI,cI,(64,64)]],[(.le (.c 0) (.v 7220)),(.le (.get 7209 (.v 7210) 1) (.v 7221)),(.le (.get 7209 (.v 7210) 2) (.v 7222)),(.le (.add (.len 7223) (.c 0)) (.add (.v 7220) (.len 7211))),(.le (.add (.v 7221) (.c 0)) (.add (.v 7220) (.get 7209 (.v 7210) 1))),(.le (.add (.v 7222) (.c 0)) (.add (.v 7220) (.get 7209 (.v 7210) 2)))],(.add (.mul (.c (-1)) (.v 7220)) (.v 14))⟩)]
 |114=>[(114004,3,⟨[.b,.i 0 256],[(.le (.c 0) (.v 4)),(.le (.v 4) (.len 0)),(.le (.v 4) (.len 1))],(.add (.mul (.c (-1)) (.v 4)) (.len 0))⟩),(114010,5,⟨[.b,.i 0 9],[(.le (.c 0) (.v 6)),(.le (.v 6) (.len 2))],(.add (.mul (.c (-1)) (.v 6)) (.len 2))⟩)]
 |115=>[(115003,3,⟨[.l 0 (some 256) [cI,cI,cI,cI,cI,cI,cI,cI,(0,0),(0,1)],.i 0 256],[(.eq (.len 3) (.len 2)),(.le (.add (.len 3) (.c 0)) (.add (.v 4) (.len 2))),(.le (.c 0) (.v 4)),(.le (.v 4) (.len 2)),(.le (.v 4) (.len 0)),(.le (.v 4) (.len 1))],(.add (.mul (.c (-1)) (.v 4)) (.len 3))⟩)]
 |117=>[(117005,2562,⟨[.l 1 (some 131072) [cI,cI,cI,cI,cI,cI,cI,cI],.l 1 (some 131072) [(0,1)],.i 0 131072],[(.eq (.len 2562) (.len 1025)),(.le (.add (.len 2562) (.c 0)) (.add (.v 2564) (.len 1025))),(.eq (.len 2563) (.len 2561)),(.le (.add (.len 2563) (.c 0)) (.add (.v 2564) (.len 2561))),(.le (.c 0) (.v 2564)),(.le (.v 2564) (.len 2561)),(.le (.v 2564) (.len 1025)),(.le (.v 2564) (.len 0))],(.add (.mul (.c (-1)) (.v 2564)) (.len 2563))⟩)]
 |118=>[(118004,22,⟨[.b,.i 0 131072],[(.le (.c 0) (.v 23)),(.le (.v 23) (.len 0)),(.le (.v 23) (.len 1))],(.add (.mul (.c (-1)) (.v 23)) (.len 0))⟩)]
 |122=>[(122003,22,⟨[.l 0 (some 1310720000) [cI,cI,cI,cI,cI,cI,cI,cI],.i 2 131072],[(.le (.len 22) (.mul (.c 10000) (.v 23))),(.le (.c 2) (.v 23))],(.add (.mul (.c (-1)) (.v 23)) (.len 0))⟩)]
 |123=>[(123004,23,⟨[.l 0 (some 1677721600) [cI,cI,cI,cI,cI,cI,cI,cI],.i 0 131072,aI,aI,aI],[(.le (.len 23) (.mul (.c 12800) (.v 24))),(.le (.c 0) (.v 24)),(.le (.v 24) (.len 0)),(.le (.v 24) (.len 1))],(.add (.mul (.c (-1)) (.v 24)) (.len 1))⟩)]
 |124=>[(124003,22,⟨[.l 0 (some 1310720000) [cI,cI,cI,cI,cI,cI,cI,cI],.i 0 131072],[(.le (.len 22) (.mul (.c 10000) (.v 23))),(.le (.c 0) (.v 23)),(.le (.v 23) (.len 0)),(.le (.v 23) (.len 1))],(.add (.mul (.c (-1)) (.v 23)) (.len 0))⟩)]
 |134=>[(134005,5636,⟨[.i 0 1048576,.l 1 (some 1048576) [(0,16777215)]],[(.le (.c 0) (.v 5636)),(.eq (.len 5637) (.len 4611)),(.le (.add (.len 5637) (.c 0)) (.add (.v 5636) (.len 4611))),(.le (.v 5636) (.len 4611)),(.le (.v 5636) (.len 2563))],(.add (.mul (.c (-1)) (.v 5636)) (.len 5637))⟩)]
 |141=>[(141009,4,⟨[.b,.i 0 8],[(.le (.c 0) (.v 5)),(.le (.v 5) (.len 1))],(.add (.mul (.c (-1)) (.v 5)) (.len 1))⟩),(141009,6,⟨[.b,.i 0 8,.b],[(.le (.c 0) (.v 7)),(.le (.v 7) (.len 2))],(.add (.mul (.c (-1)) (.v 7)) (.len 2))⟩)]
 |151=>[(151003,11,⟨[.i 0 64,.i 0 8],[(.le (.v 11) (.mul (.c 8) (.v 12))),(.le (.c 0) (.v 11)),(.le (.c 0) (.v 12))],(.add (.mul (.c (-1)) (.v 12)) (.c 8))⟩),(151008,13,⟨[.i 0 64,.i 0 8],[(.le (.v 13) (.add (.mul (.c 8) (.v 12)) (.v 14))),(.le (.v 11) (.v 13)),(.le (.c 0) (.v 14)),(.le (.add (.v 13) (.c 0)) (.add (.v 14) (.v 11)))],(.add (.mul (.c (-1)) (.v 14)) (.c 8))⟩)]
 |175=>[(175003,2,⟨[.i 2 131072,aI,.i 0 18446744073709551615],[(.le (.c 2) (.v 2)),(.le (.c 0) (.v 4))],(.add (.mul (.c (-1)) (.v 2)) (.len 0))⟩)]
 |177=>[(177007,89,⟨[.l 0 (some 10000) [(0,99),(0,100),(0,16777215),cI,cI,cI,cI,(64,64)],.i 0 100],[(.le (.len 89) (.mul (.c 100) (.v 90))),(.le (.c 0) (.v 90)),(.le (.v 90) (.len 30))],(.add (.mul (.c (-1)) (.v 90)) (.len 30))⟩),(177011,93,⟨[.i 0 5,aI,.i 0 18446744073709551615,aI,.i 0 18446744073709551615,aI,.i 0 18446744073709551615,aI,.i 0 18446744073709551615,aI,.i 0 18446744073709551615],[],(.add (.mul (.c (-1)) (.v 93)) (.c 5))⟩),(177016,104,⟨[.l 0 (some 10000) [(0,99),(0,100),(0,16777215),cI,cI,cI,cI,(64,64)],.i 0 100,aI,.i 0 18446744073709551615,aI,.i 0 18446744073709551615,aI,.i 0 18446744073709551615,aI,.i 0 18446744073709551615,aI,.i 0 18446744073709551615],[(.le (.add (.len 104) (.get 30 (.v 90) 1)) (.add (.v 105) (.len 89)))],(.add (.mul (.c (-1)) (.v 105)) (.get 30 (.v 90) 2))⟩),(177021,118,⟨[.i 0 4,aI,aI,aI,aI],[(.le (.c 0) (.v 118))],(.add (.mul (.c (-1)) (.v 118)) (.c 4))⟩),(177027,125,⟨[.i 0 5,aI,.i 0 18446744073709551615,aI,.i 0 18446744073709551615,aI,.i 0 18446744073709551615,aI,.i 0 18446744073709551615,aI,.i 0 18446744073709551615],[],(.add (.mul (.c (-1)) (.v 125)) (.c 5))⟩)]
 |186=>[(186003,5,⟨[.l 0 (some 16) [cI,cI],.i 0 16],[(.eq (.len 5) (.len 4)),(.le (.add (.len 5) (.c 0)) (.add (.v 6) (.len 4))),(.le (.c 0) (.v 6)),(.le (.v 6) (.len 4))],(.add (.mul (.c (-1)) (.v 6)) (.len 5))⟩)]
 |202=>[(202004,3,⟨[aI,aI],[(.le (.c 0) (.v 3)),(.le (.v 3) (.v 4)),(.le (.c 0) (.v 3)),(.le (.v 4) (.c mx)),(.le (.add (.v 4) (.c 0)) (.add (.v 3) (.c mx)))],(.sub (.v 4) (.v 3))⟩)]
 |221=>[(221008,31,⟨[.l 0 (some 100) [(0,99),(0,99),(1,100)],.i 0 1048575],[(.or (.eq (.len 31) (.c 0)) (.le (.v 32) (.c 100))),(.le (.add (.len 31) (.max (.v 22) (.sub (.ediv (.min (.min (.v 1) (.v 8)) (.v 15)) 256) (.c 1)))) (.add (.v 32) (.c 0))),(.le (.max (.v 22) (.sub (.ediv (.min (.min (.v 1) (.v 8)) (.v 15)) 256) (.c 1))) (.v 32))],(.add (.mul (.c (-1)) (.v 32)) (.add (.ediv (.max (.max (.v 1) (.v 8)) (.v 15)) 256) (.c 2)))⟩),(221012,33,⟨[.i (-4611686018427387905) 4611686018427387905,.i (-4611686018427387905) 4611686018427387905,.i 0 3],[(.or (.not (.lt (.v 33) (.v 34))) (.and (.le (.v 21) (.v 33)) (.le (.v 34) (.v 23)))),(.le (.c 0) (.v 35)),(.le (.v 35) (.len 29))],(.add (.mul (.c (-1)) (.v 35)) (.len 29))⟩)]
 |104106=>[(104003,8,⟨[.l 0 (some 10000) [cI,cI,cI,cI,cI,cI,cI,(1,mx)],.i 0 100],[(.le (.len 8) (.mul (.c 100) (.sub (.v 9) (.v 1)))),(.le (.v 1) (.v 9))],(.add (.mul (.c (-1)) (.v 9)) (.v 3))⟩),(104006,10,⟨[.l 0 (some 10000) [cI,cI,cI,cI,cI,cI,cI,(1,mx)],.i 0 100],[(.le (.len 10) (.add (.mul (.c 100) (.sub (.v 9) (.v 1))) (.sub (.v 11) (.v 0)))),(.le (.add (.len 10) (.v 0)) (.add (.v 11) (.len 8))),(.le (.v 0) (.v 11))],(.add (.mul (.c (-1)) (.v 11)) (.v 2))⟩)]
 |104150=>[(104003,7,⟨[.l 0 (some 10000) [(0,100),(0,100),cI,cI,cI,cI,cI,(1,mx)],.i 0 100],[(.le (.len 7) (.mul (.c 100) (.sub (.v 8) (.v 1)))),(.le (.v 1) (.v 8))],(.add (.mul (.c (-1)) (.v 8)) (.v 3))⟩),(104006,9,⟨[.l 0 (some 10000) [(0,100),(0,100),cI,cI,cI,cI,cI,(1,mx)],.i 0 100],[(.le (.len 9) (.add (.mul (.c 100) (.sub (.v 8) (.v 1))) (.sub (.v 10) (.v 0)))),(.le (.add (.len 9) (.v 0)) (.add (.v 10) (.len 7))),(.le (.v 0) (.v 10))],(.add (.mul (.c (-1)) (.v 10)) (.v 2))⟩)]
 |_=>[]
end Go.Sx
namespace Go.Proofs.YtohebioanhliiaaGreatDoor.aN
open Go.Sx
def kc(k:Nat):Cn:=match lD k with
 | some s=>let c:=aiM k (ac4 s)
   ⟨c.args.map A.cap,c.pre,c.res.map A.cap,c.post⟩
 |none=>⟨[],[],[],[]⟩
def an(k:Nat):An:=⟨lps k,ua k,if k=24\/k=18 then(1,12)else if k=19 then(1,0)else(mn,mx)⟩
end Go.Proofs.YtohebioanhliiaaGreatDoor.aN
namespace Go.Proofs.YtohebioanhliiaaGreatDoor.aN
open Go.Sx
def ord:List Nat:=[283,140,243,266,87,146,169,9,56,37,23,41,65,42,28,100,66,43,29,47,44,46,30,101,67,174,195,149,102,151,150,104150,103,107,106,104106,105,69,109,155,139,196,240,197,156,110,157,267,241,242,198,199,158,111,71,159,200,201,202,160,161,246,245,205245,163,204,244,203,112,164,165,210,211,247,250,251,284,268,207,208,166,168,170,213,171,172,113,72,114,115,117,173,73,118,119,214,215,216,175,121,120,220,176,269,252,270,271,253,221,222,272,273,254,223,224,225,177,122,123,124,74,152,153,154,108,18,186,132,133,80,57,59,135,136,137,84,86,88,187,143,141,90,91,144,188,145,92,93,94,134,193,232,233,235,264,236,265,237,262,24,12,55,11,21,13,14,25,15,26,16,99,64,40,27,17,34,20,19,10,3,4,5,6,7,8]
abbrev one(P:Program)(i k:Nat):Bool:=P5 (mN P lK) kc an (ord.take i) k
def Kw(k i j:Nat):Option Cn:=match Vw kc (ord.take i) j with
 |some c=>some (VR k j c)
 |none=>none
def Sw(k:Nat)(p:BE):Bool:=(aae k).any p.beq
abbrev amA(P:Program)(i k:Nat):Bool:=match mN P lK k with
 |some e=>Nat.ble (bare k (kc k)).args.length R0&&(zu (Kw k i) e.key (an k) (bare k (kc k)) (e.tree.strip (Sw k))).isEmpty
 |none=>false
def rowOf(k:Nat):oe:=(lV k lK).getD ⟨0,cB,[],⟨[],[],0⟩,[]⟩
def kd:Kind:=⟨58,31,128,33,178,[(1,[0,255]),(2,[0,1])]⟩
def xs:List Nat:=[283,140,243,266,87,146,169]
abbrev row(P:Program)(k:Nat):Bool:=M7 P kd lD lK xs k (rowOf k)&&(im P (rowOf k)).n5 (bP (rowOf k).s.res)
abbrev part(P:Program)(i n:Nat):Bool:=DG P (rowOf 24) (Vw kc (ord.take i)) (iU.key ⟨24,.stuck "",(rowOf 24).sub⟩) (an 24) (kc 24) 94 n
abbrev rest(P:Program)(i:Nat):Bool:=Hi P (rowOf 24) (Vw kc (ord.take i)) (iU.key ⟨24,.stuck "",(rowOf 24).sub⟩) (an 24) (kc 24) 94 33
end Go.Proofs.YtohebioanhliiaaGreatDoor.aN
